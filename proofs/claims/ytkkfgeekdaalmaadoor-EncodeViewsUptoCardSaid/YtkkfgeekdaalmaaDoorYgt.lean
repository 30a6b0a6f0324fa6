/-
  Texts joined: Q4 Q5 Q6 Q7 Q8 Q9 Q10 Q11 T2.
-/
import Derived.Test.YtkkfgeekdaalmaaDoorYgs
namespace Go.Fw
open Go Go.RowKit
theorem View.join_nil (M : View) : View.le M (View.join View.nil M) := fun b o e => e
theorem View.nil_join (M : View) : View.le (View.join View.nil M) M := fun b o e => e
theorem View.join_l (F G : View) : View.le F (View.join F G) := fun b o e => by unfold View.join; rw [e]
theorem View.join_r {F G M : View} (h1 : View.le F M) (h2 : View.le G M) : View.le G (View.join F G) := fun b o e => by
  unfold View.join
  cases hF : F b with
  | none => exact e
  | some o' =>
    have e1 := h1 b o' hF
    rw [h2 b o e] at e1
    exact e1.symm
theorem View.join_le {F G M : View} (h1 : View.le F M) (h2 : View.le G M) : View.le (View.join F G) M := fun b o e => by
  unfold View.join at e
  split at e
  · rename_i o' hF
    rw [← e]
    exact h1 b o' hF
  · exact h2 b o e
theorem View.freshM_join {F G : View} {w : World} {mu : List Nat} (h1 : View.freshM F w mu) (h2 : View.freshM G w mu) : View.freshM (View.join F G) w mu := fun b o e => by
  unfold View.join at e
  split at e
  · rename_i o' hF
    exact h1 b o' hF
  · exact h2 b o e
/-- Views that grow: M is what was there, F what came, G what comes. -/
structure VJ (F G M X : View) : Prop where
  f : View.le F (View.join (View.join F G) M)
  g : View.le G (View.join (View.join F G) M)
  m : View.le M (View.join (View.join F G) M)
  fm : View.le (View.join F M) (View.join (View.join F G) M)
  x : View.le (View.join (View.join F G) M) X
  fg : View.le F (View.join F G)
  gg : View.le G (View.join F G)
theorem VJ.mk' {F G M X : View} (hFM : View.le M (View.join F M)) (h1 : View.le (View.join F M) X) (h2 : View.le G X) : VJ F G M X :=
  have hF : View.le F X := (View.join_l F M).trans h1
  have hM : View.le M X := hFM.trans h1
  have c := View.join_r (View.join_le hF h2) hM
  have a := (View.join_l F G).trans (View.join_l (View.join F G) M)
  ⟨a, (View.join_r hF h2).trans (View.join_l _ _), c, View.join_le a c, View.join_le (View.join_le hF h2) hM, View.join_l F G, View.join_r hF h2⟩
end Go.Fw
namespace Go.Proofs.YtkkfgeekdaalmaaDoor
set_option maxRecDepth 20000
set_option linter.unusedSimpArgs false
set_option linter.unusedVariables false
open Go Go.Fw
structure LiSt (d : Nat) where
  j : Nat
  e : Nat
  a : Option Addr
  n : Nat
  c : Nat
  rest : List Int
  r : Option Nat
  A : Option Addr
  cap : Nat
  sp : List Value
  L : List (It d)
  F : View
theorem rdN_step {f : List Int → Nat × List Int} {k : Nat} {b : List Int} {e : Nat} {r : List Int} (h : f b = (e, r)) : rdN f (k + 1) b = if e = 0 then rdN f k r else (e, []) := by
  rw [rdN, h]
theorem flat_snoc' {α : Type} (enc : α → List Value) (l : List α) (x : α) : flat enc (l ++ [x]) = flat enc l ++ enc x := by unfold flat; rw [List.flatMap_append, List.flatMap_singleton]
end Go.Proofs.YtkkfgeekdaalmaaDoor
namespace Go.Proofs.YtkkfgeekdaalmaaDoor
set_option maxRecDepth 20000
set_option linter.unusedSimpArgs false
set_option linter.unusedVariables false
open Go Go.Fw
attribute [local irreducible] CW OL OD FX Stp FnC FnV FnA FnM Ret bI encI okI numB rdE rdN
set_option maxHeartbeats 3200000
/-- A list. -/
theorem item_list {M : View} {w : World} (hM : View.le M (View.of w)) {d rb : Nat} {r : List Int} {a : Option Addr} {n c : Nat} (hok : ∀ x ∈ [rdB rb a n c 0], x.ok w) (hsep : ∀ x ∈ [rdB rb a n c 0], ∀ b, x.ref = some b → M b = none) (hnd : (refs [rdB rb a n c 0]).Nodup) (hv : BV M (3 :: r) a n c) (hn47 : n ≤ 16384) (hd : d ≤ 100)
    (ih : ∀ {M : View} {w : World}, View.le M (View.of w) → ∀ {l : List Int} {a : Option Addr} {n c : Nat}, (∀ x ∈ [rdB rb a n c 0], x.ok w) → (∀ x ∈ [rdB rb a n c 0], ∀ b, x.ref = some b → M b = none) → (refs [rdB rb a n c 0]).Nodup → BV M l a n c → n ≤ 16384 → FnM Tryd.prog 39 [.pointer (some ⟨rb, 0, none⟩), .int .i64 (d : Nat)] w [rdB rb a n c 0] (ItmR d l M rb)) :
    FnM Tryd.prog 39 [.pointer (some ⟨rb, 0, none⟩), .int .i64 ((d + 1 : Nat) : Int)] w [rdB rb a n c 0] (ItmR (d + 1) (3 :: r) M rb) := by
  have hn : 1 ≤ n := by have := hv.hn; rw [List.length_cons] at this; omega
  have hrl : r.length = n - 1 := by have := hv.hn; rw [List.length_cons] at this; omega
  have k1 := fun (w' : World) (h : View.le M (View.of w')) hx1 hx2 hx3 => number_ok (rb := rb) h hx1 hx2 hx3 hv (k := 1) hn (by omega)
  rw [numB_one (by omega)] at k1
  have hv1 : BV M r (slicedA a 1 c 1) (n - 1) (c - 1) := hv.drop hn
  refine enterW (M := M) Tryd.func39 rfl rfl rfl rfl hM hok hsep hnd ?_
  generalize hmu : refs [rdB rb a n c 0] = mu
  clear hok hsep hnd
  refine cw_none 25 ?_
  by_cases h4 : r.length < 4
  · have hre : rdE (d + 1) (3 :: r) = (4, []) := by unfold rdE; rw [if_neg (by omega), if_pos (.inr h4)]
    repeat' first
      | apply cw_seq
      | (refine cw_region_id 0 ?_; (apply ol_val; rfl; apply s_alloc; exact zb_25; exact qN; intro bk4); (apply ol_nil))
      | (refine cw_region_id 1 ?_; (apply ol_mv; rfl; rfl); (apply ol_val; rfl; first | (apply s_callM (xs := [rdB rb a n c 0]); rfl; exact gf_48; (focus ((repeat (first | exact Pk.nil | (apply Pk.cons; (repeat (first | exact Spl.here | apply Spl.there))))); done)); (intro w' M2 hw' hrd; exact k1 w' hw'.le hrd.ok (fun x hx b hb => View.none_of hrd.le (hrd.sep x hx b hb)) hrd.nd); (intro v F9 ys M9 h hl9 hL9 hF9; obtain ⟨rfl, rfl⟩ := h)) | (apply s_callM (xs := [rdB rb (slicedA a 1 c 1) (n - 1) (c - 1) 0]); rfl; exact gf_48; (focus ((repeat (first | exact Pk.nil | (apply Pk.cons; (repeat (first | exact Spl.here | apply Spl.there))))); done)); (intro w' M2 hw' hrd; exact number_no (k := 4) (hl9.trans hw'.le) hrd.ok (fun x hx b hb => View.none_of (hl9.trans hrd.le) (hrd.sep x hx b hb)) hrd.nd (.inr (by omega))); (intro v F9 ys M9 h hl9 hL9 hF9; obtain ⟨rfl, rfl⟩ := h))); (apply ol_val; rfl; apply stp_pur; first | (apply s_conv; rfl; rfl; exact ti_3; (focus (apply wrap_i64; omega))) | (apply s_conv; rfl; rfl; exact ti_3; exact wrap_i64 (by omega)) | (apply s_conv; rfl; rfl; exact ti_3; rfl)); (apply ol_as; rfl; rfl); (apply ol_nil))
      | (refine cw_region_id 2 ?_; (apply ol_mv; rfl; rfl); (apply ol_val; rfl; apply stp_cmp; apply s_lss; rfl; rfl; all_goals (intro hc12; try (exfalso; (first | exact hc12 rfl | omega)))); all_goals (apply ol_mv; rfl; rfl); all_goals (first | (apply ol_gskip; rfl; rfl; exact qA; rfl) | (apply ol_gval; rfl; rfl; rfl; exact qA; apply stp_pur; apply s_move; rfl)); all_goals (first | (apply ol_gskip; rfl; rfl; exact qA; rfl) | (apply ol_gval; rfl; rfl; rfl; exact qA; apply stp_cmp; apply s_gtr; rfl; rfl; all_goals (intro hc15; try (exfalso; (first | exact hc15 rfl | omega))))); all_goals (apply ol_val; rfl; apply stp_pur; first | (apply s_pick_t; rfl; exact qA; rfl) | (apply s_pick_f; rfl; exact qA; rfl)); all_goals (apply ol_mv; rfl; rfl); all_goals (first | (apply ol_gskip; rfl; rfl; exact qA; rfl) | (apply ol_gval; rfl; rfl; rfl; exact qA; apply stp_pur; apply s_move; rfl)); all_goals (first | (apply ol_gskip; rfl; rfl; exact qA; rfl) | (apply ol_gval; rfl; rfl; rfl; exact qA; apply stp_cmp; apply s_eql; rfl; rfl; all_goals (intro hc19; try (exfalso; (first | exact hc19 rfl | omega))))); all_goals (first | (apply ol_gskip; rfl; rfl; exact qA; rfl) | (apply ol_gval; rfl; rfl; rfl; exact qA; apply stp_pur; apply s_move; rfl)); all_goals (first | (apply ol_gskip; rfl; rfl; exact qA; rfl) | (apply ol_gskipu; rfl; rfl; rfl) | (apply ol_gval; rfl; rfl; rfl; exact qA; apply stp_pur; apply s_move; rfl)); all_goals (first | (apply ol_gskip; rfl; rfl; exact qA; rfl) | (apply ol_gskipu; rfl; rfl; rfl) | (apply ol_gval; rfl; rfl; rfl; exact qA; apply stp_cmp; apply s_eql; rfl; rfl; all_goals (intro hc22; try (exfalso; (first | exact hc22 rfl | omega))))); all_goals (first | (apply ol_gskip; rfl; rfl; exact qA; rfl) | (apply ol_gval; rfl; rfl; rfl; exact qA; apply stp_pur; first | (apply s_pick_t; rfl; exact qA; rfl) | (apply s_pick_f; rfl; exact qA; rfl))); all_goals (apply ol_val; rfl; apply stp_pur; first | (apply s_pick_t; rfl; exact qA; rfl) | (apply s_pick_f; rfl; exact qA; rfl)); all_goals (apply ol_nil))
      | (refine cw_region_id 5 ?_; (apply ol_mv; rfl; rfl); (apply ol_val; rfl; apply stp_pur; apply s_buildS; rfl; exact fs_25; exact zb_25; exact qR); (apply ol_val; rfl; apply s_alloc; exact zb_25; exact qN; intro bk6); (apply ol_eff; apply s_storeN; rfl; rfl; exact sz_25; rfl; rfl; exact qN; exact qN); (apply ol_nil))
      | (refine cw_region_id 6 ?_; (apply ol_mv; rfl; rfl); (apply ol_nil))
      | (refine cw_region_id 7 ?_; (apply ol_val; rfl; apply stp_cmp; apply s_eql; rfl; rfl; all_goals (intro hc32; try (exfalso; (first | exact hc32 rfl | omega)))); all_goals (apply ol_as; rfl; rfl); all_goals (apply ol_nil))
      | (refine cw_region_id 9 ?_; (apply ol_val; rfl; apply stp_cmp; apply s_eql; rfl; rfl; all_goals (intro hc38; try (exfalso; (first | exact hc38 rfl | omega)))); all_goals (apply ol_as; rfl; rfl); all_goals (apply ol_nil))
      | (refine cw_region_id 11 ?_; (apply ol_val; rfl; apply stp_cmp; apply s_eql; rfl; rfl; all_goals (intro hc47; try (exfalso; (first | exact hc47 rfl | omega)))); all_goals (apply ol_as; rfl; rfl); all_goals (apply ol_nil))
      | (refine cw_region_id 12 ?_; (apply ol_mv; rfl; rfl); (apply ol_val; rfl; first | (apply s_callM (xs := [rdB rb a n c 0]); rfl; exact gf_48; (focus ((repeat (first | exact Pk.nil | (apply Pk.cons; (repeat (first | exact Spl.here | apply Spl.there))))); done)); (intro w' M2 hw' hrd; exact k1 w' hw'.le hrd.ok (fun x hx b hb => View.none_of hrd.le (hrd.sep x hx b hb)) hrd.nd); (intro v F49 ys M49 h hl49 hL49 hF49; obtain ⟨rfl, rfl⟩ := h)) | (apply s_callM (xs := [rdB rb (slicedA a 1 c 1) (n - 1) (c - 1) 0]); rfl; exact gf_48; (focus ((repeat (first | exact Pk.nil | (apply Pk.cons; (repeat (first | exact Spl.here | apply Spl.there))))); done)); (intro w' M2 hw' hrd; exact number_no (k := 4) (hl9.trans hw'.le) hrd.ok (fun x hx b hb => View.none_of (hl9.trans hrd.le) (hrd.sep x hx b hb)) hrd.nd (.inr (by omega))); (intro v F49 ys M49 h hl49 hL49 hF49; obtain ⟨rfl, rfl⟩ := h))); (apply ol_val; rfl; apply stp_pur; first | (apply s_conv; rfl; rfl; exact ti_3; (focus (apply wrap_i64; omega))) | (apply s_conv; rfl; rfl; exact ti_3; exact wrap_i64 (by omega)) | (apply s_conv; rfl; rfl; exact ti_3; rfl)); (apply ol_as; rfl; rfl); (apply ol_nil))
      | (refine cw_region_id 13 ?_; (apply ol_mv; rfl; rfl); (apply ol_val; rfl; apply stp_cmp; apply s_gtr; rfl; rfl; all_goals (intro hc52; try (exfalso; (first | exact hc52 rfl | omega)))); all_goals (apply ol_nil))
      | (refine cw_region_id 15 ?_; (apply ol_mv; rfl; rfl); (apply ol_mv; rfl; rfl); (apply ol_nil))
      | (apply cw_cond_true; rfl; exact qA)
      | (apply cw_cond_false; rfl; exact qA)
      | apply cw_skip
      | apply cw_ret
      | apply cw_block
      | apply cw_exit
    refine cw_loopK (σ := Nat) [0, 1, 4, 6, 55] (by (repeat (first | exact Keep.nil | (apply Keep.cons; rfl)))) (fun i => [(56, .int .i64 i)]) (fun _ => M) (fun _ => [rdB rb (slicedA a 1 c 1) (n - 1) (c - 1) (fe 0 4), ⟨some bk6, [.int .i64 3, .int .i64 0, .slice none 0 0, .slice none 0 0], 25⟩, ⟨some bk4, [.int .i64 0, .int .i64 0, .slice none 0 0, .slice none 0 0], 25⟩]) (fun i => i = 0) (fun i => 1 - i) 0 (by (repeat (first | exact trivial | refine And.intro rfl ?_))) (hl9.trans (by assumption)) (by exact qK) rfl ?_
    rintro i rfl
    repeat' first
      | apply cw_seq
      | (refine cw_region_id 16 ?_; (apply ol_val; rfl; apply stp_cmp; apply s_lss; rfl; rfl; all_goals (intro hc57; try (exfalso; (first | exact hc57 rfl | omega)))); all_goals (apply ol_nil))
      | (refine cw_region_id 20 ?_; (apply ol_ldN; rfl; rfl; rfl; exact sz_25; exact qQ); (apply ol_eff; apply s_storeN; rfl; rfl; exact sz_25; rfl; rfl; exact qN; exact qN); (apply ol_nil))
      | (apply cw_cond_true; rfl; exact qA)
      | (apply cw_cond_false; rfl; exact qA)
      | apply cw_skip
      | apply cw_ret
      | apply cw_block
      | apply cw_exit
    refine endsW [rdB rb (slicedA a 1 c 1) (n - 1) (c - 1) (fe 0 4)] [] View.nil (RVal.cellN rfl rfl rfl (RdN.own (by (repeat (first | exact Has.here | apply Has.there))) (by focus ((repeat (first | rfl | constructor)); done))) RVal.nil) (by exact qK) (View.nil_le _) (View.freshM_nil _ _) (fun F _ _ => ?_)
    exact ItmR.err (e := 4) hre (by decide)
  · have k4 := fun (w' : World) (h : View.le M (View.of w')) hx1 hx2 hx3 => number_ok (rb := rb) h hx1 hx2 hx3 hv1 (k := 4) (by omega) (by omega)
    have hv5 := hv1.drop (k := 4) (by omega)
    have ht4 : (r.take 4).length = 4 := by rw [List.length_take]; omega
    have hb4 : ∀ x ∈ r.take 4, 0 ≤ x ∧ x ≤ 255 := fun x hx => hv1.hb x (List.mem_of_mem_take hx)
    have hlt := numB_lt hb4
    have hbi := bI_numB hb4
    rw [ht4] at hlt hbi
    have h44 : (256 : Nat) ^ 4 = 4294967296 := by decide
    rw [h44] at hlt
    generalize hN : numB (r.take 4) = N at *
    by_cases hN2 : 1000 < N
    · have hre : rdE (d + 1) (3 :: r) = (3, []) := by unfold rdE; rw [if_neg (by omega), if_neg (by omega), if_neg (by omega), if_neg (by omega), hN, if_pos hN2]
      repeat' first
        | apply cw_seq
        | (refine cw_region_id 0 ?_; (apply ol_val; rfl; apply s_alloc; exact zb_25; exact qN; intro bk4); (apply ol_nil))
        | (refine cw_region_id 1 ?_; (apply ol_mv; rfl; rfl); (apply ol_val; rfl; first | (apply s_callM (xs := [rdB rb a n c 0]); rfl; exact gf_48; (focus ((repeat (first | exact Pk.nil | (apply Pk.cons; (repeat (first | exact Spl.here | apply Spl.there))))); done)); (intro w' M2 hw' hrd; exact k1 w' hw'.le hrd.ok (fun x hx b hb => View.none_of hrd.le (hrd.sep x hx b hb)) hrd.nd); (intro v F9 ys M9 h hl9 hL9 hF9; obtain ⟨rfl, rfl⟩ := h)) | (apply s_callM (xs := [rdB rb (slicedA a 1 c 1) (n - 1) (c - 1) 0]); rfl; exact gf_48; (focus ((repeat (first | exact Pk.nil | (apply Pk.cons; (repeat (first | exact Spl.here | apply Spl.there))))); done)); (intro w' M2 hw' hrd; exact k4 w' (hl9.trans hw'.le) hrd.ok (fun x hx b hb => View.none_of (hl9.trans hrd.le) (hrd.sep x hx b hb)) hrd.nd); (intro v F9 ys M9 h hl9 hL9 hF9; obtain ⟨rfl, rfl⟩ := h))); (apply ol_val; rfl; apply stp_pur; first | (apply s_conv; rfl; rfl; exact ti_3; (focus (apply wrap_i64; omega))) | (apply s_conv; rfl; rfl; exact ti_3; exact wrap_i64 (by omega)) | (apply s_conv; rfl; rfl; exact ti_3; rfl)); (apply ol_as; rfl; rfl); (apply ol_nil))
        | (refine cw_region_id 2 ?_; (apply ol_mv; rfl; rfl); (apply ol_val; rfl; apply stp_cmp; apply s_lss; rfl; rfl; all_goals (intro hc12; try (exfalso; (first | exact hc12 rfl | omega)))); all_goals (apply ol_mv; rfl; rfl); all_goals (first | (apply ol_gskip; rfl; rfl; exact qA; rfl) | (apply ol_gval; rfl; rfl; rfl; exact qA; apply stp_pur; apply s_move; rfl)); all_goals (first | (apply ol_gskip; rfl; rfl; exact qA; rfl) | (apply ol_gval; rfl; rfl; rfl; exact qA; apply stp_cmp; apply s_gtr; rfl; rfl; all_goals (intro hc15; try (exfalso; (first | exact hc15 rfl | omega))))); all_goals (apply ol_val; rfl; apply stp_pur; first | (apply s_pick_t; rfl; exact qA; rfl) | (apply s_pick_f; rfl; exact qA; rfl)); all_goals (apply ol_mv; rfl; rfl); all_goals (first | (apply ol_gskip; rfl; rfl; exact qA; rfl) | (apply ol_gval; rfl; rfl; rfl; exact qA; apply stp_pur; apply s_move; rfl)); all_goals (first | (apply ol_gskip; rfl; rfl; exact qA; rfl) | (apply ol_gval; rfl; rfl; rfl; exact qA; apply stp_cmp; apply s_eql; rfl; rfl; all_goals (intro hc19; try (exfalso; (first | exact hc19 rfl | omega))))); all_goals (first | (apply ol_gskip; rfl; rfl; exact qA; rfl) | (apply ol_gval; rfl; rfl; rfl; exact qA; apply stp_pur; apply s_move; rfl)); all_goals (first | (apply ol_gskip; rfl; rfl; exact qA; rfl) | (apply ol_gskipu; rfl; rfl; rfl) | (apply ol_gval; rfl; rfl; rfl; exact qA; apply stp_pur; apply s_move; rfl)); all_goals (first | (apply ol_gskip; rfl; rfl; exact qA; rfl) | (apply ol_gskipu; rfl; rfl; rfl) | (apply ol_gval; rfl; rfl; rfl; exact qA; apply stp_cmp; apply s_eql; rfl; rfl; all_goals (intro hc22; try (exfalso; (first | exact hc22 rfl | omega))))); all_goals (first | (apply ol_gskip; rfl; rfl; exact qA; rfl) | (apply ol_gval; rfl; rfl; rfl; exact qA; apply stp_pur; first | (apply s_pick_t; rfl; exact qA; rfl) | (apply s_pick_f; rfl; exact qA; rfl))); all_goals (apply ol_val; rfl; apply stp_pur; first | (apply s_pick_t; rfl; exact qA; rfl) | (apply s_pick_f; rfl; exact qA; rfl)); all_goals (apply ol_nil))
        | (refine cw_region_id 5 ?_; (apply ol_mv; rfl; rfl); (apply ol_val; rfl; apply stp_pur; apply s_buildS; rfl; exact fs_25; exact zb_25; exact qR); (apply ol_val; rfl; apply s_alloc; exact zb_25; exact qN; intro bk6); (apply ol_eff; apply s_storeN; rfl; rfl; exact sz_25; rfl; rfl; exact qN; exact qN); (apply ol_nil))
        | (refine cw_region_id 6 ?_; (apply ol_mv; rfl; rfl); (apply ol_nil))
        | (refine cw_region_id 7 ?_; (apply ol_val; rfl; apply stp_cmp; apply s_eql; rfl; rfl; all_goals (intro hc32; try (exfalso; (first | exact hc32 rfl | omega)))); all_goals (apply ol_as; rfl; rfl); all_goals (apply ol_nil))
        | (refine cw_region_id 9 ?_; (apply ol_val; rfl; apply stp_cmp; apply s_eql; rfl; rfl; all_goals (intro hc38; try (exfalso; (first | exact hc38 rfl | omega)))); all_goals (apply ol_as; rfl; rfl); all_goals (apply ol_nil))
        | (refine cw_region_id 11 ?_; (apply ol_val; rfl; apply stp_cmp; apply s_eql; rfl; rfl; all_goals (intro hc47; try (exfalso; (first | exact hc47 rfl | omega)))); all_goals (apply ol_as; rfl; rfl); all_goals (apply ol_nil))
        | (refine cw_region_id 12 ?_; (apply ol_mv; rfl; rfl); (apply ol_val; rfl; first | (apply s_callM (xs := [rdB rb a n c 0]); rfl; exact gf_48; (focus ((repeat (first | exact Pk.nil | (apply Pk.cons; (repeat (first | exact Spl.here | apply Spl.there))))); done)); (intro w' M2 hw' hrd; exact k1 w' hw'.le hrd.ok (fun x hx b hb => View.none_of hrd.le (hrd.sep x hx b hb)) hrd.nd); (intro v F49 ys M49 h hl49 hL49 hF49; obtain ⟨rfl, rfl⟩ := h)) | (apply s_callM (xs := [rdB rb (slicedA a 1 c 1) (n - 1) (c - 1) 0]); rfl; exact gf_48; (focus ((repeat (first | exact Pk.nil | (apply Pk.cons; (repeat (first | exact Spl.here | apply Spl.there))))); done)); (intro w' M2 hw' hrd; exact k4 w' (hl9.trans hw'.le) hrd.ok (fun x hx b hb => View.none_of (hl9.trans hrd.le) (hrd.sep x hx b hb)) hrd.nd); (intro v F49 ys M49 h hl49 hL49 hF49; obtain ⟨rfl, rfl⟩ := h))); (apply ol_val; rfl; apply stp_pur; first | (apply s_conv; rfl; rfl; exact ti_3; (focus (apply wrap_i64; omega))) | (apply s_conv; rfl; rfl; exact ti_3; exact wrap_i64 (by omega)) | (apply s_conv; rfl; rfl; exact ti_3; rfl)); (apply ol_as; rfl; rfl); (apply ol_nil))
        | (refine cw_region_id 13 ?_; (apply ol_mv; rfl; rfl); (apply ol_val; rfl; apply stp_cmp; apply s_gtr; rfl; rfl; all_goals (intro hc52; try (exfalso; (first | exact hc52 rfl | omega)))); all_goals (apply ol_nil))
        | (refine cw_region_id 14 ?_; (apply ol_mv; rfl; rfl); (apply ol_val; rfl; apply s_callM (xs := [rdB rb (slicedA (slicedA a 1 c 1) 4 (c - 1) 1) (n - 1 - 4) (c - 1 - 4) 0]); rfl; exact gf_40; (focus ((repeat (first | exact Pk.nil | (apply Pk.cons; (repeat (first | exact Spl.here | apply Spl.there))))); done)); (intro w' M2 hw' hrd; exact fail_spec (k := 3) hw'.le hrd.ok (fun x hx b hb => View.none_of hrd.le (hrd.sep x hx b hb)) hrd.nd); (intro v F54 ys M54 h hl54 hL54 hF54; subst h)); (apply ol_nil))
        | (refine cw_region_id 15 ?_; (apply ol_mv; rfl; rfl); (apply ol_mv; rfl; rfl); (apply ol_nil))
        | (apply cw_cond_true; rfl; exact qA)
        | (apply cw_cond_false; rfl; exact qA)
        | apply cw_skip
        | apply cw_ret
        | apply cw_block
        | apply cw_exit
      refine cw_loopK (σ := Nat) [0, 1, 4, 6, 55] (by (repeat (first | exact Keep.nil | (apply Keep.cons; rfl)))) (fun i => [(56, .int .i64 i)]) (fun _ => M) (fun _ => [rdB rb (slicedA (slicedA a 1 c 1) 4 (c - 1) 1) (n - 1 - 4) (c - 1 - 4) 3, ⟨some bk6, [.int .i64 3, .int .i64 0, .slice none 0 0, .slice none 0 0], 25⟩, ⟨some bk4, [.int .i64 0, .int .i64 0, .slice none 0 0, .slice none 0 0], 25⟩]) (fun i => i = 0) (fun i => 1 - i) 0 (by (repeat (first | exact trivial | refine And.intro rfl ?_))) (hl9.trans (View.le.trans (by assumption) (by assumption))) (by exact qK) rfl ?_
      rintro i rfl
      repeat' first
        | apply cw_seq
        | (refine cw_region_id 16 ?_; (apply ol_val; rfl; apply stp_cmp; apply s_lss; rfl; rfl; all_goals (intro hc57; try (exfalso; (first | exact hc57 rfl | omega)))); all_goals (apply ol_nil))
        | (refine cw_region_id 17 ?_; (apply ol_mv; rfl; rfl); (apply ol_val; rfl; apply stp_pur; apply s_nilCheck; rfl); (apply ol_fa; rfl; rfl; exact fd_60_1; exact qZ); (apply ol_ld; rfl; rfl; rfl; exact qP); (apply ol_val; rfl; apply stp_cmp; apply s_neq; rfl; rfl; all_goals (intro hc62; try (exfalso; (first | exact hc62 rfl | omega)))); all_goals (apply ol_nil))
        | (refine cw_region_id 20 ?_; (apply ol_ldN; rfl; rfl; rfl; exact sz_25; exact qQ); (apply ol_eff; apply s_storeN; rfl; rfl; exact sz_25; rfl; rfl; exact qN; exact qN); (apply ol_nil))
        | (apply cw_cond_true; rfl; exact qA)
        | (apply cw_cond_false; rfl; exact qA)
        | apply cw_skip
        | apply cw_ret
        | apply cw_block
        | apply cw_exit
      all_goals
        refine endsW [rdB rb (slicedA (slicedA a 1 c 1) 4 (c - 1) 1) (n - 1 - 4) (c - 1 - 4) 3] [] View.nil (RVal.cellN rfl rfl rfl (RdN.own (by (repeat (first | exact Has.here | apply Has.there))) (by focus ((repeat (first | rfl | constructor)); done))) RVal.nil) (by exact qK) (View.nil_le _) (View.freshM_nil _ _) (fun F _ _ => ?_)
        exact ItmR.err (e := 3) hre (by decide)
    · have hre : rdE (d + 1) (3 :: r) = rdN (rdE d) N (r.drop 4) := by
        rw [rdE, if_neg (by omega), if_neg (by omega), if_neg (by omega), if_neg (by omega), hN, if_neg hN2]
      have hrs : r = r.take 4 ++ r.drop 4 := (List.take_append_drop 4 r).symm
      have hdl : (r.drop 4).length = n - 1 - 4 := by rw [List.length_drop]; omega
      generalize r.drop 4 = r' at *
      repeat' first
        | apply cw_seq
        | (refine cw_region_id 0 ?_; (apply ol_val; rfl; apply s_alloc; exact zb_25; exact qN; intro bk4); (apply ol_nil))
        | (refine cw_region_id 1 ?_; (apply ol_mv; rfl; rfl); (apply ol_val; rfl; first | (apply s_callM (xs := [rdB rb a n c 0]); rfl; exact gf_48; (focus ((repeat (first | exact Pk.nil | (apply Pk.cons; (repeat (first | exact Spl.here | apply Spl.there))))); done)); (intro w' M2 hw' hrd; exact k1 w' hw'.le hrd.ok (fun x hx b hb => View.none_of hrd.le (hrd.sep x hx b hb)) hrd.nd); (intro v F9 ys M9 h hl9 hL9 hF9; obtain ⟨rfl, rfl⟩ := h)) | (apply s_callM (xs := [rdB rb (slicedA a 1 c 1) (n - 1) (c - 1) 0]); rfl; exact gf_48; (focus ((repeat (first | exact Pk.nil | (apply Pk.cons; (repeat (first | exact Spl.here | apply Spl.there))))); done)); (intro w' M2 hw' hrd; exact k4 w' (hl9.trans hw'.le) hrd.ok (fun x hx b hb => View.none_of (hl9.trans hrd.le) (hrd.sep x hx b hb)) hrd.nd); (intro v F9 ys M9 h hl9 hL9 hF9; obtain ⟨rfl, rfl⟩ := h))); (apply ol_val; rfl; apply stp_pur; first | (apply s_conv; rfl; rfl; exact ti_3; (focus (apply wrap_i64; omega))) | (apply s_conv; rfl; rfl; exact ti_3; exact wrap_i64 (by omega)) | (apply s_conv; rfl; rfl; exact ti_3; rfl)); (apply ol_as; rfl; rfl); (apply ol_nil))
        | (refine cw_region_id 2 ?_; (apply ol_mv; rfl; rfl); (apply ol_val; rfl; apply stp_cmp; apply s_lss; rfl; rfl; all_goals (intro hc12; try (exfalso; (first | exact hc12 rfl | omega)))); all_goals (apply ol_mv; rfl; rfl); all_goals (first | (apply ol_gskip; rfl; rfl; exact qA; rfl) | (apply ol_gval; rfl; rfl; rfl; exact qA; apply stp_pur; apply s_move; rfl)); all_goals (first | (apply ol_gskip; rfl; rfl; exact qA; rfl) | (apply ol_gval; rfl; rfl; rfl; exact qA; apply stp_cmp; apply s_gtr; rfl; rfl; all_goals (intro hc15; try (exfalso; (first | exact hc15 rfl | omega))))); all_goals (apply ol_val; rfl; apply stp_pur; first | (apply s_pick_t; rfl; exact qA; rfl) | (apply s_pick_f; rfl; exact qA; rfl)); all_goals (apply ol_mv; rfl; rfl); all_goals (first | (apply ol_gskip; rfl; rfl; exact qA; rfl) | (apply ol_gval; rfl; rfl; rfl; exact qA; apply stp_pur; apply s_move; rfl)); all_goals (first | (apply ol_gskip; rfl; rfl; exact qA; rfl) | (apply ol_gval; rfl; rfl; rfl; exact qA; apply stp_cmp; apply s_eql; rfl; rfl; all_goals (intro hc19; try (exfalso; (first | exact hc19 rfl | omega))))); all_goals (first | (apply ol_gskip; rfl; rfl; exact qA; rfl) | (apply ol_gval; rfl; rfl; rfl; exact qA; apply stp_pur; apply s_move; rfl)); all_goals (first | (apply ol_gskip; rfl; rfl; exact qA; rfl) | (apply ol_gskipu; rfl; rfl; rfl) | (apply ol_gval; rfl; rfl; rfl; exact qA; apply stp_pur; apply s_move; rfl)); all_goals (first | (apply ol_gskip; rfl; rfl; exact qA; rfl) | (apply ol_gskipu; rfl; rfl; rfl) | (apply ol_gval; rfl; rfl; rfl; exact qA; apply stp_cmp; apply s_eql; rfl; rfl; all_goals (intro hc22; try (exfalso; (first | exact hc22 rfl | omega))))); all_goals (first | (apply ol_gskip; rfl; rfl; exact qA; rfl) | (apply ol_gval; rfl; rfl; rfl; exact qA; apply stp_pur; first | (apply s_pick_t; rfl; exact qA; rfl) | (apply s_pick_f; rfl; exact qA; rfl))); all_goals (apply ol_val; rfl; apply stp_pur; first | (apply s_pick_t; rfl; exact qA; rfl) | (apply s_pick_f; rfl; exact qA; rfl)); all_goals (apply ol_nil))
        | (refine cw_region_id 5 ?_; (apply ol_mv; rfl; rfl); (apply ol_val; rfl; apply stp_pur; apply s_buildS; rfl; exact fs_25; exact zb_25; exact qR); (apply ol_val; rfl; apply s_alloc; exact zb_25; exact qN; intro bk6); (apply ol_eff; apply s_storeN; rfl; rfl; exact sz_25; rfl; rfl; exact qN; exact qN); (apply ol_nil))
        | (refine cw_region_id 6 ?_; (apply ol_mv; rfl; rfl); (apply ol_nil))
        | (refine cw_region_id 7 ?_; (apply ol_val; rfl; apply stp_cmp; apply s_eql; rfl; rfl; all_goals (intro hc32; try (exfalso; (first | exact hc32 rfl | omega)))); all_goals (apply ol_as; rfl; rfl); all_goals (apply ol_nil))
        | (refine cw_region_id 9 ?_; (apply ol_val; rfl; apply stp_cmp; apply s_eql; rfl; rfl; all_goals (intro hc38; try (exfalso; (first | exact hc38 rfl | omega)))); all_goals (apply ol_as; rfl; rfl); all_goals (apply ol_nil))
        | (refine cw_region_id 11 ?_; (apply ol_val; rfl; apply stp_cmp; apply s_eql; rfl; rfl; all_goals (intro hc47; try (exfalso; (first | exact hc47 rfl | omega)))); all_goals (apply ol_as; rfl; rfl); all_goals (apply ol_nil))
        | (refine cw_region_id 12 ?_; (apply ol_mv; rfl; rfl); (apply ol_val; rfl; first | (apply s_callM (xs := [rdB rb a n c 0]); rfl; exact gf_48; (focus ((repeat (first | exact Pk.nil | (apply Pk.cons; (repeat (first | exact Spl.here | apply Spl.there))))); done)); (intro w' M2 hw' hrd; exact k1 w' hw'.le hrd.ok (fun x hx b hb => View.none_of hrd.le (hrd.sep x hx b hb)) hrd.nd); (intro v F49 ys M49 h hl49 hL49 hF49; obtain ⟨rfl, rfl⟩ := h)) | (apply s_callM (xs := [rdB rb (slicedA a 1 c 1) (n - 1) (c - 1) 0]); rfl; exact gf_48; (focus ((repeat (first | exact Pk.nil | (apply Pk.cons; (repeat (first | exact Spl.here | apply Spl.there))))); done)); (intro w' M2 hw' hrd; exact k4 w' (hl9.trans hw'.le) hrd.ok (fun x hx b hb => View.none_of (hl9.trans hrd.le) (hrd.sep x hx b hb)) hrd.nd); (intro v F49 ys M49 h hl49 hL49 hF49; obtain ⟨rfl, rfl⟩ := h))); (apply ol_val; rfl; apply stp_pur; first | (apply s_conv; rfl; rfl; exact ti_3; (focus (apply wrap_i64; omega))) | (apply s_conv; rfl; rfl; exact ti_3; exact wrap_i64 (by omega)) | (apply s_conv; rfl; rfl; exact ti_3; rfl)); (apply ol_as; rfl; rfl); (apply ol_nil))
        | (refine cw_region_id 13 ?_; (apply ol_mv; rfl; rfl); (apply ol_val; rfl; apply stp_cmp; apply s_gtr; rfl; rfl; all_goals (intro hc52; try (exfalso; (first | exact hc52 rfl | omega)))); all_goals (apply ol_nil))
        | (refine cw_region_id 15 ?_; (apply ol_mv; rfl; rfl); (apply ol_mv; rfl; rfl); (apply ol_nil))
        | (apply cw_cond_true; rfl; exact qA)
        | (apply cw_cond_false; rfl; exact qA)
        | apply cw_skip
        | apply cw_ret
        | apply cw_block
        | apply cw_exit
      refine cw_loopK (σ := LiSt d) [0, 1, 4, 6, 55] (by (repeat (first | exact Keep.nil | (apply Keep.cons; rfl)))) (fun s => [(56, .int .i64 s.j)]) (fun s => View.join s.F M) (fun s => [rdB rb s.a s.n s.c s.e, ⟨some bk6, [.int .i64 3, .int .i64 0, .slice none 0 0, .slice (base s.r s.A) s.L.length s.cap], 25⟩, ⟨s.r, flat It.enc s.L ++ s.sp, 25⟩, ⟨some bk4, [.int .i64 0, .int .i64 0, .slice none 0 0, .slice none 0 0], 25⟩])
        (fun s => (s.j ≤ N ∧ s.L.length = s.j) ∧ SO s.r s.L.length s.cap (flat It.enc s.L) s.sp 4 ∧ (View.freshM s.F w mu ∧ View.le M (View.join s.F M)) ∧ (s.e = 0 → (BV (View.join s.F M) s.rest s.a s.n s.c ∧ s.n ≤ 16384) ∧ (∀ x ∈ s.L, ItV s.F d x ∧ okR d x) ∧ r' = s.L.flatMap (encI d) ++ s.rest ∧ rdN (rdE d) (N - s.j) s.rest = rdN (rdE d) N r') ∧ (s.e ≠ 0 → rdN (rdE d) N r' = (s.e, []))) (fun s => N - s.j)
        ⟨0, 0, slicedA (slicedA a 1 c 1) 4 (c - 1) 1, n - 1 - 4, c - 1 - 4, r', none, none, 0, [], [], View.nil⟩ (by (repeat (first | exact trivial | refine And.intro rfl ?_))) ((View.nil_join M).trans (hl9.trans (by assumption))) (by exact qK) ⟨⟨Nat.zero_le _, rfl⟩, SO.nil 4, ⟨View.freshM_nil _ _, View.join_nil _⟩, fun _ => ⟨⟨hv5.mono (View.join_nil _), by dsimp only; omega⟩, (fun _ h => by cases h), rfl, rfl⟩, fun h => absurd rfl h⟩ ?_
      clear hv5 k1 k4
      rintro ⟨j, e, a1, n1, c1, rest, rr, A, cap, sp, L, F⟩ ⟨⟨hj, hLj⟩, so, ⟨hF, hFM⟩, h0, h1⟩
      dsimp only at hj hLj so hF hFM h0 h1 ⊢
      by_cases he : e = 0
      · subst he
        obtain ⟨⟨hvr, hnr⟩, hLi, hrr, hrN⟩ := h0 rfl
        clear h0 h1
        by_cases hjN : j < N
        · have hI := fun (w' : World) (h : View.le (View.join F M) (View.of w')) hx1 hx2 hx3 => ih (l := rest) (a := a1) (n := n1) (c := c1) h hx1 hx2 hx3 hvr hnr
          have hd1 : ((d : Nat) : Int) = ((d + 1 : Nat) : Int) - 1 := by omega
          rw [hd1] at hI
          have hst := fun {e2 : Nat} {rest2 : List Int} (h : rdE d rest = (e2, rest2)) => rdN_step (k := N - (j + 1)) h
          rw [show N - (j + 1) + 1 = N - j by omega, hrN] at hst
          have hrl2 : rest.length = n1 := hvr.hn
          repeat' first
            | apply cw_seq
            | (refine cw_region_id 16 ?_; (apply ol_val; rfl; apply stp_cmp; apply s_lss; rfl; rfl; all_goals (intro hc57; try (exfalso; (first | exact hc57 rfl | omega)))); all_goals (apply ol_nil))
            | (refine cw_region_id 17 ?_; (apply ol_mv; rfl; rfl); (apply ol_val; rfl; apply stp_pur; apply s_nilCheck; rfl); (apply ol_fa; rfl; rfl; exact fd_60_1; exact qZ); (apply ol_ld; rfl; rfl; rfl; exact qP); (apply ol_val; rfl; apply stp_cmp; apply s_neq; rfl; rfl; all_goals (intro hc62; try (exfalso; (first | exact hc62 rfl | omega)))); all_goals (apply ol_nil))
            | (refine cw_isreg 18 ?_; refine cw_draw (id := 18) 7 (.mv 0 (.mv 1 (.mv 2 (.mv 3 (.mv 4 (.fx 5 (.fx 6 (PT.nil)))))))) mixed (by kernel_rfl) ?_; (apply od_mv; rfl; rfl; apply s_fieldAddr'; rfl; exact fd_25_3; exact qZ); (apply od_mv; rfl; rfl; apply s_load1; rfl; rfl; exact qP); (apply od_mv; rfl; rfl; apply s_move; rfl); (apply od_mv; rfl; rfl; apply s_move; rfl); (apply od_mv; rfl; rfl; apply s_sub64; rfl; rfl; omega); (apply od_fx; (first | exact Wk.refl _ _ | exact qW); (apply fx_val; rfl; rfl; apply s_callM (xs := [rdB rb a1 n1 c1 0]); rfl; exact gf_39; (focus ((repeat (first | exact Pk.nil | (apply Pk.cons; (repeat (first | exact Spl.here | apply Spl.there))))); done)); (intro w' M2 hw' hrd; exact hI w' hw'.le hrd.ok (fun x hx b hb => View.none_of hrd.le (hrd.sep x hx b hb)) hrd.nd); (intro v F68 ys M68 h hl68 hL68 hF68; obtain ⟨a2, n2, c2, e2, rest2, x, rfl, rfl, hre2, hx2⟩ := h; have vj := VJ.mk' hFM hl68 hL68; have hFX := hF68; obtain ⟨xk, xn, xa, xl, xc, ya, yl, yc, hxe⟩ : ∃ xk xn xa xl xc ya yl yc, x.enc = [.int .i64 xk, .int .i64 xn, .slice xa xl xc, .slice ya yl yc] := ⟨_, _, _, _, _, _, _, _, rfl⟩; rw [hxe]))); (apply od_fx; (first | exact Wk.refl _ _ | exact qW); (apply fx_val; rfl; rfl; apply s_buildSl; rfl; exact el_23; exact sz_25; exact zb_25; exact qN; rfl; rfl; (exact Nat.le_of_ble_eq_true rfl); exact qN; (focus ((repeat (first | exact Fil.nil | (apply Fil.one; rfl; rfl; (repeat (first | exact SetAt.zero | apply SetAt.succ))) | (apply Fil.agg; rfl; rfl; (repeat (first | exact SetN.nil | (apply SetN.cons; (repeat (first | exact SetAt.zero | apply SetAt.succ))))); (exact Nat.le_of_ble_eq_true rfl)))); done)); intro bk69)); (apply od_nil; (first | exact Wk.refl _ _ | exact qW)); (apply ol_val; rfl; first | (apply s_append_e; rfl; rfl; exact qN; exact el_23; exact sz_25; exact zb_25; rfl; exact by_25; (first | exact (fun _ => rfl)); (first | exact qQ); (first | rfl); exact qO; exact qO; intro rk70 sk70 ck70 ok70) | (apply s_append_r; rfl; rfl; exact qN; (first | rfl | exact (List.append_nil _).symm); exact el_23; exact sz_25; exact zb_25; rfl; exact by_25; (first | exact SO.nil _ | assumption | (exact ⟨by simp, by simp, Nat.le_refl _, by simp⟩)); (first | exact (fun _ => rfl)); (first | exact qQ); (first | rfl); exact qO; exact qO; intro rk70 sk70 ck70 ok70) | (apply s_append_b; rfl; rfl; exact qN; (first | rfl | exact (List.append_nil _).symm); exact el_23; exact sz_25; exact zb_25; rfl; exact by_25; (first | exact SO.nil _ | assumption | (exact ⟨by simp, by simp, Nat.le_refl _, by simp⟩)); (first | exact (fun _ => rfl)); (first | exact qQ); (first | rfl); exact qO; exact qO; intro rk70 sk70 ck70 ok70) | (apply s_append_n; rfl; rfl; exact qN; exact el_23; exact sz_25; exact zb_25; rfl; exact by_25; (first | exact (fun _ => rfl)); (first | exact qQ); (first | rfl); exact qO; exact qO; intro rk70 sk70 ck70 ok70)); (apply ol_fa; rfl; rfl; exact fd_25_3; exact qZ); (apply ol_eff; apply s_store1; rfl; rfl; exact sz_23; rfl; exact qN; exact qT); (apply ol_nil))
            | (refine cw_isreg 18 ?_; refine cw_drawW (id := 18) (own0 := [⟨some bk6, [.int .i64 3, .int .i64 0, .slice none 0 0, .slice (base rr A) L.length cap], 25⟩, ⟨rr, flat It.enc L ++ sp, 25⟩, ⟨some bk4, [.int .i64 0, .int .i64 0, .slice none 0 0, .slice none 0 0], 25⟩]) 7 (.mv 0 (.mv 1 (.mv 2 (.mv 3 (.mv 4 (.fx 5 (.fx 6 (PT.nil)))))))) mixed (by kernel_rfl) (by (first | exact Wk.refl _ _ | exact qW)) ?_; (apply od_mv; rfl; rfl; apply s_fieldAddr'; rfl; exact fd_25_3; exact qZ); (apply od_mv; rfl; rfl; apply s_load1; rfl; rfl; exact qP); (apply od_mv; rfl; rfl; apply s_move; rfl); (apply od_mv; rfl; rfl; apply s_move; rfl); (apply od_mv; rfl; rfl; apply s_sub64; rfl; rfl; omega); (apply od_fx; (first | exact Wk.refl _ _ | exact qW); (apply fx_val; rfl; rfl; apply s_callM (xs := [rdB rb a1 n1 c1 0]); rfl; exact gf_39; (focus ((repeat (first | exact Pk.nil | (apply Pk.cons; (repeat (first | exact Spl.here | apply Spl.there))))); done)); (intro w' M2 hw' hrd; exact hI w' hw'.le hrd.ok (fun x hx b hb => View.none_of hrd.le (hrd.sep x hx b hb)) hrd.nd); (intro v F68 ys M68 h hl68 hL68 hF68; obtain ⟨a2, n2, c2, e2, rest2, x, rfl, rfl, hre2, hx2⟩ := h; have vj := VJ.mk' hFM hl68 hL68; have hFX := hF68; obtain ⟨xk, xn, xa, xl, xc, ya, yl, yc, hxe⟩ : ∃ xk xn xa xl xc ya yl yc, x.enc = [.int .i64 xk, .int .i64 xn, .slice xa xl xc, .slice ya yl yc] := ⟨_, _, _, _, _, _, _, _, rfl⟩; rw [hxe]))); (apply od_fx; (first | exact Wk.refl _ _ | exact qW); (apply fx_val; rfl; rfl; apply s_buildSl; rfl; exact el_23; exact sz_25; exact zb_25; exact qN; rfl; rfl; (exact Nat.le_of_ble_eq_true rfl); exact qN; (focus ((repeat (first | exact Fil.nil | (apply Fil.one; rfl; rfl; (repeat (first | exact SetAt.zero | apply SetAt.succ))) | (apply Fil.agg; rfl; rfl; (repeat (first | exact SetN.nil | (apply SetN.cons; (repeat (first | exact SetAt.zero | apply SetAt.succ))))); (exact Nat.le_of_ble_eq_true rfl)))); done)); intro bk69)); (apply od_nil; (first | exact Wk.refl _ _ | exact qW)); (apply ol_val; rfl; first | (apply s_append_e; rfl; rfl; exact qN; exact el_23; exact sz_25; exact zb_25; rfl; exact by_25; (first | exact (fun _ => rfl)); (first | exact qQ); (first | rfl); exact qO; exact qO; intro rk70 sk70 ck70 ok70) | (apply s_append_r; rfl; rfl; exact qN; (first | rfl | exact (List.append_nil _).symm); exact el_23; exact sz_25; exact zb_25; rfl; exact by_25; (first | exact SO.nil _ | assumption | (exact ⟨by simp, by simp, Nat.le_refl _, by simp⟩)); (first | exact (fun _ => rfl)); (first | exact qQ); (first | rfl); exact qO; exact qO; intro rk70 sk70 ck70 ok70) | (apply s_append_b; rfl; rfl; exact qN; (first | rfl | exact (List.append_nil _).symm); exact el_23; exact sz_25; exact zb_25; rfl; exact by_25; (first | exact SO.nil _ | assumption | (exact ⟨by simp, by simp, Nat.le_refl _, by simp⟩)); (first | exact (fun _ => rfl)); (first | exact qQ); (first | rfl); exact qO; exact qO; intro rk70 sk70 ck70 ok70) | (apply s_append_n; rfl; rfl; exact qN; exact el_23; exact sz_25; exact zb_25; rfl; exact by_25; (first | exact (fun _ => rfl)); (first | exact qQ); (first | rfl); exact qO; exact qO; intro rk70 sk70 ck70 ok70)); (apply ol_fa; rfl; rfl; exact fd_25_3; exact qZ); (apply ol_eff; apply s_store1; rfl; rfl; exact sz_23; rfl; exact qN; exact qT); (apply ol_nil))
            | (refine cw_region_id 19 ?_; (apply ol_val; rfl; apply stp_pur; apply s_add64; rfl; rfl; omega); (apply ol_mv; rfl; rfl); (apply ol_nil))
            | (apply cw_cond_true; rfl; exact qA)
            | (apply cw_cond_false; rfl; exact qA)
            | apply cw_skip
            | apply cw_ret
            | apply cw_block
            | apply cw_exit
          all_goals
            refine ⟨⟨j + 1, e2, a2, n2, c2, rest2, rk70, A, ck70, sk70, L ++ [x], View.join F F68⟩, ⟨by (repeat (first | exact trivial | refine And.intro rfl ?_)), vj.x, ?_, ⟨⟨hjN, by dsimp only; rw [List.length_append, hLj]; rfl⟩, ?_, ⟨View.freshM_join hF hFX, vj.m⟩, fun h0 => ?_, fun h1 => ?_⟩, by dsimp only; omega⟩⟩
            · dsimp only; rw [flat_snoc', List.length_append, hxe]; exact qK
            · dsimp only; rw [flat_snoc', List.length_append, hxe]; exact ok70
            · dsimp only at h0 ⊢
              obtain ⟨g1', g2', g3, g4⟩ := hx2 h0
              have g1 := g1' _ vj.fm vj.g
              have g2 := g2' _ vj.gg
              rw [hst hre2, if_pos h0]
              refine ⟨⟨g1, ?_⟩, fun y hy => ?_, ?_, rfl⟩
              · have := congrArg List.length g4
                rw [List.length_append] at this
                have := g1.hn
                omega
              · rcases List.mem_append.1 hy with hy | hy
                · exact ⟨(hLi y hy).1.mono vj.fg, (hLi y hy).2⟩
                · rw [List.mem_singleton.1 hy]; exact ⟨g2, g3⟩
              · rw [hrr, g4, List.flatMap_append, List.flatMap_singleton, List.append_assoc]
            · dsimp only at h1 ⊢
              rw [hst hre2, if_neg h1]
        · have hjN' : j = N := by omega
          rw [hjN', Nat.sub_self] at hrN
          rw [show rdN (rdE d) 0 rest = (0, rest) from by rw [rdN]] at hrN
          rw [← hrN] at hre
          repeat' first
            | apply cw_seq
            | (refine cw_region_id 16 ?_; (apply ol_val; rfl; apply stp_cmp; apply s_lss; rfl; rfl; all_goals (intro hc57; try (exfalso; (first | exact hc57 rfl | omega)))); all_goals (apply ol_nil))
            | (refine cw_region_id 20 ?_; (apply ol_ldN; rfl; rfl; rfl; exact sz_25; exact qQ); (apply ol_eff; apply s_storeN; rfl; rfl; exact sz_25; rfl; rfl; exact qN; exact qN); (apply ol_nil))
            | (apply cw_cond_true; rfl; exact qA)
            | (apply cw_cond_false; rfl; exact qA)
            | apply cw_skip
            | apply cw_ret
            | apply cw_block
            | apply cw_exit
          refine endsW [rdB rb a1 n1 c1 0] [⟨rr, flat It.enc L ++ sp, 25⟩] F (RVal.cellN rfl rfl rfl (RdN.own (by (repeat (first | exact Has.here | apply Has.there))) (by focus ((repeat (first | rfl | constructor)); done))) RVal.nil) (by exact qK) (View.join_l F M) hF (fun F' hF' hz => ?_)
          have hLe : ∀ N', View.le M N' → View.le F' N' → View.le (View.join F M) N' := fun N' h1 h2 => View.join_le (hF'.trans h2) h1
          refine ⟨a1, n1, c1, 0, rest, ((⟨3, 0, ⟨[], none, 0, 0, 0⟩, base rr A, rr.getD 0, 0, cap, L.length⟩, L) : It (d + 1)), rfl, rfl, hre, fun _ => ⟨fun N' hM' hFN => hvr.mono (hLe N' hM' hFN), fun N' hFN => ⟨⟨SlA.none', fun x hx => by simp at hx, Nat.zero_le _, by dsimp only; omega⟩, rfl, (SlA.inV It.enc_length (hz _ (List.Mem.head _)) (fun h => SO.emp so h)).mono hFN, fun x hx => (hLi x hx).1.mono (hF'.trans hFN)⟩, ?_, ?_⟩⟩
          · refine ⟨?_, ⟨by dsimp only; omega, fun x hx => (hLi x hx).2.2⟩⟩
            rw [okI_list rfl, Bool.and_eq_true, decide_eq_true_iff, List.all_eq_true]
            exact ⟨⟨rfl, rfl, by dsimp only; omega⟩, fun x hx => (hLi x hx).2.1⟩
          · rw [encI_list rfl]
            dsimp only
            rw [hLj, hjN', hbi]
            conv => lhs; rw [hrs, hrr]
            simp [List.append_assoc]
      · have hR := h1 he
        rw [hR] at hre
        clear h0 h1
        repeat' first
          | apply cw_seq
          | (refine cw_region_id 16 ?_; (apply ol_val; rfl; apply stp_cmp; apply s_lss; rfl; rfl; all_goals (intro hc57; try (exfalso; (first | exact hc57 rfl | omega)))); all_goals (apply ol_nil))
          | (refine cw_region_id 17 ?_; (apply ol_mv; rfl; rfl); (apply ol_val; rfl; apply stp_pur; apply s_nilCheck; rfl); (apply ol_fa; rfl; rfl; exact fd_60_1; exact qZ); (apply ol_ld; rfl; rfl; rfl; exact qP); (apply ol_val; rfl; apply stp_cmp; apply s_neq; rfl; rfl; all_goals (intro hc62; try (exfalso; (first | exact hc62 rfl | omega)))); all_goals (apply ol_nil))
          | (refine cw_region_id 20 ?_; (apply ol_ldN; rfl; rfl; rfl; exact sz_25; exact qQ); (apply ol_eff; apply s_storeN; rfl; rfl; exact sz_25; rfl; rfl; exact qN; exact qN); (apply ol_nil))
          | (apply cw_cond_true; rfl; exact qA)
          | (apply cw_cond_false; rfl; exact qA)
          | apply cw_skip
          | apply cw_ret
          | apply cw_block
          | apply cw_exit
        all_goals
          refine endsW [rdB rb a1 n1 c1 e] [] View.nil (RVal.cellN rfl rfl rfl (RdN.own (by (repeat (first | exact Has.here | apply Has.there))) (by focus ((repeat (first | rfl | constructor)); done))) RVal.nil) (by exact qK) (View.nil_le _) (View.freshM_nil _ _) (fun F _ _ => ?_)
          exact ItmR.err (e := e) hre he
end Go.Proofs.YtkkfgeekdaalmaaDoor
namespace Go.Proofs.YtkkfgeekdaalmaaDoor
set_option maxRecDepth 20000
set_option linter.unusedSimpArgs false
set_option linter.unusedVariables false
open Go Go.Fw
theorem item_spec {rb : Nat} : ∀ (d : Nat), d ≤ 100 → ∀ {M : View} {w : World}, View.le M (View.of w) → ∀ {l : List Int} {a : Option Addr} {n c : Nat}, (∀ x ∈ [rdB rb a n c 0], x.ok w) → (∀ x ∈ [rdB rb a n c 0], ∀ b, x.ref = some b → M b = none) → (refs [rdB rb a n c 0]).Nodup → BV M l a n c → n ≤ 16384 →
    FnM Tryd.prog 39 [.pointer (some ⟨rb, 0, none⟩), .int .i64 (d : Nat)] w [rdB rb a n c 0] (ItmR d l M rb) := by
  intro d
  induction d with
  | zero =>
    intro _ M w hM l a n c hok hsep hnd hv hn
    match l, hv with
    | [], hv => exact item_bad hM hok hsep hnd hv (.inl rfl)
    | k :: r, hv =>
      by_cases hb : k < 1 ∨ 3 < k ∨ k = 3 ∧ (0 : Nat) = 0
      · exact item_bad hM hok hsep hnd hv (.inr ⟨k, r, rfl, hb⟩)
      · have hk : k = 1 ∨ k = 2 := by omega
        rcases hk with rfl | rfl
        · exact item_int hM hok hsep hnd hv
        · exact item_bytes hM hok hsep hnd hv hn
  | succ d ih =>
    intro hd M w hM l a n c hok hsep hnd hv hn
    match l, hv with
    | [], hv => exact item_bad hM hok hsep hnd hv (.inl rfl)
    | k :: r, hv =>
      by_cases hb : k < 1 ∨ 3 < k ∨ k = 3 ∧ d + 1 = 0
      · exact item_bad hM hok hsep hnd hv (.inr ⟨k, r, rfl, hb⟩)
      · have hk : k = 1 ∨ k = 2 ∨ k = 3 := by omega
        rcases hk with rfl | rfl | rfl
        · exact item_int hM hok hsep hnd hv
        · exact item_bytes hM hok hsep hnd hv hn
        · exact item_list hM hok hsep hnd hv hn (by omega) (ih (by omega))
/-- What Decode answers. -/
def decE (l : List Int) : Nat := if 16384 < l.length then 5 else if (rdE 8 l).1 ≠ 0 then (rdE 8 l).1 else if 0 < (rdE 8 l).2.length then 3 else 0
abbrev zItem : It 8 := mkL 8 (hdJ 0 none 0 0 none 0 0)
theorem zItem_enc : zItem.enc = [.int .i64 0, .int .i64 0, .slice none 0 0, .slice none 0 0] := mkJ_enc 8 0 none 0 0 none 0 0
def DecR (l : List Int) (M : View) (v : Value) (F : View) (ys : List OB) : Prop :=
  ys = [] ∧ ∃ x : It 8, v = .tuple #[.agg x.enc.toArray, .int .i64 (decE l : Nat)] ∧ (decE l = 0 → (∀ N, View.le F N → ItV N 8 x) ∧ okR 8 x ∧ encI 8 x = l) ∧ (decE l ≠ 0 → x = zItem)
end Go.Proofs.YtkkfgeekdaalmaaDoor
namespace Go.Proofs.YtkkfgeekdaalmaaDoor
set_option maxRecDepth 20000
set_option linter.unusedSimpArgs false
set_option linter.unusedVariables false
open Go Go.Fw
attribute [local irreducible] CW OL OD FX Stp FnC FnV FnA FnM Ret bI encI okI numB rdE rdN
set_option maxHeartbeats 3200000
theorem decode_spec {M : View} {w : World} (hM : View.le M (View.of w)) {l : List Int} {a : Option Addr} {n c : Nat} (hv : BV M l a n c) :
    FnM Tryd.prog 17 [.slice a n c] w [] (DecR l M) := by
  have hln := hv.hn
  refine enterW (M := M) Tryd.func17 rfl rfl rfl rfl hM (fun _ h => by cases h) (fun _ h => by cases h) List.nodup_nil ?_
  by_cases hl : 16384 < n
  · have he : decE l = 5 := by unfold decE; rw [if_pos (by omega)]
    repeat' first
      | apply cw_seq
      | (refine cw_region_id 0 ?_; (apply ol_val; rfl; apply s_alloc; exact zb_25; exact qN; intro bk2); (apply ol_as; rfl; rfl); (apply ol_nil))
      | (refine cw_region_id 1 ?_; (apply ol_mv; rfl; rfl); (apply ol_val; rfl; apply stp_pur; apply s_len; rfl; exact el_22); (apply ol_val; rfl; apply stp_cmp; apply s_gtr; rfl; rfl; all_goals (intro hc8; try (exfalso; (first | exact hc8 rfl | omega)))); all_goals (apply ol_nil))
      | (refine cw_region_id 2 ?_; (apply ol_val; rfl; apply stp_pur; apply s_buildS; rfl; exact fs_25; exact zb_25; exact qR); (apply ol_eff; apply s_storeN; rfl; rfl; exact sz_25; rfl; rfl; exact qN; exact qN); (apply ol_as; rfl; rfl); (apply ol_nil))
      | (apply cw_cond_true; rfl; exact qA)
      | (apply cw_cond_false; rfl; exact qA)
      | apply cw_skip
      | apply cw_ret
      | apply cw_block
      | apply cw_exit
    refine endsW [] [] View.nil (RVal.cellN rfl rfl rfl (RdN.own (by (repeat (first | exact Has.here | apply Has.there))) (by focus ((repeat (first | rfl | constructor)); done))) (RVal.tmp rfl RVal.nil)) Pick.nil (View.nil_le _) (View.freshM_nil _ _) (fun F _ _ => ?_)
    exact ⟨rfl, zItem, by rw [zItem_enc, he]; rfl, fun h => by omega, fun _ => rfl⟩
  · have hd0 : decE l = if (rdE 8 l).1 ≠ 0 then (rdE 8 l).1 else if 0 < (rdE 8 l).2.length then 3 else 0 := by unfold decE; rw [if_neg (by omega)]
    have kI := fun (w' : World) (rb : Nat) (h : View.le M (View.of w')) hx1 hx2 hx3 => item_spec (rb := rb) 8 (by decide) h hx1 hx2 hx3 hv (by omega)
    repeat' first
      | apply cw_seq
      | (refine cw_region_id 0 ?_; (apply ol_val; rfl; apply s_alloc; exact zb_25; exact qN; intro bk2); (apply ol_as; rfl; rfl); (apply ol_nil))
      | (refine cw_region_id 1 ?_; (apply ol_mv; rfl; rfl); (apply ol_val; rfl; apply stp_pur; apply s_len; rfl; exact el_22); (apply ol_val; rfl; apply stp_cmp; apply s_gtr; rfl; rfl; all_goals (intro hc8; try (exfalso; (first | exact hc8 rfl | omega)))); all_goals (apply ol_nil))
      | (refine cw_region_id 3 ?_; (apply ol_mv; rfl; rfl); (apply ol_val; rfl; apply stp_pur; apply s_buildS; rfl; exact fs_60; exact zb_60; exact qR); (apply ol_val; rfl; first | (apply s_boxN; rfl; intro bk12) | (apply s_box1; rfl; rfl; intro bk12)); (apply ol_as; rfl; rfl); (apply ol_nil))
      | (refine cw_region_id 4 ?_; (apply ol_mv; rfl; rfl); (apply ol_val; rfl; apply s_callM (xs := [rdB bk12 a n c 0]); rfl; exact gf_39; (focus ((repeat (first | exact Pk.nil | (apply Pk.cons; (repeat (first | exact Spl.here | apply Spl.there))))); done)); (intro w' M2 hw' hrd; exact kI w' bk12 hw'.le hrd.ok (fun x hx b hb => View.none_of hrd.le (hrd.sep x hx b hb)) hrd.nd); (intro v F14 ys M14 h hl14 hL14 hF14; obtain ⟨a2, n2, c2, e2, rest2, x, rfl, rfl, hre2, hx2⟩ := h)); (apply ol_val; rfl; apply s_alloc; exact zb_25; exact qN; intro bk5); (apply ol_eff; apply s_storeN; rfl; rfl; exact sz_25; rfl; rfl; exact qN; exact qN); (apply ol_nil))
      | (apply cw_cond_true; rfl; exact qA)
      | (apply cw_cond_false; rfl; exact qA)
      | apply cw_skip
      | apply cw_ret
      | apply cw_block
      | apply cw_exit
    rw [hre2] at hd0
    dsimp only at hd0
    by_cases he : e2 = 0
    · subst he
      rw [if_neg (by omega)] at hd0
      have hx3 := hx2 rfl
      have hn2 : rest2.length = n2 := (hx3.1 M14 hl14 hL14).hn
      obtain ⟨xk, xn, xa, xl, xc, ya, yl, yc, hxe⟩ : ∃ xk xn xa xl xc ya yl yc, x.enc = [.int .i64 xk, .int .i64 xn, .slice xa xl xc, .slice ya yl yc] := ⟨_, _, _, _, _, _, _, _, rfl⟩
      rw [hxe]
      by_cases h0 : 0 < n2
      · rw [if_pos (by omega)] at hd0
        repeat' first
          | apply cw_seq
          | (refine cw_region_id 4 ?_; (apply ol_mv; rfl; rfl))
          | (refine cw_region_id 5 ?_; (apply ol_mv; rfl; rfl); (apply ol_val; rfl; apply stp_pur; apply s_nilCheck; rfl); (apply ol_fa; rfl; rfl; exact fd_60_0; exact qZ); (apply ol_ld; rfl; rfl; rfl; exact qP); (apply ol_val; rfl; apply stp_pur; apply s_len; rfl; exact el_22); (apply ol_val; rfl; apply stp_cmp; apply s_gtr; rfl; rfl; all_goals (intro hc20; try (exfalso; (first | exact hc20 rfl | omega)))); all_goals (apply ol_nil))
          | (refine cw_region_id 6 ?_; (apply ol_mv; rfl; rfl); (apply ol_val; rfl; apply s_callM (xs := [rdB bk12 a2 n2 c2 0]); rfl; exact gf_40; (focus ((repeat (first | exact Pk.nil | (apply Pk.cons; (repeat (first | exact Spl.here | apply Spl.there))))); done)); (intro w' M2 hw' hrd; exact fail_spec (k := 3) hw'.le hrd.ok (fun x hx b hb => View.none_of hrd.le (hrd.sep x hx b hb)) hrd.nd); (intro v F22 ys M22 h hl22 hL22 hF22; subst h; rw [show fe 0 3 = 3 from rfl])); (apply ol_nil))
          | (refine cw_region_id 7 ?_; (apply ol_mv; rfl; rfl); (apply ol_val; rfl; apply stp_pur; apply s_nilCheck; rfl); (apply ol_fa; rfl; rfl; exact fd_60_1; exact qZ); (apply ol_ld; rfl; rfl; rfl; exact qP); (apply ol_val; rfl; apply stp_cmp; apply s_neq; rfl; rfl; all_goals (intro hc27; try (exfalso; (first | exact hc27 rfl | omega)))); all_goals (apply ol_nil))
          | (refine cw_isreg 8 ?_; refine cw_draw (id := 8) 7 (.mv 0 (.mv 1 (.mv 2 (.mv 3 (.mv 4 (.fx 5 (.mv 6 (PT.nil)))))))) mixed (by kernel_rfl) ?_; (apply od_mv; rfl; rfl; apply s_buildS; rfl; exact fs_25; exact zb_25; exact qR); (apply od_mv; rfl; rfl; apply s_move; rfl); (apply od_mv; rfl; rfl; apply s_nilCheck; rfl); (apply od_mv; rfl; rfl; apply s_fieldAddr'; rfl; exact fd_60_1; exact qZ); (apply od_mv; rfl; rfl; apply s_load1; rfl; rfl; exact qP); (apply od_fx; (first | exact Wk.refl _ _ | exact qW); (apply fx_eff; rfl; apply s_storeN; rfl; rfl; exact sz_25; rfl; rfl; exact qN; exact qN)); (apply od_mv; rfl; rfl; apply s_assign; rfl); (apply od_nil; (first | exact Wk.refl _ _ | exact qW)); (apply ol_nil))
          | (apply cw_cond_true; rfl; exact qA)
          | (apply cw_cond_false; rfl; exact qA)
          | apply cw_skip
          | apply cw_ret
          | apply cw_block
          | apply cw_exit
        all_goals
          refine endsW [] [] View.nil (RVal.cellN rfl rfl rfl (RdN.own (by (repeat (first | exact Has.here | apply Has.there))) (by focus ((repeat (first | rfl | constructor)); done))) (RVal.tmp rfl RVal.nil)) Pick.nil (View.nil_le _) (View.freshM_nil _ _) (fun F _ _ => ?_)
          exact ⟨rfl, zItem, by rw [zItem_enc, hd0]; rfl, fun h => by omega, fun _ => rfl⟩
      · rw [if_neg (by omega)] at hd0
        repeat' first
          | apply cw_seq
          | (refine cw_region_id 4 ?_; (apply ol_mv; rfl; rfl))
          | (refine cw_region_id 5 ?_; (apply ol_mv; rfl; rfl); (apply ol_val; rfl; apply stp_pur; apply s_nilCheck; rfl); (apply ol_fa; rfl; rfl; exact fd_60_0; exact qZ); (apply ol_ld; rfl; rfl; rfl; exact qP); (apply ol_val; rfl; apply stp_pur; apply s_len; rfl; exact el_22); (apply ol_val; rfl; apply stp_cmp; apply s_gtr; rfl; rfl; all_goals (intro hc20; try (exfalso; (first | exact hc20 rfl | omega)))); all_goals (apply ol_nil))
          | (refine cw_region_id 7 ?_; (apply ol_mv; rfl; rfl); (apply ol_val; rfl; apply stp_pur; apply s_nilCheck; rfl); (apply ol_fa; rfl; rfl; exact fd_60_1; exact qZ); (apply ol_ld; rfl; rfl; rfl; exact qP); (apply ol_val; rfl; apply stp_cmp; apply s_neq; rfl; rfl; all_goals (intro hc27; try (exfalso; (first | exact hc27 rfl | omega)))); all_goals (apply ol_nil))
          | (refine cw_region_id 9 ?_; (apply ol_ldN; rfl; rfl; rfl; exact sz_25; exact qQ); (apply ol_eff; apply s_storeN; rfl; rfl; exact sz_25; rfl; rfl; exact qN; exact qN); (apply ol_as; rfl; rfl); (apply ol_nil))
          | (apply cw_cond_true; rfl; exact qA)
          | (apply cw_cond_false; rfl; exact qA)
          | apply cw_skip
          | apply cw_ret
          | apply cw_block
          | apply cw_exit
        refine endsW [] [] F14 (RVal.cellN rfl rfl rfl (RdN.own (by (repeat (first | exact Has.here | apply Has.there))) (by focus ((repeat (first | rfl | constructor)); done))) (RVal.tmp rfl RVal.nil)) Pick.nil hL14 hF14 (fun F hF _ => ?_)
        refine ⟨rfl, x, by rw [hd0]; rfl, fun _ => ?_, fun h => absurd hd0 h⟩
        obtain ⟨g1, g2, g3, g4⟩ := hx3
        have hr0 : rest2 = [] := List.length_eq_zero_iff.1 (by omega)
        rw [hr0, List.append_nil] at g4
        exact ⟨fun N hFN => g2 N (hF.trans hFN), g3, g4.symm⟩
    · rw [if_pos he] at hd0
      have hfe : fe e2 3 = e2 := by unfold fe; rw [if_neg he]
      obtain ⟨xk, xn, xa, xl, xc, ya, yl, yc, hxe⟩ : ∃ xk xn xa xl xc ya yl yc, x.enc = [.int .i64 xk, .int .i64 xn, .slice xa xl xc, .slice ya yl yc] := ⟨_, _, _, _, _, _, _, _, rfl⟩
      rw [hxe]
      repeat' first
        | apply cw_seq
        | (refine cw_region_id 4 ?_; (apply ol_mv; rfl; rfl))
        | (refine cw_region_id 5 ?_; (apply ol_mv; rfl; rfl); (apply ol_val; rfl; apply stp_pur; apply s_nilCheck; rfl); (apply ol_fa; rfl; rfl; exact fd_60_0; exact qZ); (apply ol_ld; rfl; rfl; rfl; exact qP); (apply ol_val; rfl; apply stp_pur; apply s_len; rfl; exact el_22); (apply ol_val; rfl; apply stp_cmp; apply s_gtr; rfl; rfl; all_goals (intro hc20; try (exfalso; (first | exact hc20 rfl | omega)))); all_goals (apply ol_nil))
        | (refine cw_region_id 6 ?_; (apply ol_mv; rfl; rfl); (apply ol_val; rfl; apply s_callM (xs := [rdB bk12 a2 n2 c2 e2]); rfl; exact gf_40; (focus ((repeat (first | exact Pk.nil | (apply Pk.cons; (repeat (first | exact Spl.here | apply Spl.there))))); done)); (intro w' M2 hw' hrd; exact fail_spec (k := 3) hw'.le hrd.ok (fun x hx b hb => View.none_of hrd.le (hrd.sep x hx b hb)) hrd.nd); (intro v F22 ys M22 h hl22 hL22 hF22; subst h; rw [hfe])); (apply ol_nil))
        | (refine cw_region_id 7 ?_; (apply ol_mv; rfl; rfl); (apply ol_val; rfl; apply stp_pur; apply s_nilCheck; rfl); (apply ol_fa; rfl; rfl; exact fd_60_1; exact qZ); (apply ol_ld; rfl; rfl; rfl; exact qP); (apply ol_val; rfl; apply stp_cmp; apply s_neq; rfl; rfl; all_goals (intro hc27; try (exfalso; (first | exact hc27 rfl | omega)))); all_goals (apply ol_nil))
        | (refine cw_isreg 8 ?_; refine cw_draw (id := 8) 7 (.mv 0 (.mv 1 (.mv 2 (.mv 3 (.mv 4 (.fx 5 (.mv 6 (PT.nil)))))))) mixed (by kernel_rfl) ?_; (apply od_mv; rfl; rfl; apply s_buildS; rfl; exact fs_25; exact zb_25; exact qR); (apply od_mv; rfl; rfl; apply s_move; rfl); (apply od_mv; rfl; rfl; apply s_nilCheck; rfl); (apply od_mv; rfl; rfl; apply s_fieldAddr'; rfl; exact fd_60_1; exact qZ); (apply od_mv; rfl; rfl; apply s_load1; rfl; rfl; exact qP); (apply od_fx; (first | exact Wk.refl _ _ | exact qW); (apply fx_eff; rfl; apply s_storeN; rfl; rfl; exact sz_25; rfl; rfl; exact qN; exact qN)); (apply od_mv; rfl; rfl; apply s_assign; rfl); (apply od_nil; (first | exact Wk.refl _ _ | exact qW)); (apply ol_nil))
        | (apply cw_cond_true; rfl; exact qA)
        | (apply cw_cond_false; rfl; exact qA)
        | apply cw_skip
        | apply cw_ret
        | apply cw_block
        | apply cw_exit
      all_goals
        refine endsW [] [] View.nil (RVal.cellN rfl rfl rfl (RdN.own (by (repeat (first | exact Has.here | apply Has.there))) (by focus ((repeat (first | rfl | constructor)); done))) (RVal.tmp rfl RVal.nil)) Pick.nil (View.nil_le _) (View.freshM_nil _ _) (fun F _ _ => ?_)
        exact ⟨rfl, zItem, by rw [zItem_enc, hd0]; rfl, fun h => by omega, fun _ => rfl⟩
end Go.Proofs.YtkkfgeekdaalmaaDoor
namespace Go.Proofs.YtkkfgeekdaalmaaDoor
set_option maxRecDepth 20000
set_option linter.unusedSimpArgs false
set_option linter.unusedVariables false
open Go Go.Fw
/-- What the reference's reading says. -/
def RdR (d : Nat) (l : List Int) (M : View) (v : Value) (F : View) (ys : List OB) : Prop :=
  ys = [] ∧ ∃ a' n' c' e rest, ∃ x : It d, v = .tuple #[.agg x.enc.toArray, .slice a' n' c', .int .i64 (e : Nat)] ∧ rdE d l = (e, rest) ∧ (e = 0 → (∀ N, View.le M N → View.le F N → BV N rest a' n' c') ∧ (∀ N, View.le F N → ItV N d x) ∧ okR d x ∧ l = encI d x ++ rest)
end Go.Proofs.YtkkfgeekdaalmaaDoor
namespace Go.Proofs.YtkkfgeekdaalmaaDoor
set_option maxRecDepth 20000
set_option linter.unusedSimpArgs false
set_option linter.unusedVariables false
open Go Go.Fw
structure RlSt (d : Nat) where
  j : Nat
  a : Option Addr
  n : Nat
  c : Nat
  rest : List Int
  r : Option Nat
  A : Option Addr
  cap : Nat
  sp : List Value
  L : List (It d)
  F : View
def DecQ (l : List Int) (M : View) (v : Value) (F : View) (ys : List OB) : Prop := DecR l M v F ys
end Go.Proofs.YtkkfgeekdaalmaaDoor
namespace Go.Proofs.YtkkfgeekdaalmaaDoor
set_option maxRecDepth 20000
set_option linter.unusedSimpArgs false
set_option linter.unusedVariables false
open Go Go.Fw
def sameH (a b : Hd) : Bool := decide (a.k = b.k ∧ a.n = b.n ∧ a.B.xs = b.B.xs ∧ a.m = b.m)
/-- The same item. -/
def sameI : (d : Nat) → It d → It d → Bool
  | 0, a, b => sameH a b
  | d + 1, a, b => sameH a.1 b.1 && (a.2.zip b.2).all fun p => sameI d p.1 p.2
/-- All of the item is read. -/
def fullI : (d : Nat) → It d → Prop
  | 0, h => h.m = 0
  | d + 1, p => ∀ y ∈ p.2, fullI d y
theorem full_of_ok {M : View} : ∀ {d : Nat} {x : It d}, ItV M d x → okI d x = true → fullI d x
  | 0, h, _, hk => by
    unfold okI okH at hk
    have := of_decide_eq_true hk
    show h.m = 0
    omega
  | d + 1, p, ⟨_, h2, _, h4⟩, hk => by
    intro y hy
    unfold okI at hk
    split at hk
    · rw [Bool.and_eq_true, List.all_eq_true] at hk
      exact full_of_ok (h4 y hy) (hk.2 y hy)
    · unfold okH at hk
      have := of_decide_eq_true hk
      have : p.2.length = 0 := by omega
      rw [List.length_eq_zero_iff.1 this] at hy
      cases hy
theorem sameI_head {d : Nat} {x y : It d} (h : sameH x.hd y.hd = false) : sameI d x y = false := by
  cases d with
  | zero => exact h
  | succ d => unfold sameI; rw [show sameH x.1 y.1 = false from h]; rfl
theorem sameH_iff {a b : Hd} : sameH a b = true ↔ a.k = b.k ∧ a.n = b.n ∧ a.B.xs = b.B.xs ∧ a.m = b.m := decide_eq_true_iff
end Go.Proofs.YtkkfgeekdaalmaaDoor
namespace Go.Proofs.YtkkfgeekdaalmaaDoor
set_option maxRecDepth 20000
set_option linter.unusedSimpArgs false
set_option linter.unusedVariables false
open Go Go.Fw
theorem sameH_cases (k k2 n n2 : Int) (xs ys : List Int) (m m2 : Nat) (h : ¬ (k = k2 ∧ n = n2 ∧ xs = ys ∧ m = m2)) : k ≠ k2 ∨ (k = k2 ∧ n ≠ n2) ∨ (k = k2 ∧ n = n2 ∧ xs ≠ ys) ∨ (k = k2 ∧ n = n2 ∧ xs = ys ∧ m ≠ m2) := by
  by_cases h1 : k = k2
  · by_cases h2 : n = n2
    · by_cases h3 : xs = ys
      · exact .inr (.inr (.inr ⟨h1, h2, h3, fun h4 => h ⟨h1, h2, h3, h4⟩⟩))
      · exact .inr (.inr (.inl ⟨h1, h2, h3⟩))
    · exact .inr (.inl ⟨h1, h2⟩)
  · exact .inl h1
end Go.Proofs.YtkkfgeekdaalmaaDoor
namespace Go.Proofs.YtkkfgeekdaalmaaDoor
set_option maxRecDepth 20000
set_option linter.unusedSimpArgs false
set_option linter.unusedVariables false
open Go Go.Fw
attribute [local irreducible] CW OL OD FX Stp FnC FnV FnA FnM Ret bI encI okI numB rdE rdN strOf
set_option maxHeartbeats 3200000
theorem bequal_spec {M : View} {w : World} (hM : View.le M (View.of w)) {l l' : List Int} {n n' c c' : Nat} (hn : l.length = n) (hn' : l'.length = n') (hl : ∀ x ∈ l, 0 ≤ x ∧ x ≤ 255) (hl' : ∀ x ∈ l', 0 ≤ x ∧ x ≤ 255) {a a' : Option Addr} {b o b' o' : Nat} (s : SlA M (eK .u8) 1 a l b o) (s' : SlA M (eK .u8) 1 a' l' b' o') :
    FnC Tryd.prog 16 [.slice a n c, .slice a' n' c'] w (fun v _ => v = .bool (decide (l = l'))) := by
  refine enterF (M := M) Tryd.func16 rfl rfl rfl rfl hM ?_
  have hbe := strOf_beq hl hl'
  repeat' first
    | apply cw_seq
    | (refine cw_region_id 0 ?_; (apply ol_as; rfl; rfl); (apply ol_nil))
    | (refine cw_region_id 1 ?_; (apply ol_mv; rfl; rfl); (apply ol_val; rfl; apply stp_pur; apply s_convBS; rfl; exact el_22; exact tdInt_eq ti_5; exact us_9; (first | exact s.atn hn | exact s'.atn hn'); (first | exact hn | exact hn'); (first | exact s.rd hn | exact s'.rd hn')); (apply ol_mv; rfl; rfl); (apply ol_val; rfl; apply stp_pur; apply s_convBS; rfl; exact el_22; exact tdInt_eq ti_5; exact us_9; (first | exact s.atn hn | exact s'.atn hn'); (first | exact hn | exact hn'); (first | exact s.rd hn | exact s'.rd hn')); (apply ol_val; rfl; apply stp_pur; apply s_eqlStr; rfl; rfl); (apply ol_as; rfl; rfl); (apply ol_nil))
    | (apply cw_cond_true; rfl; exact qA)
    | (apply cw_cond_false; rfl; exact qA)
    | apply cw_skip
    | apply cw_ret
    | apply cw_block
    | apply cw_exit
  refine ends [] (RVal.tmp rfl RVal.nil) Pick.nil ?_
  exact congrArg Value.bool hbe
theorem rsame_no {M : View} {w : World} (hM : View.le M (View.of w)) {d : Nat} {x y : It d} (hx : HdV M x.hd) (hy : HdV M y.hd) (h : sameH x.hd y.hd = false) :
    FnC Tryd.prog 19 [.agg x.enc.toArray, .agg y.enc.toArray] w (fun v _ => v = .bool false) := by
  unfold It.enc
  generalize x.hd = a at *
  generalize y.hd = b at *
  obtain ⟨k, n, ⟨xs, Ba, Bb, Bo, Bc⟩, La, Lb, Lo, Lc, m⟩ := a
  obtain ⟨k2, n2, ⟨ys, Ba2, Bb2, Bo2, Bc2⟩, La2, Lb2, Lo2, Lc2, m2⟩ := b
  have hcs := sameH_cases k k2 n n2 xs ys m m2 (of_decide_eq_false h)
  clear h
  obtain ⟨sB, hb, _, _⟩ := hx
  obtain ⟨sB2, hb2, _, _⟩ := hy
  dsimp only at sB sB2 hb hb2 ⊢
  have hbe := strOf_beq hb hb2
  refine enterF (M := M) Tryd.func19 rfl rfl rfl rfl hM ?_
  rcases hcs with h | ⟨rfl, h⟩ | ⟨rfl, rfl, h⟩ | ⟨rfl, rfl, rfl, h⟩
  ·
    repeat' first
      | apply cw_seq
      | (refine cw_region_id 0 ?_; (apply ol_val; rfl; first | (apply s_boxN; rfl; intro bk2) | (apply s_box1; rfl; rfl; intro bk2)); (apply ol_val; rfl; first | (apply s_boxN; rfl; intro bk3) | (apply s_box1; rfl; rfl; intro bk3)); (apply ol_as; rfl; rfl); (apply ol_nil))
      | (refine cw_region_id 1 ?_; (apply ol_fa; rfl; rfl; exact fd_25_0; exact qZ); (apply ol_ld; rfl; rfl; rfl; exact qP); (apply ol_fa; rfl; rfl; exact fd_25_0; exact qZ); (apply ol_ld; rfl; rfl; rfl; exact qP); (apply ol_val; rfl; apply stp_cmp; apply s_neq; rfl; rfl; all_goals (intro hc10; try (exfalso; (first | exact hc10 rfl | omega)))); all_goals (apply ol_mv; rfl; rfl); all_goals (first | (apply ol_gskip; rfl; rfl; exact qA; rfl) | (apply ol_gval; rfl; rfl; rfl; exact qA; apply stp_pur; apply s_fieldAddr'; rfl; exact fd_25_1; exact qZ)); all_goals (first | (apply ol_gskip; rfl; rfl; exact qA; rfl) | (apply ol_gval; rfl; rfl; rfl; exact qA; apply stp_pur; apply s_load1; rfl; rfl; exact qP)); all_goals (first | (apply ol_gskip; rfl; rfl; exact qA; rfl) | (apply ol_gval; rfl; rfl; rfl; exact qA; apply stp_pur; apply s_fieldAddr'; rfl; exact fd_25_1; exact qZ)); all_goals (first | (apply ol_gskip; rfl; rfl; exact qA; rfl) | (apply ol_gval; rfl; rfl; rfl; exact qA; apply stp_pur; apply s_load1; rfl; rfl; exact qP)); all_goals (first | (apply ol_gskip; rfl; rfl; exact qA; rfl) | (apply ol_gval; rfl; rfl; rfl; exact qA; apply stp_cmp; apply s_neq; rfl; rfl; all_goals (intro hc16; try (exfalso; (first | exact hc16 rfl | omega))))); all_goals (apply ol_val; rfl; apply stp_pur; first | (apply s_pick_t; rfl; exact qA; rfl) | (apply s_pick_f; rfl; exact qA; rfl)); all_goals (apply ol_mv; rfl; rfl); all_goals (first | (apply ol_gskip; rfl; rfl; exact qA; rfl) | (apply ol_gval; rfl; rfl; rfl; exact qA; apply stp_pur; apply s_fieldAddr'; rfl; exact fd_25_2; exact qZ)); all_goals (first | (apply ol_gskip; rfl; rfl; exact qA; rfl) | (apply ol_gval; rfl; rfl; rfl; exact qA; apply stp_pur; apply s_load1; rfl; rfl; exact qP)); all_goals (apply ol_gskip; rfl; rfl; exact qA; rfl); all_goals (first | (apply ol_gskip; rfl; rfl; exact qA; rfl) | (apply ol_gval; rfl; rfl; rfl; exact qA; apply stp_pur; apply s_fieldAddr'; rfl; exact fd_25_2; exact qZ)); all_goals (first | (apply ol_gskip; rfl; rfl; exact qA; rfl) | (apply ol_gval; rfl; rfl; rfl; exact qA; apply stp_pur; apply s_load1; rfl; rfl; exact qP)); all_goals (apply ol_gskip; rfl; rfl; exact qA; rfl); all_goals (first | (apply ol_gskip; rfl; rfl; exact qA; rfl) | (apply ol_gval; rfl; rfl; rfl; exact qA; apply stp_pur; apply s_neqStr; rfl; rfl)); all_goals (apply ol_val; rfl; apply stp_pur; first | (apply s_pick_t; rfl; exact qA; rfl) | (apply s_pick_f; rfl; exact qA; rfl)); all_goals (apply ol_mv; rfl; rfl); all_goals (first | (apply ol_gskip; rfl; rfl; exact qA; rfl) | (apply ol_gval; rfl; rfl; rfl; exact qA; apply stp_pur; apply s_fieldAddr'; rfl; exact fd_25_3; exact qZ)); all_goals (first | (apply ol_gskip; rfl; rfl; exact qA; rfl) | (apply ol_gval; rfl; rfl; rfl; exact qA; apply stp_pur; apply s_load1; rfl; rfl; exact qP)); all_goals (first | (apply ol_gskip; rfl; rfl; exact qA; rfl) | (apply ol_gval; rfl; rfl; rfl; exact qA; apply stp_pur; apply s_len; rfl; exact el_23)); all_goals (first | (apply ol_gskip; rfl; rfl; exact qA; rfl) | (apply ol_gval; rfl; rfl; rfl; exact qA; apply stp_pur; apply s_fieldAddr'; rfl; exact fd_25_3; exact qZ)); all_goals (first | (apply ol_gskip; rfl; rfl; exact qA; rfl) | (apply ol_gval; rfl; rfl; rfl; exact qA; apply stp_pur; apply s_load1; rfl; rfl; exact qP)); all_goals (first | (apply ol_gskip; rfl; rfl; exact qA; rfl) | (apply ol_gval; rfl; rfl; rfl; exact qA; apply stp_pur; apply s_len; rfl; exact el_23)); all_goals (first | (apply ol_gskip; rfl; rfl; exact qA; rfl) | (apply ol_gval; rfl; rfl; rfl; exact qA; apply stp_cmp; apply s_neq; rfl; rfl; all_goals (intro hc34; try (exfalso; (first | exact hc34 rfl | omega))))); all_goals (apply ol_val; rfl; apply stp_pur; first | (apply s_pick_t; rfl; exact qA; rfl) | (apply s_pick_f; rfl; exact qA; rfl)); all_goals (apply ol_nil))
      | (refine cw_region_id 2 ?_; (apply ol_as; rfl; rfl); (apply ol_nil))
      | (apply cw_cond_true; rfl; exact qA)
      | (apply cw_cond_false; rfl; exact qA)
      | apply cw_skip
      | apply cw_ret
      | apply cw_block
      | apply cw_exit
    all_goals (refine ends [] (RVal.tmp rfl RVal.nil) Pick.nil ?_; rfl)
  ·
    repeat' first
      | apply cw_seq
      | (refine cw_region_id 0 ?_; (apply ol_val; rfl; first | (apply s_boxN; rfl; intro bk2) | (apply s_box1; rfl; rfl; intro bk2)); (apply ol_val; rfl; first | (apply s_boxN; rfl; intro bk3) | (apply s_box1; rfl; rfl; intro bk3)); (apply ol_as; rfl; rfl); (apply ol_nil))
      | (refine cw_region_id 1 ?_; (apply ol_fa; rfl; rfl; exact fd_25_0; exact qZ); (apply ol_ld; rfl; rfl; rfl; exact qP); (apply ol_fa; rfl; rfl; exact fd_25_0; exact qZ); (apply ol_ld; rfl; rfl; rfl; exact qP); (apply ol_val; rfl; apply stp_cmp; apply s_neq; rfl; rfl; all_goals (intro hc10; try (exfalso; (first | exact hc10 rfl | omega)))); all_goals (apply ol_mv; rfl; rfl); all_goals (first | (apply ol_gskip; rfl; rfl; exact qA; rfl) | (apply ol_gval; rfl; rfl; rfl; exact qA; apply stp_pur; apply s_fieldAddr'; rfl; exact fd_25_1; exact qZ)); all_goals (first | (apply ol_gskip; rfl; rfl; exact qA; rfl) | (apply ol_gval; rfl; rfl; rfl; exact qA; apply stp_pur; apply s_load1; rfl; rfl; exact qP)); all_goals (first | (apply ol_gskip; rfl; rfl; exact qA; rfl) | (apply ol_gval; rfl; rfl; rfl; exact qA; apply stp_pur; apply s_fieldAddr'; rfl; exact fd_25_1; exact qZ)); all_goals (first | (apply ol_gskip; rfl; rfl; exact qA; rfl) | (apply ol_gval; rfl; rfl; rfl; exact qA; apply stp_pur; apply s_load1; rfl; rfl; exact qP)); all_goals (first | (apply ol_gskip; rfl; rfl; exact qA; rfl) | (apply ol_gval; rfl; rfl; rfl; exact qA; apply stp_cmp; apply s_neq; rfl; rfl; all_goals (intro hc16; try (exfalso; (first | exact hc16 rfl | omega))))); all_goals (apply ol_val; rfl; apply stp_pur; first | (apply s_pick_t; rfl; exact qA; rfl) | (apply s_pick_f; rfl; exact qA; rfl)); all_goals (apply ol_mv; rfl; rfl); all_goals (first | (apply ol_gskip; rfl; rfl; exact qA; rfl) | (apply ol_gval; rfl; rfl; rfl; exact qA; apply stp_pur; apply s_fieldAddr'; rfl; exact fd_25_2; exact qZ)); all_goals (first | (apply ol_gskip; rfl; rfl; exact qA; rfl) | (apply ol_gval; rfl; rfl; rfl; exact qA; apply stp_pur; apply s_load1; rfl; rfl; exact qP)); all_goals (apply ol_gskip; rfl; rfl; exact qA; rfl); all_goals (first | (apply ol_gskip; rfl; rfl; exact qA; rfl) | (apply ol_gval; rfl; rfl; rfl; exact qA; apply stp_pur; apply s_fieldAddr'; rfl; exact fd_25_2; exact qZ)); all_goals (first | (apply ol_gskip; rfl; rfl; exact qA; rfl) | (apply ol_gval; rfl; rfl; rfl; exact qA; apply stp_pur; apply s_load1; rfl; rfl; exact qP)); all_goals (apply ol_gskip; rfl; rfl; exact qA; rfl); all_goals (first | (apply ol_gskip; rfl; rfl; exact qA; rfl) | (apply ol_gval; rfl; rfl; rfl; exact qA; apply stp_pur; apply s_neqStr; rfl; rfl)); all_goals (apply ol_val; rfl; apply stp_pur; first | (apply s_pick_t; rfl; exact qA; rfl) | (apply s_pick_f; rfl; exact qA; rfl)); all_goals (apply ol_mv; rfl; rfl); all_goals (first | (apply ol_gskip; rfl; rfl; exact qA; rfl) | (apply ol_gval; rfl; rfl; rfl; exact qA; apply stp_pur; apply s_fieldAddr'; rfl; exact fd_25_3; exact qZ)); all_goals (first | (apply ol_gskip; rfl; rfl; exact qA; rfl) | (apply ol_gval; rfl; rfl; rfl; exact qA; apply stp_pur; apply s_load1; rfl; rfl; exact qP)); all_goals (first | (apply ol_gskip; rfl; rfl; exact qA; rfl) | (apply ol_gval; rfl; rfl; rfl; exact qA; apply stp_pur; apply s_len; rfl; exact el_23)); all_goals (first | (apply ol_gskip; rfl; rfl; exact qA; rfl) | (apply ol_gval; rfl; rfl; rfl; exact qA; apply stp_pur; apply s_fieldAddr'; rfl; exact fd_25_3; exact qZ)); all_goals (first | (apply ol_gskip; rfl; rfl; exact qA; rfl) | (apply ol_gval; rfl; rfl; rfl; exact qA; apply stp_pur; apply s_load1; rfl; rfl; exact qP)); all_goals (first | (apply ol_gskip; rfl; rfl; exact qA; rfl) | (apply ol_gval; rfl; rfl; rfl; exact qA; apply stp_pur; apply s_len; rfl; exact el_23)); all_goals (first | (apply ol_gskip; rfl; rfl; exact qA; rfl) | (apply ol_gval; rfl; rfl; rfl; exact qA; apply stp_cmp; apply s_neq; rfl; rfl; all_goals (intro hc34; try (exfalso; (first | exact hc34 rfl | omega))))); all_goals (apply ol_val; rfl; apply stp_pur; first | (apply s_pick_t; rfl; exact qA; rfl) | (apply s_pick_f; rfl; exact qA; rfl)); all_goals (apply ol_nil))
      | (refine cw_region_id 2 ?_; (apply ol_as; rfl; rfl); (apply ol_nil))
      | (apply cw_cond_true; rfl; exact qA)
      | (apply cw_cond_false; rfl; exact qA)
      | apply cw_skip
      | apply cw_ret
      | apply cw_block
      | apply cw_exit
    all_goals (refine ends [] (RVal.tmp rfl RVal.nil) Pick.nil ?_; rfl)
  · rw [decide_eq_false h] at hbe
    have hbn : (!((strOf xs).toList == (strOf ys).toList)) = true := by rw [hbe]; rfl
    repeat' first
      | apply cw_seq
      | (refine cw_region_id 0 ?_; (apply ol_val; rfl; first | (apply s_boxN; rfl; intro bk2) | (apply s_box1; rfl; rfl; intro bk2)); (apply ol_val; rfl; first | (apply s_boxN; rfl; intro bk3) | (apply s_box1; rfl; rfl; intro bk3)); (apply ol_as; rfl; rfl); (apply ol_nil))
      | (refine cw_region_id 1 ?_; (apply ol_fa; rfl; rfl; exact fd_25_0; exact qZ); (apply ol_ld; rfl; rfl; rfl; exact qP); (apply ol_fa; rfl; rfl; exact fd_25_0; exact qZ); (apply ol_ld; rfl; rfl; rfl; exact qP); (apply ol_val; rfl; apply stp_cmp; apply s_neq; rfl; rfl; all_goals (intro hc10; try (exfalso; (first | exact hc10 rfl | omega)))); all_goals (apply ol_mv; rfl; rfl); all_goals (first | (apply ol_gskip; rfl; rfl; exact qA; rfl) | (apply ol_gval; rfl; rfl; rfl; exact qA; apply stp_pur; apply s_fieldAddr'; rfl; exact fd_25_1; exact qZ)); all_goals (first | (apply ol_gskip; rfl; rfl; exact qA; rfl) | (apply ol_gval; rfl; rfl; rfl; exact qA; apply stp_pur; apply s_load1; rfl; rfl; exact qP)); all_goals (first | (apply ol_gskip; rfl; rfl; exact qA; rfl) | (apply ol_gval; rfl; rfl; rfl; exact qA; apply stp_pur; apply s_fieldAddr'; rfl; exact fd_25_1; exact qZ)); all_goals (first | (apply ol_gskip; rfl; rfl; exact qA; rfl) | (apply ol_gval; rfl; rfl; rfl; exact qA; apply stp_pur; apply s_load1; rfl; rfl; exact qP)); all_goals (first | (apply ol_gskip; rfl; rfl; exact qA; rfl) | (apply ol_gval; rfl; rfl; rfl; exact qA; apply stp_cmp; apply s_neq; rfl; rfl; all_goals (intro hc16; try (exfalso; (first | exact hc16 rfl | omega))))); all_goals (apply ol_val; rfl; apply stp_pur; first | (apply s_pick_t; rfl; exact qA; rfl) | (apply s_pick_f; rfl; exact qA; rfl)); all_goals (apply ol_mv; rfl; rfl); all_goals (first | (apply ol_gskip; rfl; rfl; exact qA; rfl) | (apply ol_gval; rfl; rfl; rfl; exact qA; apply stp_pur; apply s_fieldAddr'; rfl; exact fd_25_2; exact qZ)); all_goals (first | (apply ol_gskip; rfl; rfl; exact qA; rfl) | (apply ol_gval; rfl; rfl; rfl; exact qA; apply stp_pur; apply s_load1; rfl; rfl; exact qP)); all_goals (first | (apply ol_gskip; rfl; rfl; exact qA; rfl) | (apply ol_gval; rfl; rfl; rfl; exact qA; apply stp_pur; first | (apply s_convBS; rfl; exact el_22; exact tdInt_eq ti_5; exact us_9; exact sB.atn rfl; rfl; exact sB.rd rfl) | (apply s_convBS; rfl; exact el_22; exact tdInt_eq ti_5; exact us_9; exact sB2.atn rfl; rfl; exact sB2.rd rfl))); all_goals (first | (apply ol_gskip; rfl; rfl; exact qA; rfl) | (apply ol_gval; rfl; rfl; rfl; exact qA; apply stp_pur; apply s_fieldAddr'; rfl; exact fd_25_2; exact qZ)); all_goals (first | (apply ol_gskip; rfl; rfl; exact qA; rfl) | (apply ol_gval; rfl; rfl; rfl; exact qA; apply stp_pur; apply s_load1; rfl; rfl; exact qP)); all_goals (first | (apply ol_gskip; rfl; rfl; exact qA; rfl) | (apply ol_gval; rfl; rfl; rfl; exact qA; apply stp_pur; first | (apply s_convBS; rfl; exact el_22; exact tdInt_eq ti_5; exact us_9; exact sB.atn rfl; rfl; exact sB.rd rfl) | (apply s_convBS; rfl; exact el_22; exact tdInt_eq ti_5; exact us_9; exact sB2.atn rfl; rfl; exact sB2.rd rfl))); all_goals (first | (apply ol_gskip; rfl; rfl; exact qA; rfl) | (apply ol_gval; rfl; rfl; rfl; exact qA; apply stp_pur; apply s_neqStr; rfl; rfl)); all_goals (apply ol_val; rfl; apply stp_pur; first | (apply s_pick_t; rfl; exact qA; rfl) | (apply s_pick_f; rfl; exact qA; rfl)); all_goals (apply ol_mv; rfl; rfl); all_goals (first | (apply ol_gskip; rfl; rfl; exact qA; rfl) | (apply ol_gval; rfl; rfl; rfl; exact qA; apply stp_pur; apply s_fieldAddr'; rfl; exact fd_25_3; exact qZ)); all_goals (first | (apply ol_gskip; rfl; rfl; exact qA; rfl) | (apply ol_gval; rfl; rfl; rfl; exact qA; apply stp_pur; apply s_load1; rfl; rfl; exact qP)); all_goals (first | (apply ol_gskip; rfl; rfl; exact qA; rfl) | (apply ol_gval; rfl; rfl; rfl; exact qA; apply stp_pur; apply s_len; rfl; exact el_23)); all_goals (first | (apply ol_gskip; rfl; rfl; exact qA; rfl) | (apply ol_gval; rfl; rfl; rfl; exact qA; apply stp_pur; apply s_fieldAddr'; rfl; exact fd_25_3; exact qZ)); all_goals (first | (apply ol_gskip; rfl; rfl; exact qA; rfl) | (apply ol_gval; rfl; rfl; rfl; exact qA; apply stp_pur; apply s_load1; rfl; rfl; exact qP)); all_goals (first | (apply ol_gskip; rfl; rfl; exact qA; rfl) | (apply ol_gval; rfl; rfl; rfl; exact qA; apply stp_pur; apply s_len; rfl; exact el_23)); all_goals (first | (apply ol_gskip; rfl; rfl; exact qA; rfl) | (apply ol_gval; rfl; rfl; rfl; exact qA; apply stp_cmp; apply s_neq; rfl; rfl; all_goals (intro hc34; try (exfalso; (first | exact hc34 rfl | omega))))); all_goals (apply ol_val; rfl; apply stp_pur; first | (apply s_pick_t; rfl; exact qA; rfl) | (apply s_pick_f; rfl; exact qA; rfl)); all_goals (apply ol_nil))
      | (refine cw_region_id 2 ?_; (apply ol_as; rfl; rfl); (apply ol_nil))
      | (apply cw_cond_true; rfl; exact qA)
      | (apply cw_cond_false; rfl; exact qA)
      | apply cw_skip
      | apply cw_ret
      | apply cw_block
      | apply cw_exit
    all_goals (refine ends [] (RVal.tmp rfl RVal.nil) Pick.nil ?_; rfl)
  · rw [decide_eq_true rfl] at hbe
    have hbn : (!((strOf xs).toList == (strOf xs).toList)) = false := by rw [hbe]; rfl
    repeat' first
      | apply cw_seq
      | (refine cw_region_id 0 ?_; (apply ol_val; rfl; first | (apply s_boxN; rfl; intro bk2) | (apply s_box1; rfl; rfl; intro bk2)); (apply ol_val; rfl; first | (apply s_boxN; rfl; intro bk3) | (apply s_box1; rfl; rfl; intro bk3)); (apply ol_as; rfl; rfl); (apply ol_nil))
      | (refine cw_region_id 1 ?_; (apply ol_fa; rfl; rfl; exact fd_25_0; exact qZ); (apply ol_ld; rfl; rfl; rfl; exact qP); (apply ol_fa; rfl; rfl; exact fd_25_0; exact qZ); (apply ol_ld; rfl; rfl; rfl; exact qP); (apply ol_val; rfl; apply stp_cmp; apply s_neq; rfl; rfl; all_goals (intro hc10; try (exfalso; (first | exact hc10 rfl | omega)))); all_goals (apply ol_mv; rfl; rfl); all_goals (first | (apply ol_gskip; rfl; rfl; exact qA; rfl) | (apply ol_gval; rfl; rfl; rfl; exact qA; apply stp_pur; apply s_fieldAddr'; rfl; exact fd_25_1; exact qZ)); all_goals (first | (apply ol_gskip; rfl; rfl; exact qA; rfl) | (apply ol_gval; rfl; rfl; rfl; exact qA; apply stp_pur; apply s_load1; rfl; rfl; exact qP)); all_goals (first | (apply ol_gskip; rfl; rfl; exact qA; rfl) | (apply ol_gval; rfl; rfl; rfl; exact qA; apply stp_pur; apply s_fieldAddr'; rfl; exact fd_25_1; exact qZ)); all_goals (first | (apply ol_gskip; rfl; rfl; exact qA; rfl) | (apply ol_gval; rfl; rfl; rfl; exact qA; apply stp_pur; apply s_load1; rfl; rfl; exact qP)); all_goals (first | (apply ol_gskip; rfl; rfl; exact qA; rfl) | (apply ol_gval; rfl; rfl; rfl; exact qA; apply stp_cmp; apply s_neq; rfl; rfl; all_goals (intro hc16; try (exfalso; (first | exact hc16 rfl | omega))))); all_goals (apply ol_val; rfl; apply stp_pur; first | (apply s_pick_t; rfl; exact qA; rfl) | (apply s_pick_f; rfl; exact qA; rfl)); all_goals (apply ol_mv; rfl; rfl); all_goals (first | (apply ol_gskip; rfl; rfl; exact qA; rfl) | (apply ol_gval; rfl; rfl; rfl; exact qA; apply stp_pur; apply s_fieldAddr'; rfl; exact fd_25_2; exact qZ)); all_goals (first | (apply ol_gskip; rfl; rfl; exact qA; rfl) | (apply ol_gval; rfl; rfl; rfl; exact qA; apply stp_pur; apply s_load1; rfl; rfl; exact qP)); all_goals (first | (apply ol_gskip; rfl; rfl; exact qA; rfl) | (apply ol_gval; rfl; rfl; rfl; exact qA; apply stp_pur; first | (apply s_convBS; rfl; exact el_22; exact tdInt_eq ti_5; exact us_9; exact sB.atn rfl; rfl; exact sB.rd rfl) | (apply s_convBS; rfl; exact el_22; exact tdInt_eq ti_5; exact us_9; exact sB2.atn rfl; rfl; exact sB2.rd rfl))); all_goals (first | (apply ol_gskip; rfl; rfl; exact qA; rfl) | (apply ol_gval; rfl; rfl; rfl; exact qA; apply stp_pur; apply s_fieldAddr'; rfl; exact fd_25_2; exact qZ)); all_goals (first | (apply ol_gskip; rfl; rfl; exact qA; rfl) | (apply ol_gval; rfl; rfl; rfl; exact qA; apply stp_pur; apply s_load1; rfl; rfl; exact qP)); all_goals (first | (apply ol_gskip; rfl; rfl; exact qA; rfl) | (apply ol_gval; rfl; rfl; rfl; exact qA; apply stp_pur; first | (apply s_convBS; rfl; exact el_22; exact tdInt_eq ti_5; exact us_9; exact sB.atn rfl; rfl; exact sB.rd rfl) | (apply s_convBS; rfl; exact el_22; exact tdInt_eq ti_5; exact us_9; exact sB2.atn rfl; rfl; exact sB2.rd rfl))); all_goals (first | (apply ol_gskip; rfl; rfl; exact qA; rfl) | (apply ol_gval; rfl; rfl; rfl; exact qA; apply stp_pur; apply s_neqStr; rfl; rfl)); all_goals (apply ol_val; rfl; apply stp_pur; first | (apply s_pick_t; rfl; exact qA; rfl) | (apply s_pick_f; rfl; exact qA; rfl)); all_goals (apply ol_mv; rfl; rfl); all_goals (first | (apply ol_gskip; rfl; rfl; exact qA; rfl) | (apply ol_gval; rfl; rfl; rfl; exact qA; apply stp_pur; apply s_fieldAddr'; rfl; exact fd_25_3; exact qZ)); all_goals (first | (apply ol_gskip; rfl; rfl; exact qA; rfl) | (apply ol_gval; rfl; rfl; rfl; exact qA; apply stp_pur; apply s_load1; rfl; rfl; exact qP)); all_goals (first | (apply ol_gskip; rfl; rfl; exact qA; rfl) | (apply ol_gval; rfl; rfl; rfl; exact qA; apply stp_pur; apply s_len; rfl; exact el_23)); all_goals (first | (apply ol_gskip; rfl; rfl; exact qA; rfl) | (apply ol_gval; rfl; rfl; rfl; exact qA; apply stp_pur; apply s_fieldAddr'; rfl; exact fd_25_3; exact qZ)); all_goals (first | (apply ol_gskip; rfl; rfl; exact qA; rfl) | (apply ol_gval; rfl; rfl; rfl; exact qA; apply stp_pur; apply s_load1; rfl; rfl; exact qP)); all_goals (first | (apply ol_gskip; rfl; rfl; exact qA; rfl) | (apply ol_gval; rfl; rfl; rfl; exact qA; apply stp_pur; apply s_len; rfl; exact el_23)); all_goals (first | (apply ol_gskip; rfl; rfl; exact qA; rfl) | (apply ol_gval; rfl; rfl; rfl; exact qA; apply stp_cmp; apply s_neq; rfl; rfl; all_goals (intro hc34; try (exfalso; (first | exact hc34 rfl | omega))))); all_goals (apply ol_val; rfl; apply stp_pur; first | (apply s_pick_t; rfl; exact qA; rfl) | (apply s_pick_f; rfl; exact qA; rfl)); all_goals (apply ol_nil))
      | (refine cw_region_id 2 ?_; (apply ol_as; rfl; rfl); (apply ol_nil))
      | (apply cw_cond_true; rfl; exact qA)
      | (apply cw_cond_false; rfl; exact qA)
      | apply cw_skip
      | apply cw_ret
      | apply cw_block
      | apply cw_exit
    all_goals (refine ends [] (RVal.tmp rfl RVal.nil) Pick.nil ?_; rfl)
theorem rsame_spec : ∀ (d : Nat) {M : View} {w : World}, View.le M (View.of w) → ∀ {x y : It d}, ItV M d x → ItV M d y → fullI d x → fullI d y →
    FnC Tryd.prog 19 [.agg x.enc.toArray, .agg y.enc.toArray] w (fun v _ => v = .bool (sameI d x y)) := by
  intro d
  induction d with
  | zero =>
    intro M w hM x y hx hy fx fy
    cases h : sameH x.hd y.hd with
    | false =>
      rw [sameI_head h]
      exact rsame_no hM hx.head hy.head h
    | true =>
      have e : sameI 0 x y = true := h
      rw [e]
      clear e
      have fx : x.hd.m = 0 := fx
      have fy : y.hd.m = 0 := fy
      have hx := hx.head
      have hy := hy.head
      unfold It.enc
      generalize x.hd = a at *
      generalize y.hd = b at *
      obtain ⟨k, n, ⟨xs, Ba, Bb, Bo, Bc⟩, La, Lb, Lo, Lc, m⟩ := a
      obtain ⟨k2, n2, ⟨ys, Ba2, Bb2, Bo2, Bc2⟩, La2, Lb2, Lo2, Lc2, m2⟩ := b
      obtain ⟨rfl, rfl, rfl, rfl⟩ : k = k2 ∧ n = n2 ∧ xs = ys ∧ m = m2 := sameH_iff.1 h
      obtain ⟨sB, hb, _, _⟩ := hx
      obtain ⟨sB2, hb2, _, _⟩ := hy
      dsimp only at sB sB2 hb hb2 fx fy ⊢
      have hbe := strOf_beq hb hb
      rw [decide_eq_true rfl] at hbe
      have hbn : (!((strOf xs).toList == (strOf xs).toList)) = false := by rw [hbe]; rfl
      refine enterF (M := M) Tryd.func19 rfl rfl rfl rfl hM ?_
      repeat' first
        | apply cw_seq
        | (refine cw_region_id 0 ?_; (apply ol_val; rfl; first | (apply s_boxN; rfl; intro bk2) | (apply s_box1; rfl; rfl; intro bk2)); (apply ol_val; rfl; first | (apply s_boxN; rfl; intro bk3) | (apply s_box1; rfl; rfl; intro bk3)); (apply ol_as; rfl; rfl); (apply ol_nil))
        | (refine cw_region_id 1 ?_; (apply ol_fa; rfl; rfl; exact fd_25_0; exact qZ); (apply ol_ld; rfl; rfl; rfl; exact qP); (apply ol_fa; rfl; rfl; exact fd_25_0; exact qZ); (apply ol_ld; rfl; rfl; rfl; exact qP); (apply ol_val; rfl; apply stp_cmp; apply s_neq; rfl; rfl; all_goals (intro hc10; try (exfalso; (first | exact hc10 rfl | omega)))); all_goals (apply ol_mv; rfl; rfl); all_goals (first | (apply ol_gskip; rfl; rfl; exact qA; rfl) | (apply ol_gval; rfl; rfl; rfl; exact qA; apply stp_pur; apply s_fieldAddr'; rfl; exact fd_25_1; exact qZ)); all_goals (first | (apply ol_gskip; rfl; rfl; exact qA; rfl) | (apply ol_gval; rfl; rfl; rfl; exact qA; apply stp_pur; apply s_load1; rfl; rfl; exact qP)); all_goals (first | (apply ol_gskip; rfl; rfl; exact qA; rfl) | (apply ol_gval; rfl; rfl; rfl; exact qA; apply stp_pur; apply s_fieldAddr'; rfl; exact fd_25_1; exact qZ)); all_goals (first | (apply ol_gskip; rfl; rfl; exact qA; rfl) | (apply ol_gval; rfl; rfl; rfl; exact qA; apply stp_pur; apply s_load1; rfl; rfl; exact qP)); all_goals (first | (apply ol_gskip; rfl; rfl; exact qA; rfl) | (apply ol_gval; rfl; rfl; rfl; exact qA; apply stp_cmp; apply s_neq; rfl; rfl; all_goals (intro hc16; try (exfalso; (first | exact hc16 rfl | omega))))); all_goals (apply ol_val; rfl; apply stp_pur; first | (apply s_pick_t; rfl; exact qA; rfl) | (apply s_pick_f; rfl; exact qA; rfl)); all_goals (apply ol_mv; rfl; rfl); all_goals (first | (apply ol_gskip; rfl; rfl; exact qA; rfl) | (apply ol_gval; rfl; rfl; rfl; exact qA; apply stp_pur; apply s_fieldAddr'; rfl; exact fd_25_2; exact qZ)); all_goals (first | (apply ol_gskip; rfl; rfl; exact qA; rfl) | (apply ol_gval; rfl; rfl; rfl; exact qA; apply stp_pur; apply s_load1; rfl; rfl; exact qP)); all_goals (first | (apply ol_gskip; rfl; rfl; exact qA; rfl) | (apply ol_gval; rfl; rfl; rfl; exact qA; apply stp_pur; first | (apply s_convBS; rfl; exact el_22; exact tdInt_eq ti_5; exact us_9; exact sB.atn rfl; rfl; exact sB.rd rfl) | (apply s_convBS; rfl; exact el_22; exact tdInt_eq ti_5; exact us_9; exact sB2.atn rfl; rfl; exact sB2.rd rfl))); all_goals (first | (apply ol_gskip; rfl; rfl; exact qA; rfl) | (apply ol_gval; rfl; rfl; rfl; exact qA; apply stp_pur; apply s_fieldAddr'; rfl; exact fd_25_2; exact qZ)); all_goals (first | (apply ol_gskip; rfl; rfl; exact qA; rfl) | (apply ol_gval; rfl; rfl; rfl; exact qA; apply stp_pur; apply s_load1; rfl; rfl; exact qP)); all_goals (first | (apply ol_gskip; rfl; rfl; exact qA; rfl) | (apply ol_gval; rfl; rfl; rfl; exact qA; apply stp_pur; first | (apply s_convBS; rfl; exact el_22; exact tdInt_eq ti_5; exact us_9; exact sB.atn rfl; rfl; exact sB.rd rfl) | (apply s_convBS; rfl; exact el_22; exact tdInt_eq ti_5; exact us_9; exact sB2.atn rfl; rfl; exact sB2.rd rfl))); all_goals (first | (apply ol_gskip; rfl; rfl; exact qA; rfl) | (apply ol_gval; rfl; rfl; rfl; exact qA; apply stp_pur; apply s_neqStr; rfl; rfl)); all_goals (apply ol_val; rfl; apply stp_pur; first | (apply s_pick_t; rfl; exact qA; rfl) | (apply s_pick_f; rfl; exact qA; rfl)); all_goals (apply ol_mv; rfl; rfl); all_goals (first | (apply ol_gskip; rfl; rfl; exact qA; rfl) | (apply ol_gval; rfl; rfl; rfl; exact qA; apply stp_pur; apply s_fieldAddr'; rfl; exact fd_25_3; exact qZ)); all_goals (first | (apply ol_gskip; rfl; rfl; exact qA; rfl) | (apply ol_gval; rfl; rfl; rfl; exact qA; apply stp_pur; apply s_load1; rfl; rfl; exact qP)); all_goals (first | (apply ol_gskip; rfl; rfl; exact qA; rfl) | (apply ol_gval; rfl; rfl; rfl; exact qA; apply stp_pur; apply s_len; rfl; exact el_23)); all_goals (first | (apply ol_gskip; rfl; rfl; exact qA; rfl) | (apply ol_gval; rfl; rfl; rfl; exact qA; apply stp_pur; apply s_fieldAddr'; rfl; exact fd_25_3; exact qZ)); all_goals (first | (apply ol_gskip; rfl; rfl; exact qA; rfl) | (apply ol_gval; rfl; rfl; rfl; exact qA; apply stp_pur; apply s_load1; rfl; rfl; exact qP)); all_goals (first | (apply ol_gskip; rfl; rfl; exact qA; rfl) | (apply ol_gval; rfl; rfl; rfl; exact qA; apply stp_pur; apply s_len; rfl; exact el_23)); all_goals (first | (apply ol_gskip; rfl; rfl; exact qA; rfl) | (apply ol_gval; rfl; rfl; rfl; exact qA; apply stp_cmp; apply s_neq; rfl; rfl; all_goals (intro hc34; try (exfalso; (first | exact hc34 rfl | omega))))); all_goals (apply ol_val; rfl; apply stp_pur; first | (apply s_pick_t; rfl; exact qA; rfl) | (apply s_pick_f; rfl; exact qA; rfl)); all_goals (apply ol_nil))
        | (refine cw_region_id 3 ?_; (apply ol_as; rfl; rfl); (apply ol_nil))
        | (apply cw_cond_true; rfl; exact qA)
        | (apply cw_cond_false; rfl; exact qA)
        | apply cw_skip
        | apply cw_ret
        | apply cw_block
        | apply cw_exit
      refine cw_loopK (σ := Nat) [2, 3] (by (repeat (first | exact Keep.nil | (apply Keep.cons; rfl)))) (fun i => [(5, .int .i64 i)]) (fun _ => M) (fun _ => [⟨some bk2, [.int .i64 k, .int .i64 n, .slice Ba xs.length Bc, .slice La m Lc], 25⟩]) (fun i => i = 0) (fun i => 1 - i) 0 (by (repeat (first | exact trivial | refine And.intro rfl ?_))) (View.le.refl _) (by exact qK) rfl ?_
      rintro i rfl
      repeat' first
        | apply cw_seq
        | (refine cw_region_id 4 ?_; (apply ol_mv; rfl; rfl); (apply ol_fa; rfl; rfl; exact fd_25_3; exact qZ); (apply ol_ld; rfl; rfl; rfl; exact qP); (apply ol_val; rfl; apply stp_pur; apply s_len; rfl; exact el_23); (apply ol_val; rfl; apply stp_cmp; apply s_lss; rfl; rfl; all_goals (intro hc40; try (exfalso; (first | exact hc40 rfl | omega)))); all_goals (apply ol_nil))
        | (refine cw_region_id 8 ?_; (apply ol_as; rfl; rfl); (apply ol_nil))
        | (apply cw_cond_true; rfl; exact qA)
        | (apply cw_cond_false; rfl; exact qA)
        | apply cw_skip
        | apply cw_ret
        | apply cw_block
        | apply cw_exit
      all_goals (refine ends [] (RVal.tmp rfl RVal.nil) Pick.nil ?_; rfl)
  | succ d ih =>
    intro M w hM x y hx hy fx fy
    cases h : sameH x.hd y.hd with
    | false =>
      rw [sameI_head h]
      exact rsame_no hM hx.head hy.head h
    | true =>
      obtain ⟨a, L⟩ := x
      obtain ⟨b, L'⟩ := y
      have e : sameI (d + 1) (a, L) (b, L') = (L.zip L').all fun p => sameI d p.1 p.2 := by
        show (sameH a b && (L.zip L').all fun p => sameI d p.1 p.2) = _
        rw [show sameH a b = true from h, Bool.true_and]
      rw [e]
      clear e
      obtain ⟨⟨sB, hb, _, hmb⟩, hl, sL, hLi⟩ := hx
      obtain ⟨⟨sB2, hb2, _, _⟩, hl', sL', hLi'⟩ := hy
      unfold It.enc
      have fx : ∀ z ∈ L, fullI d z := fx
      have fy : ∀ z ∈ L', fullI d z := fy
      simp only [It.hd] at h hl hl' sL sL' sB sB2 hb hb2 hLi hLi' hmb ⊢
      obtain ⟨k, n, ⟨xs, Ba, Bb, Bo, Bc⟩, La, Lb, Lo, Lc, m⟩ := a
      obtain ⟨k2, n2, ⟨ys, Ba2, Bb2, Bo2, Bc2⟩, La2, Lb2, Lo2, Lc2, m2⟩ := b
      obtain ⟨rfl, rfl, rfl, rfl⟩ : k = k2 ∧ n = n2 ∧ xs = ys ∧ m = m2 := sameH_iff.1 h
      dsimp only at sB sB2 hb hb2 hl hl' sL sL' hmb ⊢
      have hbe := strOf_beq hb hb
      rw [decide_eq_true rfl] at hbe
      have hbn : (!((strOf xs).toList == (strOf xs).toList)) = false := by rw [hbe]; rfl
      refine enterF (M := M) Tryd.func19 rfl rfl rfl rfl hM ?_
      repeat' first
        | apply cw_seq
        | (refine cw_region_id 0 ?_; (apply ol_val; rfl; first | (apply s_boxN; rfl; intro bk2) | (apply s_box1; rfl; rfl; intro bk2)); (apply ol_val; rfl; first | (apply s_boxN; rfl; intro bk3) | (apply s_box1; rfl; rfl; intro bk3)); (apply ol_as; rfl; rfl); (apply ol_nil))
        | (refine cw_region_id 1 ?_; (apply ol_fa; rfl; rfl; exact fd_25_0; exact qZ); (apply ol_ld; rfl; rfl; rfl; exact qP); (apply ol_fa; rfl; rfl; exact fd_25_0; exact qZ); (apply ol_ld; rfl; rfl; rfl; exact qP); (apply ol_val; rfl; apply stp_cmp; apply s_neq; rfl; rfl; all_goals (intro hc10; try (exfalso; (first | exact hc10 rfl | omega)))); all_goals (apply ol_mv; rfl; rfl); all_goals (first | (apply ol_gskip; rfl; rfl; exact qA; rfl) | (apply ol_gval; rfl; rfl; rfl; exact qA; apply stp_pur; apply s_fieldAddr'; rfl; exact fd_25_1; exact qZ)); all_goals (first | (apply ol_gskip; rfl; rfl; exact qA; rfl) | (apply ol_gval; rfl; rfl; rfl; exact qA; apply stp_pur; apply s_load1; rfl; rfl; exact qP)); all_goals (first | (apply ol_gskip; rfl; rfl; exact qA; rfl) | (apply ol_gval; rfl; rfl; rfl; exact qA; apply stp_pur; apply s_fieldAddr'; rfl; exact fd_25_1; exact qZ)); all_goals (first | (apply ol_gskip; rfl; rfl; exact qA; rfl) | (apply ol_gval; rfl; rfl; rfl; exact qA; apply stp_pur; apply s_load1; rfl; rfl; exact qP)); all_goals (first | (apply ol_gskip; rfl; rfl; exact qA; rfl) | (apply ol_gval; rfl; rfl; rfl; exact qA; apply stp_cmp; apply s_neq; rfl; rfl; all_goals (intro hc16; try (exfalso; (first | exact hc16 rfl | omega))))); all_goals (apply ol_val; rfl; apply stp_pur; first | (apply s_pick_t; rfl; exact qA; rfl) | (apply s_pick_f; rfl; exact qA; rfl)); all_goals (apply ol_mv; rfl; rfl); all_goals (first | (apply ol_gskip; rfl; rfl; exact qA; rfl) | (apply ol_gval; rfl; rfl; rfl; exact qA; apply stp_pur; apply s_fieldAddr'; rfl; exact fd_25_2; exact qZ)); all_goals (first | (apply ol_gskip; rfl; rfl; exact qA; rfl) | (apply ol_gval; rfl; rfl; rfl; exact qA; apply stp_pur; apply s_load1; rfl; rfl; exact qP)); all_goals (first | (apply ol_gskip; rfl; rfl; exact qA; rfl) | (apply ol_gval; rfl; rfl; rfl; exact qA; apply stp_pur; first | (apply s_convBS; rfl; exact el_22; exact tdInt_eq ti_5; exact us_9; exact sB.atn rfl; rfl; exact sB.rd rfl) | (apply s_convBS; rfl; exact el_22; exact tdInt_eq ti_5; exact us_9; exact sB2.atn rfl; rfl; exact sB2.rd rfl))); all_goals (first | (apply ol_gskip; rfl; rfl; exact qA; rfl) | (apply ol_gval; rfl; rfl; rfl; exact qA; apply stp_pur; apply s_fieldAddr'; rfl; exact fd_25_2; exact qZ)); all_goals (first | (apply ol_gskip; rfl; rfl; exact qA; rfl) | (apply ol_gval; rfl; rfl; rfl; exact qA; apply stp_pur; apply s_load1; rfl; rfl; exact qP)); all_goals (first | (apply ol_gskip; rfl; rfl; exact qA; rfl) | (apply ol_gval; rfl; rfl; rfl; exact qA; apply stp_pur; first | (apply s_convBS; rfl; exact el_22; exact tdInt_eq ti_5; exact us_9; exact sB.atn rfl; rfl; exact sB.rd rfl) | (apply s_convBS; rfl; exact el_22; exact tdInt_eq ti_5; exact us_9; exact sB2.atn rfl; rfl; exact sB2.rd rfl))); all_goals (first | (apply ol_gskip; rfl; rfl; exact qA; rfl) | (apply ol_gval; rfl; rfl; rfl; exact qA; apply stp_pur; apply s_neqStr; rfl; rfl)); all_goals (apply ol_val; rfl; apply stp_pur; first | (apply s_pick_t; rfl; exact qA; rfl) | (apply s_pick_f; rfl; exact qA; rfl)); all_goals (apply ol_mv; rfl; rfl); all_goals (first | (apply ol_gskip; rfl; rfl; exact qA; rfl) | (apply ol_gval; rfl; rfl; rfl; exact qA; apply stp_pur; apply s_fieldAddr'; rfl; exact fd_25_3; exact qZ)); all_goals (first | (apply ol_gskip; rfl; rfl; exact qA; rfl) | (apply ol_gval; rfl; rfl; rfl; exact qA; apply stp_pur; apply s_load1; rfl; rfl; exact qP)); all_goals (first | (apply ol_gskip; rfl; rfl; exact qA; rfl) | (apply ol_gval; rfl; rfl; rfl; exact qA; apply stp_pur; apply s_len; rfl; exact el_23)); all_goals (first | (apply ol_gskip; rfl; rfl; exact qA; rfl) | (apply ol_gval; rfl; rfl; rfl; exact qA; apply stp_pur; apply s_fieldAddr'; rfl; exact fd_25_3; exact qZ)); all_goals (first | (apply ol_gskip; rfl; rfl; exact qA; rfl) | (apply ol_gval; rfl; rfl; rfl; exact qA; apply stp_pur; apply s_load1; rfl; rfl; exact qP)); all_goals (first | (apply ol_gskip; rfl; rfl; exact qA; rfl) | (apply ol_gval; rfl; rfl; rfl; exact qA; apply stp_pur; apply s_len; rfl; exact el_23)); all_goals (first | (apply ol_gskip; rfl; rfl; exact qA; rfl) | (apply ol_gval; rfl; rfl; rfl; exact qA; apply stp_cmp; apply s_neq; rfl; rfl; all_goals (intro hc34; try (exfalso; (first | exact hc34 rfl | omega))))); all_goals (apply ol_val; rfl; apply stp_pur; first | (apply s_pick_t; rfl; exact qA; rfl) | (apply s_pick_f; rfl; exact qA; rfl)); all_goals (apply ol_nil))
        | (refine cw_region_id 3 ?_; (apply ol_as; rfl; rfl); (apply ol_nil))
        | (apply cw_cond_true; rfl; exact qA)
        | (apply cw_cond_false; rfl; exact qA)
        | apply cw_skip
        | apply cw_ret
        | apply cw_block
        | apply cw_exit
      refine cw_loopK (σ := Nat) [2, 3] (by (repeat (first | exact Keep.nil | (apply Keep.cons; rfl)))) (fun i => [(5, .int .i64 i)]) (fun _ => M) (fun _ => [⟨some bk2, [.int .i64 k, .int .i64 n, .slice Ba xs.length Bc, .slice La m Lc], 25⟩, ⟨some bk3, [.int .i64 k, .int .i64 n, .slice Ba2 xs.length Bc2, .slice La2 m Lc2], 25⟩]) (fun i => i ≤ m ∧ ((L.zip L').take i).all (fun p => sameI d p.1 p.2) = true) (fun i => m - i) 0 (by (repeat (first | exact trivial | refine And.intro rfl ?_))) (View.le.refl _) (by exact qK) ⟨Nat.zero_le _, rfl⟩ ?_
      rintro i ⟨hi, hall⟩
      have hzl : (L.zip L').length = m := by rw [List.length_zip]; omega
      by_cases him : i < m
      · have h1 : i < L.length := by omega
        have h2 : i < L'.length := by omega
        have h3 : i < (L.zip L').length := by omega
        have hz : (L.zip L')[i] = (L[i], L'[i]) := List.getElem_zip
        have c1 := sL.cells i h1
        have c2 := sL'.cells i h2
        have kS := fun (w' : World) (h : View.le M (View.of w')) => ih h (hLi L[i] (List.getElem_mem h1)) (hLi' L'[i] (List.getElem_mem h2)) (fx L[i] (List.getElem_mem h1)) (fy L'[i] (List.getElem_mem h2))
        have htk : ((L.zip L').take (i + 1)).all (fun p => sameI d p.1 p.2) = sameI d L[i] L'[i] := by rw [List.take_succ_eq_append_getElem h3, List.all_append, hall, hz]; simp
        have hbad : sameI d L[i] L'[i] = false → ((L.zip L').all fun p => sameI d p.1 p.2) = false := fun h => by
          rw [List.all_eq_false]
          exact ⟨_, List.getElem_mem h3, by rw [hz, h]; simp⟩
        clear hz hLi hLi'
        generalize L[i] = z at *
        generalize L'[i] = z' at *
        cases hq : sameI d z z' with
        | true =>
          rw [hq] at kS htk
          repeat' first
            | apply cw_seq
            | (refine cw_region_id 4 ?_; (apply ol_mv; rfl; rfl); (apply ol_fa; rfl; rfl; exact fd_25_3; exact qZ); (apply ol_ld; rfl; rfl; rfl; (first | exact qP | (apply RdN.view; first | exact c1 | exact c2))); (apply ol_val; rfl; apply stp_pur; apply s_len; rfl; exact el_23); (apply ol_val; rfl; apply stp_cmp; apply s_lss; rfl; rfl; all_goals (intro hc40; try (exfalso; (first | exact hc40 rfl | omega)))); all_goals (apply ol_nil))
            | (refine cw_isreg 6 ?_; refine cw_draw (id := 6) 12 (.mv 0 (.mv 1 (.mv 2 (.mv 3 (.mv 4 (.mv 5 (.mv 6 (.mv 7 (.mv 8 (.mv 9 (.fx 10 (.mv 11 (PT.nil))))))))))))) mixed (by kernel_rfl) ?_; (apply od_mv; rfl; rfl; apply s_fieldAddr'; rfl; exact fd_25_3; exact qZ); (apply od_mv; rfl; rfl; apply s_load1; rfl; rfl; (first | exact qP | (apply RdN.view; first | exact c1 | exact c2))); (apply od_mv; rfl; rfl; apply s_move; rfl); (apply od_mv; rfl; rfl; first | (apply s_indexK; rfl; rfl; exact el_23; exact sz_25; (first | rfl | (first | exact sL.at_ (by omega) | exact sL'.at_ (by omega))); omega) | (apply s_indexO; rfl; rfl; exact el_23; exact sz_25; (first | rfl | (first | exact sL.at_ (by omega) | exact sL'.at_ (by omega))); omega)); (apply od_mv; rfl; rfl; apply s_loadN; rfl; rfl; exact sz_25; (first | exact qQ | (apply RdN.view; first | exact c1 | exact c2))); (apply od_mv; rfl; rfl; apply s_fieldAddr'; rfl; exact fd_25_3; exact qZ); (apply od_mv; rfl; rfl; apply s_load1; rfl; rfl; (first | exact qP | (apply RdN.view; first | exact c1 | exact c2))); (apply od_mv; rfl; rfl; apply s_move; rfl); (apply od_mv; rfl; rfl; first | (apply s_indexK; rfl; rfl; exact el_23; exact sz_25; (first | rfl | (first | exact sL.at_ (by omega) | exact sL'.at_ (by omega))); omega) | (apply s_indexO; rfl; rfl; exact el_23; exact sz_25; (first | rfl | (first | exact sL.at_ (by omega) | exact sL'.at_ (by omega))); omega)); (apply od_mv; rfl; rfl; apply s_loadN; rfl; rfl; exact sz_25; (first | exact qQ | (apply RdN.view; first | exact c1 | exact c2))); (apply od_fx; (first | exact Wk.refl _ _ | exact qW); (apply fx_val; rfl; rfl; apply s_callv; rfl; exact gf_19; (intro w' hw'; exact kS w' hw'.le))); (apply od_mv; rfl; rfl; first | (apply s_not_t; rfl; exact qA) | (apply s_not_f; rfl; exact qA) | (apply s_not; rfl)); (apply od_nil; (first | exact Wk.refl _ _ | exact qW)); (apply ol_nil))
            | (refine cw_region_id 5 ?_; (apply ol_mv; rfl; rfl); (apply ol_val; rfl; apply stp_pur; apply s_add64; rfl; rfl; omega); (apply ol_as; rfl; rfl); (apply ol_nil))
            | (apply cw_cond_true; rfl; exact qA)
            | (apply cw_cond_false; rfl; exact qA)
            | apply cw_skip
            | apply cw_ret
            | apply cw_block
            | apply cw_exit
          all_goals (exact ⟨i + 1, ⟨by (repeat (first | exact trivial | refine And.intro rfl ?_)), View.le.refl _, by exact qK, ⟨him, htk⟩, by omega⟩⟩)
        | false =>
          rw [hq] at kS
          rw [hbad hq]
          repeat' first
            | apply cw_seq
            | (refine cw_region_id 4 ?_; (apply ol_mv; rfl; rfl); (apply ol_fa; rfl; rfl; exact fd_25_3; exact qZ); (apply ol_ld; rfl; rfl; rfl; (first | exact qP | (apply RdN.view; first | exact c1 | exact c2))); (apply ol_val; rfl; apply stp_pur; apply s_len; rfl; exact el_23); (apply ol_val; rfl; apply stp_cmp; apply s_lss; rfl; rfl; all_goals (intro hc40; try (exfalso; (first | exact hc40 rfl | omega)))); all_goals (apply ol_nil))
            | (refine cw_isreg 6 ?_; refine cw_draw (id := 6) 12 (.mv 0 (.mv 1 (.mv 2 (.mv 3 (.mv 4 (.mv 5 (.mv 6 (.mv 7 (.mv 8 (.mv 9 (.fx 10 (.mv 11 (PT.nil))))))))))))) mixed (by kernel_rfl) ?_; (apply od_mv; rfl; rfl; apply s_fieldAddr'; rfl; exact fd_25_3; exact qZ); (apply od_mv; rfl; rfl; apply s_load1; rfl; rfl; (first | exact qP | (apply RdN.view; first | exact c1 | exact c2))); (apply od_mv; rfl; rfl; apply s_move; rfl); (apply od_mv; rfl; rfl; first | (apply s_indexK; rfl; rfl; exact el_23; exact sz_25; (first | rfl | (first | exact sL.at_ (by omega) | exact sL'.at_ (by omega))); omega) | (apply s_indexO; rfl; rfl; exact el_23; exact sz_25; (first | rfl | (first | exact sL.at_ (by omega) | exact sL'.at_ (by omega))); omega)); (apply od_mv; rfl; rfl; apply s_loadN; rfl; rfl; exact sz_25; (first | exact qQ | (apply RdN.view; first | exact c1 | exact c2))); (apply od_mv; rfl; rfl; apply s_fieldAddr'; rfl; exact fd_25_3; exact qZ); (apply od_mv; rfl; rfl; apply s_load1; rfl; rfl; (first | exact qP | (apply RdN.view; first | exact c1 | exact c2))); (apply od_mv; rfl; rfl; apply s_move; rfl); (apply od_mv; rfl; rfl; first | (apply s_indexK; rfl; rfl; exact el_23; exact sz_25; (first | rfl | (first | exact sL.at_ (by omega) | exact sL'.at_ (by omega))); omega) | (apply s_indexO; rfl; rfl; exact el_23; exact sz_25; (first | rfl | (first | exact sL.at_ (by omega) | exact sL'.at_ (by omega))); omega)); (apply od_mv; rfl; rfl; apply s_loadN; rfl; rfl; exact sz_25; (first | exact qQ | (apply RdN.view; first | exact c1 | exact c2))); (apply od_fx; (first | exact Wk.refl _ _ | exact qW); (apply fx_val; rfl; rfl; apply s_callv; rfl; exact gf_19; (intro w' hw'; exact kS w' hw'.le))); (apply od_mv; rfl; rfl; first | (apply s_not_t; rfl; exact qA) | (apply s_not_f; rfl; exact qA) | (apply s_not; rfl)); (apply od_nil; (first | exact Wk.refl _ _ | exact qW)); (apply ol_nil))
            | (refine cw_region_id 7 ?_; (apply ol_as; rfl; rfl); (apply ol_nil))
            | (apply cw_cond_true; rfl; exact qA)
            | (apply cw_cond_false; rfl; exact qA)
            | apply cw_skip
            | apply cw_ret
            | apply cw_block
            | apply cw_exit
          all_goals (refine ends [] (RVal.tmp rfl RVal.nil) Pick.nil ?_; rfl)
      · rw [List.take_of_length_le (by omega)] at hall
        rw [hall]
        repeat' first
          | apply cw_seq
          | (refine cw_region_id 4 ?_; (apply ol_mv; rfl; rfl); (apply ol_fa; rfl; rfl; exact fd_25_3; exact qZ); (apply ol_ld; rfl; rfl; rfl; exact qP); (apply ol_val; rfl; apply stp_pur; apply s_len; rfl; exact el_23); (apply ol_val; rfl; apply stp_cmp; apply s_lss; rfl; rfl; all_goals (intro hc40; try (exfalso; (first | exact hc40 rfl | omega)))); all_goals (apply ol_nil))
          | (refine cw_region_id 8 ?_; (apply ol_as; rfl; rfl); (apply ol_nil))
          | (apply cw_cond_true; rfl; exact qA)
          | (apply cw_cond_false; rfl; exact qA)
          | apply cw_skip
          | apply cw_ret
          | apply cw_block
          | apply cw_exit
        all_goals (refine ends [] (RVal.tmp rfl RVal.nil) Pick.nil ?_; rfl)
end Go.Proofs.YtkkfgeekdaalmaaDoor
namespace Go.Proofs.YtkkfgeekdaalmaaDoor
set_option maxRecDepth 20000
set_option linter.unusedSimpArgs false
set_option linter.unusedVariables false
open Go Go.Fw
attribute [local irreducible] CW OL OD FX Stp FnC FnV FnA FnM Ret bI encI okI numB rdE rdN strOf
set_option maxHeartbeats 3200000
theorem eqF_spec {M : View} {w : World} (hM : View.le M (View.of w)) {d : Nat} {L L' : List (It d)} {n n' : Nat} (hn : L.length = n) (hn' : L'.length = n') (hb : n ≤ 140737488355328) {a a' : Option Addr} {b o c b' o' c' : Nat} (s : SlA M It.enc 4 a L b o) (s' : SlA M It.enc 4 a' L' b' o')
    (ih : ∀ (w' : World) (x y : It d), x ∈ L → y ∈ L' → View.le M (View.of w') → FnC Tryd.prog 43 [.agg x.enc.toArray, .agg y.enc.toArray] w' (fun v _ => v = .bool (sameI d x y))) :
    FnC Tryd.prog 51 [.slice a n c, .slice a' n' c', .func (.func 43) #[] #[]] w (fun v _ => v = .bool (decide (n = n') && (L.zip L').all fun p => sameI d p.1 p.2)) := by
  refine enterF (M := M) Tryd.func51 rfl rfl rfl rfl hM ?_
  by_cases hnn : n = n'
  · subst hnn
    rw [decide_eq_true rfl, Bool.true_and]
    repeat' first
      | apply cw_seq
      | (refine cw_region_id 0 ?_; (apply ol_as; rfl; rfl); (apply ol_nil))
      | (refine cw_region_id 1 ?_; (apply ol_mv; rfl; rfl); (apply ol_val; rfl; apply stp_pur; apply s_len; rfl; exact el_23); (apply ol_mv; rfl; rfl); (apply ol_val; rfl; apply stp_pur; apply s_len; rfl; exact el_23); (apply ol_val; rfl; apply stp_cmp; apply s_neq; rfl; rfl; all_goals (intro hc14; try (exfalso; (first | exact hc14 rfl | omega)))); all_goals (apply ol_nil))
      | (refine cw_region_id 3 ?_; (apply ol_mv; rfl; rfl); (apply ol_val; rfl; apply stp_pur; apply s_len; rfl; exact el_23); (apply ol_mv; rfl; rfl); (apply ol_nil))
      | (apply cw_cond_true; rfl; exact qA)
      | (apply cw_cond_false; rfl; exact qA)
      | apply cw_skip
      | apply cw_ret
      | apply cw_block
      | apply cw_exit
    refine cw_loopK (σ := Nat) [1, 2, 15, 16] (by (repeat (first | exact Keep.nil | (apply Keep.cons; rfl)))) (fun i => [(17, .int .i64 i)]) (fun _ => M) (fun _ => []) (fun i => i ≤ n ∧ ((L.zip L').take i).all (fun p => sameI d p.1 p.2) = true) (fun i => n - i) 0 (by (repeat (first | exact trivial | refine And.intro rfl ?_))) (View.le.refl _) (by exact qK) ⟨Nat.zero_le _, rfl⟩ ?_
    rintro i ⟨hi, hall⟩
    have hzl : (L.zip L').length = n := by rw [List.length_zip]; omega
    by_cases him : i < n
    · have h1 : i < L.length := by omega
      have h2 : i < L'.length := by omega
      have h3 : i < (L.zip L').length := by omega
      have hz : (L.zip L')[i] = (L[i], L'[i]) := List.getElem_zip
      have c1 := s.cells i h1
      have c2 := s'.cells i h2
      have kS := fun (w' : World) (h : View.le M (View.of w')) => ih w' L[i] L'[i] (List.getElem_mem h1) (List.getElem_mem h2) h
      have htk : ((L.zip L').take (i + 1)).all (fun p => sameI d p.1 p.2) = sameI d L[i] L'[i] := by rw [List.take_succ_eq_append_getElem h3, List.all_append, hall, hz]; simp
      have hbad : sameI d L[i] L'[i] = false → ((L.zip L').all fun p => sameI d p.1 p.2) = false := fun h => by
        rw [List.all_eq_false]
        exact ⟨_, List.getElem_mem h3, by rw [hz, h]; simp⟩
      clear hz ih
      generalize L[i] = z at *
      generalize L'[i] = z' at *
      unfold It.enc at c1 c2 kS
      cases hq : sameI d z z' with
      | true =>
        rw [hq] at kS htk
        repeat' first
          | apply cw_seq
          | (refine cw_region_id 4 ?_; (apply ol_val; rfl; apply stp_cmp; apply s_lss; rfl; rfl; all_goals (intro hc18; try (exfalso; (first | exact hc18 rfl | omega)))); all_goals (apply ol_nil))
          | (refine cw_region_id 5 ?_; (apply ol_mv; rfl; rfl); (apply ol_val; rfl; apply stp_pur; first | (apply s_indexK; rfl; rfl; exact el_23; exact sz_25; (first | rfl | (first | exact s.at_ (by omega) | exact s'.at_ (by omega))); omega) | (apply s_indexO; rfl; rfl; exact el_23; exact sz_25; (first | rfl | (first | exact s.at_ (by omega) | exact s'.at_ (by omega))); omega)); (apply ol_ldN; rfl; rfl; rfl; exact sz_25; (first | exact qQ | (apply RdN.view; first | exact c1 | exact c2))); (apply ol_val; rfl; apply s_alloc; exact zb_25; exact qN; intro bk8); (apply ol_as; rfl; rfl); (apply ol_eff; apply s_storeN; rfl; rfl; exact sz_25; rfl; rfl; exact qN; exact qN); (apply ol_nil))
          | (refine cw_region_id 6 ?_; (apply ol_mv; rfl; rfl); (apply ol_mv; rfl; rfl); (apply ol_val; rfl; apply stp_pur; first | (apply s_indexK; rfl; rfl; exact el_23; exact sz_25; (first | rfl | (first | exact s.at_ (by omega) | exact s'.at_ (by omega))); omega) | (apply s_indexO; rfl; rfl; exact el_23; exact sz_25; (first | rfl | (first | exact s.at_ (by omega) | exact s'.at_ (by omega))); omega)); (apply ol_ldN; rfl; rfl; rfl; exact sz_25; (first | exact qQ | (apply RdN.view; first | exact c1 | exact c2))); (apply ol_val; rfl; apply s_alloc; exact zb_25; exact qN; intro bk9); (apply ol_eff; apply s_storeN; rfl; rfl; exact sz_25; rfl; rfl; exact qN; exact qN); (apply ol_nil))
          | (refine cw_region_id 7 ?_; (apply ol_mv; rfl; rfl); (apply ol_ldN; rfl; rfl; rfl; exact sz_25; (first | exact qQ | (apply RdN.view; first | exact c1 | exact c2))); (apply ol_ldN; rfl; rfl; rfl; exact sz_25; (first | exact qQ | (apply RdN.view; first | exact c1 | exact c2))); (apply ol_val; rfl; (apply s_clov (fs := []); rfl; rfl; (show goFunc Tryd.prog 43 = true; kernel_rfl); (intro w' hw'; exact kS w' hw'.le))); all_goals (apply ol_val; rfl; apply stp_pur; first | (apply s_not_t; rfl; exact qA) | (apply s_not_f; rfl; exact qA) | (apply s_not; rfl)); all_goals (apply ol_nil))
          | (refine cw_region_id 9 ?_; (apply ol_val; rfl; apply stp_pur; apply s_add64; rfl; rfl; omega); (apply ol_mv; rfl; rfl); (apply ol_nil))
          | (apply cw_cond_true; rfl; exact qA)
          | (apply cw_cond_false; rfl; exact qA)
          | apply cw_skip
          | apply cw_ret
          | apply cw_block
          | apply cw_exit
        all_goals (exact ⟨i + 1, ⟨by (repeat (first | exact trivial | refine And.intro rfl ?_)), View.le.refl _, by exact qK, ⟨him, htk⟩, by omega⟩⟩)
      | false =>
        rw [hq] at kS
        rw [hbad hq]
        repeat' first
          | apply cw_seq
          | (refine cw_region_id 4 ?_; (apply ol_val; rfl; apply stp_cmp; apply s_lss; rfl; rfl; all_goals (intro hc18; try (exfalso; (first | exact hc18 rfl | omega)))); all_goals (apply ol_nil))
          | (refine cw_region_id 5 ?_; (apply ol_mv; rfl; rfl); (apply ol_val; rfl; apply stp_pur; first | (apply s_indexK; rfl; rfl; exact el_23; exact sz_25; (first | rfl | (first | exact s.at_ (by omega) | exact s'.at_ (by omega))); omega) | (apply s_indexO; rfl; rfl; exact el_23; exact sz_25; (first | rfl | (first | exact s.at_ (by omega) | exact s'.at_ (by omega))); omega)); (apply ol_ldN; rfl; rfl; rfl; exact sz_25; (first | exact qQ | (apply RdN.view; first | exact c1 | exact c2))); (apply ol_val; rfl; apply s_alloc; exact zb_25; exact qN; intro bk8); (apply ol_as; rfl; rfl); (apply ol_eff; apply s_storeN; rfl; rfl; exact sz_25; rfl; rfl; exact qN; exact qN); (apply ol_nil))
          | (refine cw_region_id 6 ?_; (apply ol_mv; rfl; rfl); (apply ol_mv; rfl; rfl); (apply ol_val; rfl; apply stp_pur; first | (apply s_indexK; rfl; rfl; exact el_23; exact sz_25; (first | rfl | (first | exact s.at_ (by omega) | exact s'.at_ (by omega))); omega) | (apply s_indexO; rfl; rfl; exact el_23; exact sz_25; (first | rfl | (first | exact s.at_ (by omega) | exact s'.at_ (by omega))); omega)); (apply ol_ldN; rfl; rfl; rfl; exact sz_25; (first | exact qQ | (apply RdN.view; first | exact c1 | exact c2))); (apply ol_val; rfl; apply s_alloc; exact zb_25; exact qN; intro bk9); (apply ol_eff; apply s_storeN; rfl; rfl; exact sz_25; rfl; rfl; exact qN; exact qN); (apply ol_nil))
          | (refine cw_region_id 7 ?_; (apply ol_mv; rfl; rfl); (apply ol_ldN; rfl; rfl; rfl; exact sz_25; (first | exact qQ | (apply RdN.view; first | exact c1 | exact c2))); (apply ol_ldN; rfl; rfl; rfl; exact sz_25; (first | exact qQ | (apply RdN.view; first | exact c1 | exact c2))); (apply ol_val; rfl; (apply s_clov (fs := []); rfl; rfl; (show goFunc Tryd.prog 43 = true; kernel_rfl); (intro w' hw'; exact kS w' hw'.le))); all_goals (apply ol_val; rfl; apply stp_pur; first | (apply s_not_t; rfl; exact qA) | (apply s_not_f; rfl; exact qA) | (apply s_not; rfl)); all_goals (apply ol_nil))
          | (refine cw_region_id 8 ?_; (apply ol_as; rfl; rfl); (apply ol_nil))
          | (apply cw_cond_true; rfl; exact qA)
          | (apply cw_cond_false; rfl; exact qA)
          | apply cw_skip
          | apply cw_ret
          | apply cw_block
          | apply cw_exit
        all_goals (refine ends [] (RVal.tmp rfl RVal.nil) Pick.nil ?_; rfl)
    · rw [List.take_of_length_le (by omega)] at hall
      rw [hall]
      repeat' first
        | apply cw_seq
        | (refine cw_region_id 4 ?_; (apply ol_val; rfl; apply stp_cmp; apply s_lss; rfl; rfl; all_goals (intro hc18; try (exfalso; (first | exact hc18 rfl | omega)))); all_goals (apply ol_nil))
        | (refine cw_region_id 10 ?_; (apply ol_as; rfl; rfl); (apply ol_nil))
        | (apply cw_cond_true; rfl; exact qA)
        | (apply cw_cond_false; rfl; exact qA)
        | apply cw_skip
        | apply cw_ret
        | apply cw_block
        | apply cw_exit
      all_goals (refine ends [] (RVal.tmp rfl RVal.nil) Pick.nil ?_; rfl)
  · rw [decide_eq_false hnn, Bool.false_and]
    repeat' first
      | apply cw_seq
      | (refine cw_region_id 0 ?_; (apply ol_as; rfl; rfl); (apply ol_nil))
      | (refine cw_region_id 1 ?_; (apply ol_mv; rfl; rfl); (apply ol_val; rfl; apply stp_pur; apply s_len; rfl; exact el_23); (apply ol_mv; rfl; rfl); (apply ol_val; rfl; apply stp_pur; apply s_len; rfl; exact el_23); (apply ol_val; rfl; apply stp_cmp; apply s_neq; rfl; rfl; all_goals (intro hc14; try (exfalso; (first | exact hc14 rfl | omega)))); all_goals (apply ol_nil))
      | (refine cw_region_id 2 ?_; (apply ol_as; rfl; rfl); (apply ol_nil))
      | (apply cw_cond_true; rfl; exact qA)
      | (apply cw_cond_false; rfl; exact qA)
      | apply cw_skip
      | apply cw_ret
      | apply cw_block
      | apply cw_exit
    all_goals (refine ends [] (RVal.tmp rfl RVal.nil) Pick.nil ?_; rfl)
/-- One step: what EqualFunc says of the lists is known. -/
theorem same_step {M : View} {w : World} (hM : View.le M (View.of w)) {d : Nat} {x y : It d} (hx : HdV M x.hd) (hy : HdV M y.hd) {r : Bool} (hr : sameI d x y = (decide (x.hd.k = y.hd.k) && (decide (x.hd.n = y.hd.n) && (decide (x.hd.B.xs = y.hd.B.xs) && r))))
    (kf : ∀ (w' : World), View.le M (View.of w') → FnC Tryd.prog 51 [.slice x.hd.La x.hd.m x.hd.Lc, .slice y.hd.La y.hd.m y.hd.Lc, .func (.func 43) #[] #[]] w' (fun v _ => v = .bool r)) :
    FnC Tryd.prog 43 [.agg x.enc.toArray, .agg y.enc.toArray] w (fun v _ => v = .bool (sameI d x y)) := by
  rw [hr]
  clear hr
  unfold It.enc
  generalize x.hd = a at *
  generalize y.hd = b at *
  obtain ⟨k, n, ⟨xs, Ba, Bb, Bo, Bc⟩, La, Lb, Lo, Lc, m⟩ := a
  obtain ⟨k2, n2, ⟨ys, Ba2, Bb2, Bo2, Bc2⟩, La2, Lb2, Lo2, Lc2, m2⟩ := b
  obtain ⟨sB, hb, _, _⟩ := hx
  obtain ⟨sB2, hb2, _, _⟩ := hy
  dsimp only at sB sB2 hb hb2 kf ⊢
  have kb := fun (w' : World) (h : View.le M (View.of w')) => bequal_spec h rfl rfl hb hb2 (c := Bc) (c' := Bc2) sB sB2
  refine enterF (M := M) Tryd.func43 rfl rfl rfl rfl hM ?_
  by_cases h1 : k = k2
  · by_cases h2 : n = n2
    · subst h1 h2
      rw [decide_eq_true rfl, decide_eq_true rfl, Bool.true_and, Bool.true_and]
      cases h3 : decide (xs = ys) with
      | true =>
        rw [h3] at kb
        rw [Bool.true_and]
        repeat' first
          | apply cw_seq
          | (refine cw_region_id 0 ?_; (apply ol_val; rfl; first | (apply s_boxN; rfl; intro bk2) | (apply s_box1; rfl; rfl; intro bk2)); (apply ol_val; rfl; first | (apply s_boxN; rfl; intro bk3) | (apply s_box1; rfl; rfl; intro bk3)); (apply ol_as; rfl; rfl); (apply ol_nil))
          | (refine cw_region_id 1 ?_; (apply ol_fa; rfl; rfl; exact fd_25_0; exact qZ); (apply ol_ld; rfl; rfl; rfl; exact qP); (apply ol_fa; rfl; rfl; exact fd_25_0; exact qZ); (apply ol_ld; rfl; rfl; rfl; exact qP); (apply ol_val; rfl; apply stp_cmp; apply s_eql; rfl; rfl; all_goals (intro hc9; try (exfalso; (first | exact hc9 rfl | omega)))); all_goals (apply ol_mv; rfl; rfl); all_goals (first | (apply ol_gskip; rfl; rfl; exact qA; rfl) | (apply ol_gval; rfl; rfl; rfl; exact qA; apply stp_pur; apply s_fieldAddr'; rfl; exact fd_25_1; exact qZ)); all_goals (first | (apply ol_gskip; rfl; rfl; exact qA; rfl) | (apply ol_gval; rfl; rfl; rfl; exact qA; apply stp_pur; apply s_load1; rfl; rfl; exact qP)); all_goals (first | (apply ol_gskip; rfl; rfl; exact qA; rfl) | (apply ol_gval; rfl; rfl; rfl; exact qA; apply stp_pur; apply s_fieldAddr'; rfl; exact fd_25_1; exact qZ)); all_goals (first | (apply ol_gskip; rfl; rfl; exact qA; rfl) | (apply ol_gval; rfl; rfl; rfl; exact qA; apply stp_pur; apply s_load1; rfl; rfl; exact qP)); all_goals (first | (apply ol_gskip; rfl; rfl; exact qA; rfl) | (apply ol_gval; rfl; rfl; rfl; exact qA; apply stp_cmp; apply s_eql; rfl; rfl; all_goals (intro hc15; try (exfalso; (first | exact hc15 rfl | omega))))); all_goals (apply ol_val; rfl; apply stp_pur; first | (apply s_pick_t; rfl; exact qA; rfl) | (apply s_pick_f; rfl; exact qA; rfl)); all_goals (apply ol_mv; rfl; rfl); all_goals (first | (apply ol_gskip; rfl; rfl; exact qA; rfl) | (apply ol_gval; rfl; rfl; rfl; exact qA; apply stp_pur; apply s_fieldAddr'; rfl; exact fd_25_2; exact qZ)); all_goals (first | (apply ol_gskip; rfl; rfl; exact qA; rfl) | (apply ol_gval; rfl; rfl; rfl; exact qA; apply stp_pur; apply s_load1; rfl; rfl; exact qP)); all_goals (first | (apply ol_gskip; rfl; rfl; exact qA; rfl) | (apply ol_gval; rfl; rfl; rfl; exact qA; apply stp_pur; apply s_fieldAddr'; rfl; exact fd_25_2; exact qZ)); all_goals (first | (apply ol_gskip; rfl; rfl; exact qA; rfl) | (apply ol_gval; rfl; rfl; rfl; exact qA; apply stp_pur; apply s_load1; rfl; rfl; exact qP)); all_goals (first | (apply ol_gskip; rfl; rfl; exact qA; rfl) | (apply ol_gval; rfl; rfl; rfl; exact qA; apply s_callv; rfl; exact gf_16; (intro w' hw'; exact kb w' hw'.le))); all_goals (apply ol_val; rfl; apply stp_pur; first | (apply s_pick_t; rfl; exact qA; rfl) | (apply s_pick_f; rfl; exact qA; rfl)); all_goals (apply ol_mv; rfl; rfl); all_goals (first | (apply ol_gskip; rfl; rfl; exact qA; rfl) | (apply ol_gval; rfl; rfl; rfl; exact qA; apply stp_pur; apply s_fieldAddr'; rfl; exact fd_25_3; exact qZ)); all_goals (first | (apply ol_gskip; rfl; rfl; exact qA; rfl) | (apply ol_gval; rfl; rfl; rfl; exact qA; apply stp_pur; apply s_load1; rfl; rfl; exact qP)); all_goals (first | (apply ol_gskip; rfl; rfl; exact qA; rfl) | (apply ol_gval; rfl; rfl; rfl; exact qA; apply stp_pur; apply s_fieldAddr'; rfl; exact fd_25_3; exact qZ)); all_goals (first | (apply ol_gskip; rfl; rfl; exact qA; rfl) | (apply ol_gval; rfl; rfl; rfl; exact qA; apply stp_pur; apply s_load1; rfl; rfl; exact qP)); all_goals (first | (apply ol_gskip; rfl; rfl; exact qA; rfl) | (apply ol_gval; rfl; rfl; rfl; exact qA; apply s_callv; rfl; exact gf_51; (intro w' hw'; exact kf w' hw'.le))); all_goals (apply ol_val; rfl; apply stp_pur; first | (apply s_pick_t; rfl; exact qA; rfl) | (apply s_pick_f; rfl; exact qA; rfl)); all_goals (apply ol_as; rfl; rfl); all_goals (apply ol_nil))
          | (apply cw_cond_true; rfl; exact qA)
          | (apply cw_cond_false; rfl; exact qA)
          | apply cw_skip
          | apply cw_ret
          | apply cw_block
          | apply cw_exit
        all_goals (refine ends [] (RVal.tmp rfl RVal.nil) Pick.nil ?_; rfl)
      | false =>
        rw [h3] at kb
        rw [Bool.false_and]
        repeat' first
          | apply cw_seq
          | (refine cw_region_id 0 ?_; (apply ol_val; rfl; first | (apply s_boxN; rfl; intro bk2) | (apply s_box1; rfl; rfl; intro bk2)); (apply ol_val; rfl; first | (apply s_boxN; rfl; intro bk3) | (apply s_box1; rfl; rfl; intro bk3)); (apply ol_as; rfl; rfl); (apply ol_nil))
          | (refine cw_region_id 1 ?_; (apply ol_fa; rfl; rfl; exact fd_25_0; exact qZ); (apply ol_ld; rfl; rfl; rfl; exact qP); (apply ol_fa; rfl; rfl; exact fd_25_0; exact qZ); (apply ol_ld; rfl; rfl; rfl; exact qP); (apply ol_val; rfl; apply stp_cmp; apply s_eql; rfl; rfl; all_goals (intro hc9; try (exfalso; (first | exact hc9 rfl | omega)))); all_goals (apply ol_mv; rfl; rfl); all_goals (first | (apply ol_gskip; rfl; rfl; exact qA; rfl) | (apply ol_gval; rfl; rfl; rfl; exact qA; apply stp_pur; apply s_fieldAddr'; rfl; exact fd_25_1; exact qZ)); all_goals (first | (apply ol_gskip; rfl; rfl; exact qA; rfl) | (apply ol_gval; rfl; rfl; rfl; exact qA; apply stp_pur; apply s_load1; rfl; rfl; exact qP)); all_goals (first | (apply ol_gskip; rfl; rfl; exact qA; rfl) | (apply ol_gval; rfl; rfl; rfl; exact qA; apply stp_pur; apply s_fieldAddr'; rfl; exact fd_25_1; exact qZ)); all_goals (first | (apply ol_gskip; rfl; rfl; exact qA; rfl) | (apply ol_gval; rfl; rfl; rfl; exact qA; apply stp_pur; apply s_load1; rfl; rfl; exact qP)); all_goals (first | (apply ol_gskip; rfl; rfl; exact qA; rfl) | (apply ol_gval; rfl; rfl; rfl; exact qA; apply stp_cmp; apply s_eql; rfl; rfl; all_goals (intro hc15; try (exfalso; (first | exact hc15 rfl | omega))))); all_goals (apply ol_val; rfl; apply stp_pur; first | (apply s_pick_t; rfl; exact qA; rfl) | (apply s_pick_f; rfl; exact qA; rfl)); all_goals (apply ol_mv; rfl; rfl); all_goals (first | (apply ol_gskip; rfl; rfl; exact qA; rfl) | (apply ol_gval; rfl; rfl; rfl; exact qA; apply stp_pur; apply s_fieldAddr'; rfl; exact fd_25_2; exact qZ)); all_goals (first | (apply ol_gskip; rfl; rfl; exact qA; rfl) | (apply ol_gval; rfl; rfl; rfl; exact qA; apply stp_pur; apply s_load1; rfl; rfl; exact qP)); all_goals (first | (apply ol_gskip; rfl; rfl; exact qA; rfl) | (apply ol_gval; rfl; rfl; rfl; exact qA; apply stp_pur; apply s_fieldAddr'; rfl; exact fd_25_2; exact qZ)); all_goals (first | (apply ol_gskip; rfl; rfl; exact qA; rfl) | (apply ol_gval; rfl; rfl; rfl; exact qA; apply stp_pur; apply s_load1; rfl; rfl; exact qP)); all_goals (first | (apply ol_gskip; rfl; rfl; exact qA; rfl) | (apply ol_gval; rfl; rfl; rfl; exact qA; apply s_callv; rfl; exact gf_16; (intro w' hw'; exact kb w' hw'.le))); all_goals (apply ol_val; rfl; apply stp_pur; first | (apply s_pick_t; rfl; exact qA; rfl) | (apply s_pick_f; rfl; exact qA; rfl)); all_goals (apply ol_mv; rfl; rfl); all_goals (first | (apply ol_gskip; rfl; rfl; exact qA; rfl) | (apply ol_gval; rfl; rfl; rfl; exact qA; apply stp_pur; apply s_fieldAddr'; rfl; exact fd_25_3; exact qZ)); all_goals (first | (apply ol_gskip; rfl; rfl; exact qA; rfl) | (apply ol_gval; rfl; rfl; rfl; exact qA; apply stp_pur; apply s_load1; rfl; rfl; exact qP)); all_goals (first | (apply ol_gskip; rfl; rfl; exact qA; rfl) | (apply ol_gval; rfl; rfl; rfl; exact qA; apply stp_pur; apply s_fieldAddr'; rfl; exact fd_25_3; exact qZ)); all_goals (first | (apply ol_gskip; rfl; rfl; exact qA; rfl) | (apply ol_gval; rfl; rfl; rfl; exact qA; apply stp_pur; apply s_load1; rfl; rfl; exact qP)); all_goals (first | (apply ol_gskip; rfl; rfl; exact qA; rfl) | (apply ol_gval; rfl; rfl; rfl; exact qA; apply s_callv; rfl; exact gf_51; (intro w' hw'; fail))); all_goals (apply ol_val; rfl; apply stp_pur; first | (apply s_pick_t; rfl; exact qA; rfl) | (apply s_pick_f; rfl; exact qA; rfl)); all_goals (apply ol_as; rfl; rfl); all_goals (apply ol_nil))
          | (apply cw_cond_true; rfl; exact qA)
          | (apply cw_cond_false; rfl; exact qA)
          | apply cw_skip
          | apply cw_ret
          | apply cw_block
          | apply cw_exit
        all_goals (refine ends [] (RVal.tmp rfl RVal.nil) Pick.nil ?_; rfl)
    · rw [decide_eq_false h2, Bool.false_and, Bool.and_false]
      repeat' first
        | apply cw_seq
        | (refine cw_region_id 0 ?_; (apply ol_val; rfl; first | (apply s_boxN; rfl; intro bk2) | (apply s_box1; rfl; rfl; intro bk2)); (apply ol_val; rfl; first | (apply s_boxN; rfl; intro bk3) | (apply s_box1; rfl; rfl; intro bk3)); (apply ol_as; rfl; rfl); (apply ol_nil))
        | (refine cw_region_id 1 ?_; (apply ol_fa; rfl; rfl; exact fd_25_0; exact qZ); (apply ol_ld; rfl; rfl; rfl; exact qP); (apply ol_fa; rfl; rfl; exact fd_25_0; exact qZ); (apply ol_ld; rfl; rfl; rfl; exact qP); (apply ol_val; rfl; apply stp_cmp; apply s_eql; rfl; rfl; all_goals (intro hc9; try (exfalso; (first | exact hc9 rfl | omega)))); all_goals (apply ol_mv; rfl; rfl); all_goals (first | (apply ol_gskip; rfl; rfl; exact qA; rfl) | (apply ol_gval; rfl; rfl; rfl; exact qA; apply stp_pur; apply s_fieldAddr'; rfl; exact fd_25_1; exact qZ)); all_goals (first | (apply ol_gskip; rfl; rfl; exact qA; rfl) | (apply ol_gval; rfl; rfl; rfl; exact qA; apply stp_pur; apply s_load1; rfl; rfl; exact qP)); all_goals (first | (apply ol_gskip; rfl; rfl; exact qA; rfl) | (apply ol_gval; rfl; rfl; rfl; exact qA; apply stp_pur; apply s_fieldAddr'; rfl; exact fd_25_1; exact qZ)); all_goals (first | (apply ol_gskip; rfl; rfl; exact qA; rfl) | (apply ol_gval; rfl; rfl; rfl; exact qA; apply stp_pur; apply s_load1; rfl; rfl; exact qP)); all_goals (first | (apply ol_gskip; rfl; rfl; exact qA; rfl) | (apply ol_gval; rfl; rfl; rfl; exact qA; apply stp_cmp; apply s_eql; rfl; rfl; all_goals (intro hc15; try (exfalso; (first | exact hc15 rfl | omega))))); all_goals (apply ol_val; rfl; apply stp_pur; first | (apply s_pick_t; rfl; exact qA; rfl) | (apply s_pick_f; rfl; exact qA; rfl)); all_goals (apply ol_mv; rfl; rfl); all_goals (first | (apply ol_gskip; rfl; rfl; exact qA; rfl) | (apply ol_gval; rfl; rfl; rfl; exact qA; apply stp_pur; apply s_fieldAddr'; rfl; exact fd_25_2; exact qZ)); all_goals (first | (apply ol_gskip; rfl; rfl; exact qA; rfl) | (apply ol_gval; rfl; rfl; rfl; exact qA; apply stp_pur; apply s_load1; rfl; rfl; exact qP)); all_goals (first | (apply ol_gskip; rfl; rfl; exact qA; rfl) | (apply ol_gval; rfl; rfl; rfl; exact qA; apply stp_pur; apply s_fieldAddr'; rfl; exact fd_25_2; exact qZ)); all_goals (first | (apply ol_gskip; rfl; rfl; exact qA; rfl) | (apply ol_gval; rfl; rfl; rfl; exact qA; apply stp_pur; apply s_load1; rfl; rfl; exact qP)); all_goals (first | (apply ol_gskip; rfl; rfl; exact qA; rfl) | (apply ol_gval; rfl; rfl; rfl; exact qA; apply s_callv; rfl; exact gf_16; (intro w' hw'; fail))); all_goals (apply ol_val; rfl; apply stp_pur; first | (apply s_pick_t; rfl; exact qA; rfl) | (apply s_pick_f; rfl; exact qA; rfl)); all_goals (apply ol_mv; rfl; rfl); all_goals (first | (apply ol_gskip; rfl; rfl; exact qA; rfl) | (apply ol_gval; rfl; rfl; rfl; exact qA; apply stp_pur; apply s_fieldAddr'; rfl; exact fd_25_3; exact qZ)); all_goals (first | (apply ol_gskip; rfl; rfl; exact qA; rfl) | (apply ol_gval; rfl; rfl; rfl; exact qA; apply stp_pur; apply s_load1; rfl; rfl; exact qP)); all_goals (first | (apply ol_gskip; rfl; rfl; exact qA; rfl) | (apply ol_gval; rfl; rfl; rfl; exact qA; apply stp_pur; apply s_fieldAddr'; rfl; exact fd_25_3; exact qZ)); all_goals (first | (apply ol_gskip; rfl; rfl; exact qA; rfl) | (apply ol_gval; rfl; rfl; rfl; exact qA; apply stp_pur; apply s_load1; rfl; rfl; exact qP)); all_goals (first | (apply ol_gskip; rfl; rfl; exact qA; rfl) | (apply ol_gval; rfl; rfl; rfl; exact qA; apply s_callv; rfl; exact gf_51; (intro w' hw'; fail))); all_goals (apply ol_val; rfl; apply stp_pur; first | (apply s_pick_t; rfl; exact qA; rfl) | (apply s_pick_f; rfl; exact qA; rfl)); all_goals (apply ol_as; rfl; rfl); all_goals (apply ol_nil))
        | (apply cw_cond_true; rfl; exact qA)
        | (apply cw_cond_false; rfl; exact qA)
        | apply cw_skip
        | apply cw_ret
        | apply cw_block
        | apply cw_exit
      all_goals (refine ends [] (RVal.tmp rfl RVal.nil) Pick.nil ?_; rfl)
  · rw [decide_eq_false h1, Bool.false_and]
    repeat' first
      | apply cw_seq
      | (refine cw_region_id 0 ?_; (apply ol_val; rfl; first | (apply s_boxN; rfl; intro bk2) | (apply s_box1; rfl; rfl; intro bk2)); (apply ol_val; rfl; first | (apply s_boxN; rfl; intro bk3) | (apply s_box1; rfl; rfl; intro bk3)); (apply ol_as; rfl; rfl); (apply ol_nil))
      | (refine cw_region_id 1 ?_; (apply ol_fa; rfl; rfl; exact fd_25_0; exact qZ); (apply ol_ld; rfl; rfl; rfl; exact qP); (apply ol_fa; rfl; rfl; exact fd_25_0; exact qZ); (apply ol_ld; rfl; rfl; rfl; exact qP); (apply ol_val; rfl; apply stp_cmp; apply s_eql; rfl; rfl; all_goals (intro hc9; try (exfalso; (first | exact hc9 rfl | omega)))); all_goals (apply ol_mv; rfl; rfl); all_goals (first | (apply ol_gskip; rfl; rfl; exact qA; rfl) | (apply ol_gval; rfl; rfl; rfl; exact qA; apply stp_pur; apply s_fieldAddr'; rfl; exact fd_25_1; exact qZ)); all_goals (first | (apply ol_gskip; rfl; rfl; exact qA; rfl) | (apply ol_gval; rfl; rfl; rfl; exact qA; apply stp_pur; apply s_load1; rfl; rfl; exact qP)); all_goals (first | (apply ol_gskip; rfl; rfl; exact qA; rfl) | (apply ol_gval; rfl; rfl; rfl; exact qA; apply stp_pur; apply s_fieldAddr'; rfl; exact fd_25_1; exact qZ)); all_goals (first | (apply ol_gskip; rfl; rfl; exact qA; rfl) | (apply ol_gval; rfl; rfl; rfl; exact qA; apply stp_pur; apply s_load1; rfl; rfl; exact qP)); all_goals (first | (apply ol_gskip; rfl; rfl; exact qA; rfl) | (apply ol_gval; rfl; rfl; rfl; exact qA; apply stp_cmp; apply s_eql; rfl; rfl; all_goals (intro hc15; try (exfalso; (first | exact hc15 rfl | omega))))); all_goals (apply ol_val; rfl; apply stp_pur; first | (apply s_pick_t; rfl; exact qA; rfl) | (apply s_pick_f; rfl; exact qA; rfl)); all_goals (apply ol_mv; rfl; rfl); all_goals (first | (apply ol_gskip; rfl; rfl; exact qA; rfl) | (apply ol_gval; rfl; rfl; rfl; exact qA; apply stp_pur; apply s_fieldAddr'; rfl; exact fd_25_2; exact qZ)); all_goals (first | (apply ol_gskip; rfl; rfl; exact qA; rfl) | (apply ol_gval; rfl; rfl; rfl; exact qA; apply stp_pur; apply s_load1; rfl; rfl; exact qP)); all_goals (first | (apply ol_gskip; rfl; rfl; exact qA; rfl) | (apply ol_gval; rfl; rfl; rfl; exact qA; apply stp_pur; apply s_fieldAddr'; rfl; exact fd_25_2; exact qZ)); all_goals (first | (apply ol_gskip; rfl; rfl; exact qA; rfl) | (apply ol_gval; rfl; rfl; rfl; exact qA; apply stp_pur; apply s_load1; rfl; rfl; exact qP)); all_goals (first | (apply ol_gskip; rfl; rfl; exact qA; rfl) | (apply ol_gval; rfl; rfl; rfl; exact qA; apply s_callv; rfl; exact gf_16; (intro w' hw'; fail))); all_goals (apply ol_val; rfl; apply stp_pur; first | (apply s_pick_t; rfl; exact qA; rfl) | (apply s_pick_f; rfl; exact qA; rfl)); all_goals (apply ol_mv; rfl; rfl); all_goals (first | (apply ol_gskip; rfl; rfl; exact qA; rfl) | (apply ol_gval; rfl; rfl; rfl; exact qA; apply stp_pur; apply s_fieldAddr'; rfl; exact fd_25_3; exact qZ)); all_goals (first | (apply ol_gskip; rfl; rfl; exact qA; rfl) | (apply ol_gval; rfl; rfl; rfl; exact qA; apply stp_pur; apply s_load1; rfl; rfl; exact qP)); all_goals (first | (apply ol_gskip; rfl; rfl; exact qA; rfl) | (apply ol_gval; rfl; rfl; rfl; exact qA; apply stp_pur; apply s_fieldAddr'; rfl; exact fd_25_3; exact qZ)); all_goals (first | (apply ol_gskip; rfl; rfl; exact qA; rfl) | (apply ol_gval; rfl; rfl; rfl; exact qA; apply stp_pur; apply s_load1; rfl; rfl; exact qP)); all_goals (first | (apply ol_gskip; rfl; rfl; exact qA; rfl) | (apply ol_gval; rfl; rfl; rfl; exact qA; apply s_callv; rfl; exact gf_51; (intro w' hw'; fail))); all_goals (apply ol_val; rfl; apply stp_pur; first | (apply s_pick_t; rfl; exact qA; rfl) | (apply s_pick_f; rfl; exact qA; rfl)); all_goals (apply ol_as; rfl; rfl); all_goals (apply ol_nil))
      | (apply cw_cond_true; rfl; exact qA)
      | (apply cw_cond_false; rfl; exact qA)
      | apply cw_skip
      | apply cw_ret
      | apply cw_block
      | apply cw_exit
    all_goals (refine ends [] (RVal.tmp rfl RVal.nil) Pick.nil ?_; rfl)
theorem sameH_split (a b : Hd) (r : Bool) : (sameH a b && r) = (decide (a.k = b.k) && (decide (a.n = b.n) && (decide (a.B.xs = b.B.xs) && (decide (a.m = b.m) && r)))) := by
  unfold sameH
  by_cases h1 : a.k = b.k <;> by_cases h2 : a.n = b.n <;> by_cases h3 : a.B.xs = b.B.xs <;> by_cases h4 : a.m = b.m <;> simp [h1, h2, h3, h4]
theorem same_spec : ∀ (d : Nat) {M : View} {w : World}, View.le M (View.of w) → ∀ {x y : It d}, ItV M d x → ItV M d y → fullI d x → fullI d y →
    FnC Tryd.prog 43 [.agg x.enc.toArray, .agg y.enc.toArray] w (fun v _ => v = .bool (sameI d x y)) := by
  intro d
  induction d with
  | zero =>
    intro M w hM x y hx hy fx fy
    have fx : x.hd.m = 0 := fx
    have fy : y.hd.m = 0 := fy
    refine same_step hM hx.head hy.head (r := decide (x.hd.m = y.hd.m) && (([] : List (It 0)).zip ([] : List (It 0))).all fun p => sameI 0 p.1 p.2) ?_ fun w' h => ?_
    · have := sameH_split x.hd y.hd true
      rw [Bool.and_true] at this
      exact this
    · rw [fx, fy]
      exact eqF_spec h (d := 0) (L := []) (L' := []) rfl rfl (Nat.zero_le _) (b := 0) (o := 0) (b' := 0) (o' := 0) SlA.none' SlA.none' fun _ _ _ h => by cases h
  | succ d ih =>
    intro M w hM x y hx hy fx fy
    refine same_step hM hx.head hy.head (r := decide (x.hd.m = y.hd.m) && (x.2.zip y.2).all fun p => sameI d p.1 p.2) (sameH_split x.1 y.1 _) fun w' h => ?_
    obtain ⟨⟨_, _, _, hmb⟩, hl, sL, hLi⟩ := hx
    obtain ⟨_, hl', sL', hLi'⟩ := hy
    exact eqF_spec h hl hl' hmb sL sL' fun w'' z z' hz hz' h2 => ih h2 (hLi z hz) (hLi' z' hz') (fx z hz) (fy z' hz')
/-- Equal. -/
def eqP (x y : It 8) : Bool := okI 8 x && (okI 8 y && sameI 8 x y)
theorem equal_spec {M : View} {w : World} (hM : View.le M (View.of w)) {x y : It 8} (hx : ItV M 8 x) (hy : ItV M 8 y) :
    FnC Tryd.prog 24 [.agg x.enc.toArray, .agg y.enc.toArray] w (fun v _ => v = .bool (eqP x y)) := by
  have k1 := fun (w' : World) (h : View.le M (View.of w')) => valid_spec h hx
  have k2 := fun (w' : World) (h : View.le M (View.of w')) => valid_spec h hy
  have k3 := fun (h1 : okI 8 x = true) (h2 : okI 8 y = true) (w' : World) (h : View.le M (View.of w')) => same_spec 8 h hx hy (full_of_ok hx h1) (full_of_ok hy h2)
  unfold eqP
  cases h1 : okI 8 x with
  | false =>
    rw [h1] at k1
    unfold It.enc at k1 ⊢
    refine enterF (M := M) Tryd.func24 rfl rfl rfl rfl hM ?_
    rw [Bool.false_and]
    repeat' first
      | apply cw_seq
      | (refine cw_region_id 0 ?_; (apply ol_val; rfl; first | (apply s_boxN; rfl; intro bk2) | (apply s_box1; rfl; rfl; intro bk2)); (apply ol_val; rfl; first | (apply s_boxN; rfl; intro bk3) | (apply s_box1; rfl; rfl; intro bk3)); (apply ol_as; rfl; rfl); (apply ol_nil))
      | (refine cw_region_id 1 ?_; (apply ol_ldN; rfl; rfl; rfl; exact sz_25; exact qQ); (apply ol_val; rfl; apply s_callv; rfl; exact gf_14; (intro w' hw'; exact k1 w' hw'.le)); (apply ol_mv; rfl; rfl); (first | (apply ol_gskip; rfl; rfl; exact qA; rfl) | (apply ol_gval; rfl; rfl; rfl; exact qA; apply stp_pur; apply s_loadN; rfl; rfl; exact sz_25; exact qQ)); (first | (apply ol_gskip; rfl; rfl; exact qA; rfl) | (apply ol_gval; rfl; rfl; rfl; exact qA; apply s_callv; rfl; exact gf_14; (intro w' hw'; exact k1 w' hw'.le))); (apply ol_val; rfl; apply stp_pur; first | (apply s_pick_t; rfl; exact qA; rfl) | (apply s_pick_f; rfl; exact qA; rfl)); (apply ol_mv; rfl; rfl); (first | (apply ol_gskip; rfl; rfl; exact qA; rfl) | (apply ol_gval; rfl; rfl; rfl; exact qA; apply stp_pur; apply s_loadN; rfl; rfl; exact sz_25; exact qQ)); (first | (apply ol_gskip; rfl; rfl; exact qA; rfl) | (apply ol_gval; rfl; rfl; rfl; exact qA; apply stp_pur; apply s_loadN; rfl; rfl; exact sz_25; exact qQ)); (first | (apply ol_gskip; rfl; rfl; exact qA; rfl) | (apply ol_gval; rfl; rfl; rfl; exact qA; apply s_callv; rfl; exact gf_43; (intro w' hw'; fail))); (apply ol_val; rfl; apply stp_pur; first | (apply s_pick_t; rfl; exact qA; rfl) | (apply s_pick_f; rfl; exact qA; rfl)); (apply ol_as; rfl; rfl); (apply ol_nil))
      | (apply cw_cond_true; rfl; exact qA)
      | (apply cw_cond_false; rfl; exact qA)
      | apply cw_skip
      | apply cw_ret
      | apply cw_block
      | apply cw_exit
    all_goals (refine ends [] (RVal.tmp rfl RVal.nil) Pick.nil ?_; rfl)
  | true =>
    rw [h1] at k1
    cases h2 : okI 8 y with
    | false =>
      rw [h2] at k2
      unfold It.enc at k1 k2 ⊢
      refine enterF (M := M) Tryd.func24 rfl rfl rfl rfl hM ?_
      repeat' first
        | apply cw_seq
        | (refine cw_region_id 0 ?_; (apply ol_val; rfl; first | (apply s_boxN; rfl; intro bk2) | (apply s_box1; rfl; rfl; intro bk2)); (apply ol_val; rfl; first | (apply s_boxN; rfl; intro bk3) | (apply s_box1; rfl; rfl; intro bk3)); (apply ol_as; rfl; rfl); (apply ol_nil))
        | (refine cw_region_id 1 ?_; (apply ol_ldN; rfl; rfl; rfl; exact sz_25; exact qQ); (apply ol_val; rfl; apply s_callv; rfl; exact gf_14; (intro w' hw'; first | exact k1 w' hw'.le | exact k2 w' hw'.le)); (apply ol_mv; rfl; rfl); (first | (apply ol_gskip; rfl; rfl; exact qA; rfl) | (apply ol_gval; rfl; rfl; rfl; exact qA; apply stp_pur; apply s_loadN; rfl; rfl; exact sz_25; exact qQ)); (first | (apply ol_gskip; rfl; rfl; exact qA; rfl) | (apply ol_gval; rfl; rfl; rfl; exact qA; apply s_callv; rfl; exact gf_14; (intro w' hw'; first | exact k1 w' hw'.le | exact k2 w' hw'.le))); (apply ol_val; rfl; apply stp_pur; first | (apply s_pick_t; rfl; exact qA; rfl) | (apply s_pick_f; rfl; exact qA; rfl)); (apply ol_mv; rfl; rfl); (first | (apply ol_gskip; rfl; rfl; exact qA; rfl) | (apply ol_gval; rfl; rfl; rfl; exact qA; apply stp_pur; apply s_loadN; rfl; rfl; exact sz_25; exact qQ)); (first | (apply ol_gskip; rfl; rfl; exact qA; rfl) | (apply ol_gval; rfl; rfl; rfl; exact qA; apply stp_pur; apply s_loadN; rfl; rfl; exact sz_25; exact qQ)); (first | (apply ol_gskip; rfl; rfl; exact qA; rfl) | (apply ol_gval; rfl; rfl; rfl; exact qA; apply s_callv; rfl; exact gf_43; (intro w' hw'; fail))); (apply ol_val; rfl; apply stp_pur; first | (apply s_pick_t; rfl; exact qA; rfl) | (apply s_pick_f; rfl; exact qA; rfl)); (apply ol_as; rfl; rfl); (apply ol_nil))
        | (apply cw_cond_true; rfl; exact qA)
        | (apply cw_cond_false; rfl; exact qA)
        | apply cw_skip
        | apply cw_ret
        | apply cw_block
        | apply cw_exit
      all_goals (refine ends [] (RVal.tmp rfl RVal.nil) Pick.nil ?_; rfl)
    | true =>
      have k3 := k3 h1 h2
      rw [h2] at k2
      generalize sameI 8 x y = r at *
      unfold It.enc at k1 k2 k3 ⊢
      refine enterF (M := M) Tryd.func24 rfl rfl rfl rfl hM ?_
      repeat' first
        | apply cw_seq
        | (refine cw_region_id 0 ?_; (apply ol_val; rfl; first | (apply s_boxN; rfl; intro bk2) | (apply s_box1; rfl; rfl; intro bk2)); (apply ol_val; rfl; first | (apply s_boxN; rfl; intro bk3) | (apply s_box1; rfl; rfl; intro bk3)); (apply ol_as; rfl; rfl); (apply ol_nil))
        | (refine cw_region_id 1 ?_; (apply ol_ldN; rfl; rfl; rfl; exact sz_25; exact qQ); (apply ol_val; rfl; apply s_callv; rfl; exact gf_14; (intro w' hw'; first | exact k1 w' hw'.le | exact k2 w' hw'.le)); (apply ol_mv; rfl; rfl); (first | (apply ol_gskip; rfl; rfl; exact qA; rfl) | (apply ol_gval; rfl; rfl; rfl; exact qA; apply stp_pur; apply s_loadN; rfl; rfl; exact sz_25; exact qQ)); (first | (apply ol_gskip; rfl; rfl; exact qA; rfl) | (apply ol_gval; rfl; rfl; rfl; exact qA; apply s_callv; rfl; exact gf_14; (intro w' hw'; first | exact k1 w' hw'.le | exact k2 w' hw'.le))); (apply ol_val; rfl; apply stp_pur; first | (apply s_pick_t; rfl; exact qA; rfl) | (apply s_pick_f; rfl; exact qA; rfl)); (apply ol_mv; rfl; rfl); (first | (apply ol_gskip; rfl; rfl; exact qA; rfl) | (apply ol_gval; rfl; rfl; rfl; exact qA; apply stp_pur; apply s_loadN; rfl; rfl; exact sz_25; exact qQ)); (first | (apply ol_gskip; rfl; rfl; exact qA; rfl) | (apply ol_gval; rfl; rfl; rfl; exact qA; apply stp_pur; apply s_loadN; rfl; rfl; exact sz_25; exact qQ)); (first | (apply ol_gskip; rfl; rfl; exact qA; rfl) | (apply ol_gval; rfl; rfl; rfl; exact qA; apply s_callv; rfl; exact gf_43; (intro w' hw'; exact k3 w' hw'.le))); (apply ol_val; rfl; apply stp_pur; first | (apply s_pick_t; rfl; exact qA; rfl) | (apply s_pick_f; rfl; exact qA; rfl)); (apply ol_as; rfl; rfl); (apply ol_nil))
        | (apply cw_cond_true; rfl; exact qA)
        | (apply cw_cond_false; rfl; exact qA)
        | apply cw_skip
        | apply cw_ret
        | apply cw_block
        | apply cw_exit
      all_goals (refine ends [] (RVal.tmp rfl RVal.nil) Pick.nil ?_; rfl)
end Go.Proofs.YtkkfgeekdaalmaaDoor
namespace Go.Proofs.YtkkfgeekdaalmaaDoor
set_option maxRecDepth 20000
set_option linter.unusedSimpArgs false
set_option linter.unusedVariables false
open Go Go.Fw
/-- One more item is counted. -/
def cntS (f : Nat → Nat) (most n : Nat) : Nat := if n < most then n + f (most - n) else n
/-- How many items an item has, but at most so many. -/
def cntI : (d : Nat) → It d → Nat → Nat
  | 0, _, _ => 1
  | d + 1, p, most => p.2.foldl (fun n x => cntS (cntI d x) most n) 1
theorem cntI_succ {d : Nat} (h : Hd) (L : List (It d)) (most : Nat) : cntI (d + 1) (h, L) most = L.foldl (fun n x => cntS (cntI d x) most n) 1 := rfl
theorem cntI_foldl {d : Nat} (ih : ∀ (x : It d) (most : Nat), 1 ≤ most → 1 ≤ cntI d x most ∧ cntI d x most ≤ most) {most : Nat} : ∀ (L : List (It d)) (n : Nat), 1 ≤ n → n ≤ most → 1 ≤ L.foldl (fun n x => cntS (cntI d x) most n) n ∧ L.foldl (fun n x => cntS (cntI d x) most n) n ≤ most
  | [], n, h1, h2 => ⟨h1, h2⟩
  | x :: L, n, h1, h2 => by
    rw [List.foldl_cons]
    have : 1 ≤ cntS (cntI d x) most n ∧ cntS (cntI d x) most n ≤ most := by
      unfold cntS
      split
      · rename_i h
        have := ih x (most - n) (by omega)
        omega
      · exact ⟨h1, h2⟩
    exact cntI_foldl ih L _ this.1 this.2
theorem cntI_le : ∀ {d : Nat} (x : It d) (most : Nat), 1 ≤ most → 1 ≤ cntI d x most ∧ cntI d x most ≤ most
  | 0, _, most, h => ⟨Nat.le_refl _, h⟩
  | d + 1, p, most, h => cntI_foldl (fun x m hm => cntI_le x m hm) p.2 1 (Nat.le_refl _) h
theorem foldl_stop {α : Type} {f : α → Nat → Nat} {most : Nat} : ∀ (L : List α) (n : Nat), most ≤ n → L.foldl (fun n x => cntS (f x) most n) n = n
  | [], _, _ => rfl
  | x :: L, n, h => by
    rw [List.foldl_cons, show cntS (f x) most n = n from if_neg (by omega)]
    exact foldl_stop L n h
end Go.Proofs.YtkkfgeekdaalmaaDoor
namespace Go.Proofs.YtkkfgeekdaalmaaDoor
set_option maxRecDepth 20000
set_option linter.unusedSimpArgs false
set_option linter.unusedVariables false
open Go Go.Fw
attribute [local irreducible] CW OL OD FX Stp FnC FnV FnA FnM Ret cntI cntS
set_option maxHeartbeats 3200000
theorem count_one {M : View} {w : World} (hM : View.le M (View.of w)) {d : Nat} {x : It d} {most : Nat} (hm : most ≤ 1) :
    FnC Tryd.prog 22 [.agg x.enc.toArray, .int .i64 (most : Nat)] w (fun v _ => v = .int .i64 1) := by
  unfold It.enc
  generalize x.hd = h at *
  obtain ⟨k, nn, ⟨xs, Ba, Bb, Bo, Bc⟩, La, Lb, Lo, Lc, m⟩ := h
  dsimp only
  refine enterF (M := M) Tryd.func22 rfl rfl rfl rfl hM ?_
  repeat' first
    | apply cw_seq
    | (refine cw_region_id 0 ?_; (apply ol_val; rfl; first | (apply s_boxN; rfl; intro bk2) | (apply s_box1; rfl; rfl; intro bk2)); (apply ol_as; rfl; rfl); (apply ol_nil))
    | (refine cw_region_id 1 ?_; (apply ol_as; rfl; rfl); (apply ol_nil))
    | (refine cw_region_id 2 ?_; (apply ol_as; rfl; rfl); (apply ol_nil))
    | (apply cw_cond_true; rfl; exact qA)
    | (apply cw_cond_false; rfl; exact qA)
    | apply cw_skip
    | apply cw_ret
    | apply cw_block
    | apply cw_exit
  refine cw_loopK (σ := Nat) [1, 2, 5] (by (repeat (first | exact Keep.nil | (apply Keep.cons; rfl)))) (fun i => [(6, .int .i64 i)]) (fun _ => M) (fun _ => [⟨some bk2, [.int .i64 k, .int .i64 nn, .slice Ba xs.length Bc, .slice La m Lc], 25⟩]) (fun i => i = 0) (fun i => 1 - i) 0 (by (repeat (first | exact trivial | refine And.intro rfl ?_))) (View.le.refl _) (by exact qK) rfl ?_
  rintro i rfl
  repeat' first
    | apply cw_seq
    | (refine cw_region_id 3 ?_; (apply ol_mv; rfl; rfl); (apply ol_fa; rfl; rfl; exact fd_25_3; exact qZ); (apply ol_ld; rfl; rfl; rfl; exact qP); (apply ol_val; rfl; apply stp_pur; apply s_len; rfl; exact el_23); (apply ol_val; rfl; apply stp_cmp; apply s_lss; rfl; rfl; all_goals (intro hc11; try (exfalso; (first | exact hc11 rfl | omega)))); all_goals (apply ol_mv; rfl; rfl); all_goals (first | (apply ol_gskip; rfl; rfl; exact qA; rfl) | (apply ol_gval; rfl; rfl; rfl; exact qA; apply stp_pur; apply s_move; rfl)); all_goals (first | (apply ol_gskip; rfl; rfl; exact qA; rfl) | (apply ol_gval; rfl; rfl; rfl; exact qA; apply stp_pur; apply s_move; rfl)); all_goals (first | (apply ol_gskip; rfl; rfl; exact qA; rfl) | (apply ol_gval; rfl; rfl; rfl; exact qA; apply stp_cmp; apply s_lss; rfl; rfl; all_goals (intro hc15; try (exfalso; (first | exact hc15 rfl | omega))))); all_goals (apply ol_val; rfl; apply stp_pur; first | (apply s_pick_t; rfl; exact qA; rfl) | (apply s_pick_f; rfl; exact qA; rfl)); all_goals (apply ol_nil))
    | (refine cw_region_id 6 ?_; (apply ol_mv; rfl; rfl); (apply ol_as; rfl; rfl); (apply ol_nil))
    | (apply cw_cond_true; rfl; exact qA)
    | (apply cw_cond_false; rfl; exact qA)
    | apply cw_skip
    | apply cw_ret
    | apply cw_block
    | apply cw_exit
  all_goals (refine ends [] (RVal.tmp rfl RVal.nil) Pick.nil ?_; rfl)
theorem count_spec : ∀ (d : Nat), d ≤ 5000 → ∀ {M : View} {w : World}, View.le M (View.of w) → ∀ {x : It d} {most : Nat}, ItV M d x → 1 ≤ most → most ≤ d + 1 →
    FnC Tryd.prog 22 [.agg x.enc.toArray, .int .i64 (most : Nat)] w (fun v _ => v = .int .i64 (cntI d x most : Nat)) := by
  intro d
  induction d with
  | zero =>
    intro _ M w hM x most hx h1 h2
    have e : cntI 0 x most = 1 := by rw [cntI]
    rw [e]
    exact count_one hM (by omega)
  | succ d ih =>
    intro hd M w hM x most hx h1 h2
    obtain ⟨h, L⟩ := x
    obtain ⟨⟨_, _, _, hmb⟩, hl, sL, hLi⟩ := hx
    unfold It.enc
    simp only [It.hd] at hl sL hLi hmb ⊢
    obtain ⟨k, nn, ⟨xs, Ba, Bb, Bo, Bc⟩, La, Lb, Lo, Lc, m⟩ := h
    dsimp only at hl sL hmb ⊢
    have e : cntI (d + 1) (⟨k, nn, ⟨xs, Ba, Bb, Bo, Bc⟩, La, Lb, Lo, Lc, m⟩, L) most = L.foldl (fun n x => cntS (cntI d x) most n) 1 := cntI_succ _ _ _
    rw [e]
    clear e
    have hle := fun i => cntI_foldl (fun x m hm => cntI_le x m hm) (L.take i) 1 (Nat.le_refl _) h1
    refine enterF (M := M) Tryd.func22 rfl rfl rfl rfl hM ?_
    repeat' first
      | apply cw_seq
      | (refine cw_region_id 0 ?_; (apply ol_val; rfl; first | (apply s_boxN; rfl; intro bk2) | (apply s_box1; rfl; rfl; intro bk2)); (apply ol_as; rfl; rfl); (apply ol_nil))
      | (refine cw_region_id 1 ?_; (apply ol_as; rfl; rfl); (apply ol_nil))
      | (refine cw_region_id 2 ?_; (apply ol_as; rfl; rfl); (apply ol_nil))
      | (apply cw_cond_true; rfl; exact qA)
      | (apply cw_cond_false; rfl; exact qA)
      | apply cw_skip
      | apply cw_ret
      | apply cw_block
      | apply cw_exit
    refine cw_loopK (σ := Nat) [1, 2] (by (repeat (first | exact Keep.nil | (apply Keep.cons; rfl)))) (fun i => [(5, .int .i64 ((L.take i).foldl (fun n x => cntS (cntI d x) most n) 1 : Nat)), (6, .int .i64 i)]) (fun _ => M) (fun _ => [⟨some bk2, [.int .i64 k, .int .i64 nn, .slice Ba xs.length Bc, .slice La m Lc], 25⟩]) (fun i => i ≤ m) (fun i => m - i) 0 (by rw [List.take_zero]; (repeat (first | exact trivial | refine And.intro rfl ?_))) (View.le.refl _) (by exact qK) (Nat.zero_le _) ?_
    intro i hi
    have hle := hle i
    by_cases him : i < m
    · have h3 : i < L.length := by omega
      have c1 := sL.cells i h3
      have hst : (L.take (i + 1)).foldl (fun n x => cntS (cntI d x) most n) 1 = cntS (cntI d L[i]) most ((L.take i).foldl (fun n x => cntS (cntI d x) most n) 1) := by rw [List.take_succ_eq_append_getElem h3, List.foldl_append]; rfl
      by_cases hn : (L.take i).foldl (fun n x => cntS (cntI d x) most n) 1 < most
      · have kC := fun (w' : World) (h : View.le M (View.of w')) => ih (by omega) h (x := L[i]) (most := most - (L.take i).foldl (fun n x => cntS (cntI d x) most n) 1) (hLi L[i] (List.getElem_mem h3)) (by omega) (by omega)
        have hc := cntI_le L[i] (most - (L.take i).foldl (fun n x => cntS (cntI d x) most n) 1) (by omega)
        have hst2 : cntS (cntI d L[i]) most ((L.take i).foldl (fun n x => cntS (cntI d x) most n) 1) = (L.take i).foldl (fun n x => cntS (cntI d x) most n) 1 + cntI d L[i] (most - (L.take i).foldl (fun n x => cntS (cntI d x) most n) 1) := by rw [cntS, if_pos hn]
        rw [hst2] at hst
        clear hst2 hLi
        generalize L[i] = z at *
        generalize hn0 : (L.take i).foldl (fun n x => cntS (cntI d x) most n) 1 = n0 at *
        generalize cntI d z (most - n0) = c0 at *
        have hsub : ((most - n0 : Nat) : Int) = (most : Int) - (n0 : Int) := by omega
        rw [hsub] at kC
        unfold It.enc at c1 kC
        repeat' first
          | apply cw_seq
          | (refine cw_region_id 3 ?_; (apply ol_mv; rfl; rfl); (apply ol_fa; rfl; rfl; exact fd_25_3; exact qZ); (apply ol_ld; rfl; rfl; rfl; (first | exact qP | (apply RdN.view; exact c1))); (apply ol_val; rfl; apply stp_pur; apply s_len; rfl; exact el_23); (apply ol_val; rfl; apply stp_cmp; apply s_lss; rfl; rfl; all_goals (intro hc11; try (exfalso; (first | exact hc11 rfl | omega)))); all_goals (apply ol_mv; rfl; rfl); all_goals (first | (apply ol_gskip; rfl; rfl; exact qA; rfl) | (apply ol_gval; rfl; rfl; rfl; exact qA; apply stp_pur; apply s_move; rfl)); all_goals (first | (apply ol_gskip; rfl; rfl; exact qA; rfl) | (apply ol_gval; rfl; rfl; rfl; exact qA; apply stp_pur; apply s_move; rfl)); all_goals (first | (apply ol_gskip; rfl; rfl; exact qA; rfl) | (apply ol_gval; rfl; rfl; rfl; exact qA; apply stp_cmp; apply s_lss; rfl; rfl; all_goals (intro hc15; try (exfalso; (first | exact hc15 rfl | omega))))); all_goals (apply ol_val; rfl; apply stp_pur; first | (apply s_pick_t; rfl; exact qA; rfl) | (apply s_pick_f; rfl; exact qA; rfl)); all_goals (apply ol_nil))
          | (refine cw_region_id 5 ?_; (apply ol_mv; rfl; rfl); (apply ol_fa; rfl; rfl; exact fd_25_3; exact qZ); (apply ol_ld; rfl; rfl; rfl; (first | exact qP | (apply RdN.view; exact c1))); (apply ol_mv; rfl; rfl); (apply ol_val; rfl; apply stp_pur; first | (apply s_indexK; rfl; rfl; exact el_23; exact sz_25; (first | rfl | exact sL.at_ (by omega)); omega) | (apply s_indexO; rfl; rfl; exact el_23; exact sz_25; (first | rfl | exact sL.at_ (by omega)); omega)); (apply ol_ldN; rfl; rfl; rfl; exact sz_25; (first | exact qQ | (apply RdN.view; exact c1))); (apply ol_mv; rfl; rfl); (apply ol_mv; rfl; rfl); (apply ol_val; rfl; apply stp_pur; apply s_sub64; rfl; rfl; omega); (apply ol_val; rfl; apply s_callv; rfl; exact gf_22; (intro w' hw'; exact kC w' hw'.le)); (apply ol_val; rfl; apply stp_pur; apply s_add64; rfl; rfl; omega); (apply ol_as; rfl; rfl); (apply ol_nil))
          | (refine cw_region_id 4 ?_; (apply ol_mv; rfl; rfl); (apply ol_val; rfl; apply stp_pur; apply s_add64; rfl; rfl; omega); (apply ol_as; rfl; rfl); (apply ol_nil))
          | (apply cw_cond_true; rfl; exact qA)
          | (apply cw_cond_false; rfl; exact qA)
          | apply cw_skip
          | apply cw_ret
          | apply cw_block
          | apply cw_exit
        refine ⟨i + 1, ⟨?_, View.le.refl _, by exact qK, him, by omega⟩⟩
        rw [hst]
        (repeat (first | exact trivial | refine And.intro rfl ?_))
      · have hfin : L.foldl (fun n x => cntS (cntI d x) most n) 1 = (L.take i).foldl (fun n x => cntS (cntI d x) most n) 1 := by
          conv => lhs; rw [← List.take_append_drop i L, List.foldl_append]
          exact foldl_stop _ _ (by omega)
        rw [hfin]
        clear hst hfin
        generalize (L.take i).foldl (fun n x => cntS (cntI d x) most n) 1 = n0 at *
        repeat' first
          | apply cw_seq
          | (refine cw_region_id 3 ?_; (apply ol_mv; rfl; rfl); (apply ol_fa; rfl; rfl; exact fd_25_3; exact qZ); (apply ol_ld; rfl; rfl; rfl; exact qP); (apply ol_val; rfl; apply stp_pur; apply s_len; rfl; exact el_23); (apply ol_val; rfl; apply stp_cmp; apply s_lss; rfl; rfl; all_goals (intro hc11; try (exfalso; (first | exact hc11 rfl | omega)))); all_goals (apply ol_mv; rfl; rfl); all_goals (first | (apply ol_gskip; rfl; rfl; exact qA; rfl) | (apply ol_gval; rfl; rfl; rfl; exact qA; apply stp_pur; apply s_move; rfl)); all_goals (first | (apply ol_gskip; rfl; rfl; exact qA; rfl) | (apply ol_gval; rfl; rfl; rfl; exact qA; apply stp_pur; apply s_move; rfl)); all_goals (first | (apply ol_gskip; rfl; rfl; exact qA; rfl) | (apply ol_gval; rfl; rfl; rfl; exact qA; apply stp_cmp; apply s_lss; rfl; rfl; all_goals (intro hc15; try (exfalso; (first | exact hc15 rfl | omega))))); all_goals (apply ol_val; rfl; apply stp_pur; first | (apply s_pick_t; rfl; exact qA; rfl) | (apply s_pick_f; rfl; exact qA; rfl)); all_goals (apply ol_nil))
          | (refine cw_region_id 6 ?_; (apply ol_mv; rfl; rfl); (apply ol_as; rfl; rfl); (apply ol_nil))
          | (apply cw_cond_true; rfl; exact qA)
          | (apply cw_cond_false; rfl; exact qA)
          | apply cw_skip
          | apply cw_ret
          | apply cw_block
          | apply cw_exit
        all_goals (refine ends [] (RVal.tmp rfl RVal.nil) Pick.nil ?_; rfl)
    · have htk : L.take i = L := List.take_of_length_le (by omega)
      rw [htk] at hle ⊢
      generalize L.foldl (fun n x => cntS (cntI d x) most n) 1 = n0 at *
      repeat' first
        | apply cw_seq
        | (refine cw_region_id 3 ?_; (apply ol_mv; rfl; rfl); (apply ol_fa; rfl; rfl; exact fd_25_3; exact qZ); (apply ol_ld; rfl; rfl; rfl; exact qP); (apply ol_val; rfl; apply stp_pur; apply s_len; rfl; exact el_23); (apply ol_val; rfl; apply stp_cmp; apply s_lss; rfl; rfl; all_goals (intro hc11; try (exfalso; (first | exact hc11 rfl | omega)))); all_goals (apply ol_mv; rfl; rfl); all_goals (first | (apply ol_gskip; rfl; rfl; exact qA; rfl) | (apply ol_gval; rfl; rfl; rfl; exact qA; apply stp_pur; apply s_move; rfl)); all_goals (first | (apply ol_gskip; rfl; rfl; exact qA; rfl) | (apply ol_gval; rfl; rfl; rfl; exact qA; apply stp_pur; apply s_move; rfl)); all_goals (first | (apply ol_gskip; rfl; rfl; exact qA; rfl) | (apply ol_gval; rfl; rfl; rfl; exact qA; apply stp_cmp; apply s_lss; rfl; rfl; all_goals (intro hc15; try (exfalso; (first | exact hc15 rfl | omega))))); all_goals (apply ol_val; rfl; apply stp_pur; first | (apply s_pick_t; rfl; exact qA; rfl) | (apply s_pick_f; rfl; exact qA; rfl)); all_goals (apply ol_nil))
        | (refine cw_region_id 6 ?_; (apply ol_mv; rfl; rfl); (apply ol_as; rfl; rfl); (apply ol_nil))
        | (apply cw_cond_true; rfl; exact qA)
        | (apply cw_cond_false; rfl; exact qA)
        | apply cw_skip
        | apply cw_ret
        | apply cw_block
        | apply cw_exit
      all_goals (refine ends [] (RVal.tmp rfl RVal.nil) Pick.nil ?_; rfl)
/-- Few items? -/
def fewI (l : List (It 3000)) : Bool := !l.any fun x => decide (3000 < cntI 3000 x 3001)
theorem few1_spec {M : View} {w : World} (hM : View.le M (View.of w)) {x : It 3000} (hx : ItV M 3000 x) :
    FnC Tryd.prog 34 [.agg x.enc.toArray] w (fun v _ => v = .bool (decide (3000 < cntI 3000 x 3001))) := by
  have kC := fun (w' : World) (h : View.le M (View.of w')) => count_spec 3000 (by decide) h hx (most := 3001) (by decide) (by decide)
  have hc := cntI_le x 3001 (by decide)
  generalize cntI 3000 x 3001 = n at *
  unfold It.enc at *
  refine enterF (M := M) Tryd.func34 rfl rfl rfl rfl hM ?_
  by_cases h : 3000 < n
  · rw [decide_eq_true h]
    repeat' first
      | apply cw_seq
      | (refine cw_region_id 0 ?_; (apply ol_val; rfl; first | (apply s_boxN; rfl; intro bk1) | (apply s_box1; rfl; rfl; intro bk1)); (apply ol_as; rfl; rfl); (apply ol_nil))
      | (refine cw_region_id 1 ?_; (apply ol_ldN; rfl; rfl; rfl; exact sz_25; exact qQ); (apply ol_val; rfl; apply s_callv; rfl; exact gf_22; (intro w' hw'; exact kC w' hw'.le)); (apply ol_val; rfl; apply stp_cmp; apply s_gtr; rfl; rfl; all_goals (intro hc5; try (exfalso; (first | exact hc5 rfl | omega)))); all_goals (apply ol_as; rfl; rfl); all_goals (apply ol_nil))
      | (apply cw_cond_true; rfl; exact qA)
      | (apply cw_cond_false; rfl; exact qA)
      | apply cw_skip
      | apply cw_ret
      | apply cw_block
      | apply cw_exit
    all_goals (refine ends [] (RVal.tmp rfl RVal.nil) Pick.nil ?_; rfl)
  · rw [decide_eq_false h]
    repeat' first
      | apply cw_seq
      | (refine cw_region_id 0 ?_; (apply ol_val; rfl; first | (apply s_boxN; rfl; intro bk1) | (apply s_box1; rfl; rfl; intro bk1)); (apply ol_as; rfl; rfl); (apply ol_nil))
      | (refine cw_region_id 1 ?_; (apply ol_ldN; rfl; rfl; rfl; exact sz_25; exact qQ); (apply ol_val; rfl; apply s_callv; rfl; exact gf_22; (intro w' hw'; exact kC w' hw'.le)); (apply ol_val; rfl; apply stp_cmp; apply s_gtr; rfl; rfl; all_goals (intro hc5; try (exfalso; (first | exact hc5 rfl | omega)))); all_goals (apply ol_as; rfl; rfl); all_goals (apply ol_nil))
      | (apply cw_cond_true; rfl; exact qA)
      | (apply cw_cond_false; rfl; exact qA)
      | apply cw_skip
      | apply cw_ret
      | apply cw_block
      | apply cw_exit
    all_goals (refine ends [] (RVal.tmp rfl RVal.nil) Pick.nil ?_; rfl)
theorem few_spec {M : View} {w : World} (hM : View.le M (View.of w)) {xs : List (It 3000)} {n c : Nat} (hn : xs.length = n) (hl : n ≤ 1000) {a : Option Addr} {b o : Nat} (s : SlA M It.enc 4 a xs b o) (hx : ∀ x ∈ xs, ItV M 3000 x) :
    FnC Tryd.prog 11 [.slice a n c] w (fun v _ => v = .bool (fewI xs)) := by
  subst hn
  have kA := fun (w' : World) (h : View.le M (View.of w')) => anyIt_spec (dd := 3000) h (cap := []) (p := fun x => decide (3000 < cntI 3000 x 3001)) (f := 34) (by kernel_rfl) (fun w'' x hxm h2 => few1_spec h2 (hx x hxm)) rfl rfl (c := c) s (by omega)
  unfold fewI
  generalize (xs.any fun x => decide (3000 < cntI 3000 x 3001)) = r at *
  refine enterF (M := M) Tryd.func11 rfl rfl rfl rfl hM ?_
  cases r with
  | true =>
    repeat' first
      | apply cw_seq
      | (refine cw_region_id 0 ?_; (apply ol_as; rfl; rfl); (apply ol_nil))
      | (refine cw_region_id 1 ?_; (apply ol_mv; rfl; rfl); (apply ol_val; rfl; apply s_callv; rfl; exact gf_20; (intro w' hw'; exact kA w' hw'.le)); (apply ol_val; rfl; apply stp_pur; first | (apply s_not_t; rfl; exact qA) | (apply s_not_f; rfl; exact qA) | (apply s_not; rfl)); (apply ol_as; rfl; rfl); (apply ol_nil))
      | (apply cw_cond_true; rfl; exact qA)
      | (apply cw_cond_false; rfl; exact qA)
      | apply cw_skip
      | apply cw_ret
      | apply cw_block
      | apply cw_exit
    all_goals (refine ends [] (RVal.tmp rfl RVal.nil) Pick.nil ?_; rfl)
  | false =>
    repeat' first
      | apply cw_seq
      | (refine cw_region_id 0 ?_; (apply ol_as; rfl; rfl); (apply ol_nil))
      | (refine cw_region_id 1 ?_; (apply ol_mv; rfl; rfl); (apply ol_val; rfl; apply s_callv; rfl; exact gf_20; (intro w' hw'; exact kA w' hw'.le)); (apply ol_val; rfl; apply stp_pur; first | (apply s_not_t; rfl; exact qA) | (apply s_not_f; rfl; exact qA) | (apply s_not; rfl)); (apply ol_as; rfl; rfl); (apply ol_nil))
      | (apply cw_cond_true; rfl; exact qA)
      | (apply cw_cond_false; rfl; exact qA)
      | apply cw_skip
      | apply cw_ret
      | apply cw_block
      | apply cw_exit
    all_goals (refine ends [] (RVal.tmp rfl RVal.nil) Pick.nil ?_; rfl)
end Go.Proofs.YtkkfgeekdaalmaaDoor
namespace Go.Proofs.YtkkfgeekdaalmaaDoor
set_option maxRecDepth 20000
set_option linter.unusedSimpArgs false
set_option linter.unusedVariables false
theorem nd_add {b A m r : Nat} (hb : 2 ≤ b) (hA : 0 < A) (hr : r < b ^ m) : nd b (b ^ m * A + r) = m + nd b A := by
  have hp : 0 < b ^ m := Nat.pow_pos (by omega)
  have hd : (b ^ m * A + r) / b ^ m = A := by rw [Nat.mul_add_div hp, Nat.div_eq_of_lt hr, Nat.add_zero]
  have hnd : 0 < nd b A := by
    rcases Nat.eq_zero_or_pos (nd b A) with h | h
    · rw [nd_zero_iff hb] at h; omega
    · exact h
  refine nd_eq hb ?_ fun _ => ?_
  · rw [Nat.pow_add]
    have h1 := nd_lt hb A
    have h2 : b ^ m * (A + 1) ≤ b ^ m * b ^ nd b A := Nat.mul_le_mul_left _ h1
    rw [Nat.mul_add, Nat.mul_one] at h2
    omega
  · rw [show m + nd b A - 1 = m + (nd b A - 1) by omega, Nat.pow_add, ← Nat.div_div_eq_div_mul, hd]
    exact nd_top hb hA
theorem dg_add {b A m r : Nat} (hb : 2 ≤ b) (hA : 0 < A) (hr : r < b ^ m) : dg b (b ^ m * A + r) = lw b m r ++ dg b A := by
  have hp : 0 < b ^ m := Nat.pow_pos (by omega)
  unfold dg
  rw [nd_add hb hA hr, lw_add, Nat.mul_add_div hp, Nat.div_eq_of_lt hr, Nat.add_zero, ← lw_mod (b := b) (j := m) (b ^ m * A + r) (Nat.le_refl _), Nat.mul_add_mod, Nat.mod_eq_of_lt hr]
/-- So many digits, the highest first. -/
def fixT (b m r : Nat) : List Int := (lw b m r).reverse.map chr
theorem fixT_length (b m r : Nat) : (fixT b m r).length = m := by unfold fixT; rw [List.length_map, List.length_reverse, lw_length]
theorem txt_pos {b n : Nat} (h : 0 < n) : txt b n = (dg b n).reverse.map chr := by unfold txt; rw [if_neg (by omega)]
theorem txt_add {b A m r : Nat} (hb : 2 ≤ b) (hA : 0 < A) (hr : r < b ^ m) : txt b (b ^ m * A + r) = txt b A ++ fixT b m r := by
  have hp : 0 < b ^ m := Nat.pow_pos (by omega)
  have h : 0 < b ^ m * A := Nat.mul_pos hp hA
  rw [txt_pos (by omega), txt_pos hA, dg_add hb hA hr, List.reverse_append, List.map_append]
  rfl
theorem lw_zeros (b k : Nat) : lw b k 0 = List.replicate k 0 := by
  induction k with
  | zero => rfl
  | succ k ih => rw [lw_succ, ih, List.replicate_succ']; simp
theorem pad_txt {b m r : Nat} (hb : 2 ≤ b) (hm : 1 ≤ m) (hr : r < b ^ m) : (txt b r).length ≤ m ∧ List.replicate (m - (txt b r).length) 48 ++ txt b r = fixT b m r := by
  rcases Nat.eq_zero_or_pos r with h | h
  · subst h
    unfold txt fixT
    rw [if_pos rfl, lw_zeros, List.reverse_replicate, List.map_replicate]
    refine ⟨hm, ?_⟩
    obtain ⟨j, rfl⟩ : ∃ j, m = j + 1 := ⟨m - 1, by omega⟩
    rw [List.replicate_succ']
    rfl
  · have hl := nd_le hb hr
    rw [txt_pos h]
    have e : ((dg b r).reverse.map chr).length = nd b r := by rw [List.length_map, List.length_reverse, lw_length]
    rw [e]
    refine ⟨hl, ?_⟩
    obtain ⟨j, rfl⟩ : ∃ j, m = nd b r + j := ⟨m - nd b r, by omega⟩
    unfold fixT
    rw [lw_add, Nat.div_eq_of_lt (nd_lt hb r), lw_zeros, List.reverse_append, List.map_append, List.reverse_replicate, List.map_replicate, Nat.add_sub_cancel_left]
    rfl
theorem txt_b {b : Nat} (hb : 2 ≤ b) (hb2 : b ≤ 16) (n : Nat) : ∀ x ∈ txt b n, 0 ≤ x ∧ x ≤ 255 := by
  intro x hx
  unfold txt at hx
  split at hx
  · obtain rfl : x = 48 := by simpa using hx
    omega
  · obtain ⟨d, hd, rfl⟩ := List.mem_map.1 hx
    have := lw_lt (by omega) _ _ d (List.mem_reverse.1 hd)
    have := chr_b (d := d) (by omega)
    omega
theorem txt_len_pos (b n : Nat) (hb : 2 ≤ b) : 0 < (txt b n).length := by
  unfold txt
  split
  · simp
  · rename_i h
    rw [List.length_map, List.length_reverse, lw_length]
    rcases Nat.eq_zero_or_pos (nd b n) with h2 | h2
    · exact absurd ((nd_zero_iff hb).1 h2) h
    · exact h2
theorem txt_len_le {b n k : Nat} (hb : 2 ≤ b) (hk : 1 ≤ k) (h : n < b ^ k) : (txt b n).length ≤ k := (pad_txt hb hk h).1
end Go.Proofs.YtkkfgeekdaalmaaDoor
