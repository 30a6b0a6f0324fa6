/-
  Texts joined: Q6 Q7 Q8 Q9 Q10 Q11 T2.
-/
import Derived.Test.YtkkfgeekdaalmaaDoorYas
namespace Go.Proofs.YtkkfgeekdaalmaaDoor
set_option maxRecDepth 20000
set_option linter.unusedSimpArgs false
set_option linter.unusedVariables false
open Go Go.Fw
/-- What the reference's reading says. -/
def RdR (d : Nat) (l : List Int) (M : View) (v : Value) (F : View) (ys : List OB) : Prop :=
  ys = [] ∧ ∃ a' n' c' e rest, ∃ x : It d, v = .tuple #[.agg x.enc.toArray, .slice a' n' c', .int .i64 (e : Nat)] ∧ rdE d l = (e, rest) ∧ (e = 0 → ∀ N, View.le M N → View.le F N → BV N rest a' n' c' ∧ ItV N d x ∧ okR d x ∧ l = encI d x ++ rest)
theorem RdR.err {d : Nat} {l : List Int} {M F : View} {e : Nat} (h : rdE d l = (e, [])) (he : e ≠ 0) : RdR d l M (.tuple #[.agg [.int .i64 0, .int .i64 0, .slice none 0 0, .slice none 0 0].toArray, .slice none 0 0, .int .i64 (e : Nat)]) F [] :=
  ⟨rfl, none, 0, 0, e, [], mkL d (hdJ 0 none 0 0 none 0 0), by rw [mkJ_enc], h, fun h0 => absurd h0 he⟩
end Go.Proofs.YtkkfgeekdaalmaaDoor
namespace Go.Proofs.YtkkfgeekdaalmaaDoor
set_option maxRecDepth 20000
set_option linter.unusedSimpArgs false
set_option linter.unusedVariables false
open Go Go.Fw
attribute [local irreducible] CW OL OD FX Stp FnC FnV FnA FnM Ret bI encI okI numB rdE rdN
set_option maxHeartbeats 3200000
theorem value_spec {M : View} {w : World} (hM : View.le M (View.of w)) {z : List Int} {a : Option Addr} {n c : Nat} (hv : BV M z a n c) (h8 : n ≤ 8) :
    FnC Tryd.prog 50 [.slice a n c] w (fun v _ => v = .int .u64 (numB z : Nat)) := by
  obtain ⟨⟨b, o, s⟩, hl, hcc, hb⟩ := hv
  refine enterF (M := M) Tryd.func50 rfl rfl rfl rfl hM ?_
  repeat' first
    | apply cw_seq
    | (refine cw_region_id 0 ?_; (apply ol_as; rfl; rfl); (apply ol_nil))
    | (refine cw_region_id 1 ?_; (apply ol_as; rfl; rfl); (apply ol_nil))
    | (refine cw_region_id 2 ?_; (apply ol_as; rfl; rfl); (apply ol_nil))
    | (apply cw_cond_true; rfl; exact qA)
    | (apply cw_cond_false; rfl; exact qA)
    | apply cw_skip
    | apply cw_ret
    | apply cw_block
    | apply cw_exit
  refine cw_loopK (σ := Nat) [0] (by (repeat (first | exact Keep.nil | (apply Keep.cons; rfl)))) (fun i => [(3, .int .u64 (numB (z.take i) : Nat)), (4, .int .i64 i)]) (fun _ => M) (fun _ => []) (fun i => i ≤ n) (fun i => n - i) 0 (by rw [List.take_zero, numB_nil]; (repeat (first | exact trivial | refine And.intro rfl ?_))) (View.le.refl _) (by exact qK) (Nat.zero_le _) ?_
  intro i hi
  by_cases hin : i < n
  · have hin' : i < z.length := by omega
    have hci := s.cells i hin'
    have hbi := hb z[i] (List.getElem_mem hin')
    have hlt : numB (z.take i) < 256 ^ i := by have := numB_lt (l := z.take i) (fun x hx => hb x (List.mem_of_mem_take hx)); rw [List.length_take, Nat.min_eq_left (by omega)] at this; exact this
    have hp : 256 ^ i ≤ 256 ^ 7 := Nat.pow_le_pow_right (by decide) (by omega)
    have h7 : (256 : Nat) ^ 7 = 72057594037927936 := by decide
    have hval : ((numB (z.take (i + 1)) : Nat) : Int) = 256 * ((numB (z.take i) : Nat) : Int) + z[i] := by rw [numB_take hin']; omega
    generalize z[i] = x at *
    repeat' first
      | apply cw_seq
      | (refine cw_region_id 3 ?_; (apply ol_mv; rfl; rfl); (apply ol_mv; rfl; rfl); (apply ol_val; rfl; apply stp_pur; apply s_len; rfl; exact el_22); (apply ol_val; rfl; apply stp_cmp; apply s_lss; rfl; rfl; all_goals (intro hc8; try (exfalso; (first | exact hc8 rfl | omega)))); all_goals (apply ol_nil))
      | (refine cw_region_id 5 ?_; (apply ol_mv; rfl; rfl); (apply ol_val; rfl; apply stp_pur; first | (apply s_mulF; rfl; rfl; (first | (dsimp only [lowK, highK]; omega))) | (apply s_mulW; rfl; rfl)); (apply ol_mv; rfl; rfl); (apply ol_mv; rfl; rfl); (apply ol_val; rfl; apply stp_pur; first | (apply s_indexK; rfl; rfl; exact el_22; exact sz_5; (first | rfl | exact s.at_ (by omega)); omega) | (apply s_indexO; rfl; rfl; exact el_22; exact sz_5; (first | rfl | exact s.at_ (by omega)); omega)); (apply ol_ld; rfl; rfl; rfl; (first | exact qP | (apply RdN.view; exact hci))); (apply ol_val; rfl; apply stp_pur; first | (apply s_conv; rfl; rfl; exact ti_57; (focus (apply wrap_u64; omega))) | (apply s_conv; rfl; rfl; exact ti_57; exact wrap_u64 (by omega)) | (apply s_conv; rfl; rfl; exact ti_57; rfl)); (apply ol_val; rfl; apply stp_pur; first | (apply s_addF; rfl; rfl; (first | (dsimp only [lowK, highK]; omega))) | (apply s_addW; rfl; rfl)); (apply ol_as; rfl; rfl); (apply ol_nil))
      | (refine cw_region_id 4 ?_; (apply ol_mv; rfl; rfl); (apply ol_val; rfl; apply stp_pur; apply s_add64; rfl; rfl; omega); (apply ol_as; rfl; rfl); (apply ol_nil))
      | (refine cw_region_id 6 ?_; (apply ol_mv; rfl; rfl); (apply ol_as; rfl; rfl); (apply ol_nil))
      | (apply cw_cond_true; rfl; exact qA)
      | (apply cw_cond_false; rfl; exact qA)
      | apply cw_skip
      | apply cw_ret
      | apply cw_block
      | apply cw_exit
    refine ⟨i + 1, ⟨?_, View.le.refl _, by exact qK, hin, by omega⟩⟩
    rw [hval]
    (repeat (first | exact trivial | refine And.intro rfl ?_))
  · have : i = n := by omega
    subst this
    rw [List.take_of_length_le (by omega)]
    repeat' first
      | apply cw_seq
      | (refine cw_region_id 3 ?_; (apply ol_mv; rfl; rfl); (apply ol_mv; rfl; rfl); (apply ol_val; rfl; apply stp_pur; apply s_len; rfl; exact el_22); (apply ol_val; rfl; apply stp_cmp; apply s_lss; rfl; rfl; all_goals (intro hc8; try (exfalso; (first | exact hc8 rfl | omega)))); all_goals (apply ol_nil))
      | (refine cw_region_id 5 ?_; (apply ol_mv; rfl; rfl); (apply ol_val; rfl; apply stp_pur; apply s_mulW; rfl; rfl); (apply ol_mv; rfl; rfl); (apply ol_mv; rfl; rfl); (apply ol_val; rfl; apply stp_pur; first | (apply s_indexK; rfl; rfl; exact el_22; exact sz_5; (first | rfl); omega) | (apply s_indexO; rfl; rfl; exact el_22; exact sz_5; (first | rfl); omega)); (apply ol_ld; rfl; rfl; rfl; exact qP); (apply ol_val; rfl; apply stp_pur; first | (apply s_conv; rfl; rfl; exact ti_57; (focus (apply wrap_u64; omega))) | (apply s_conv; rfl; rfl; exact ti_57; rfl)); (apply ol_val; rfl; apply stp_pur; apply s_addW; rfl; rfl); (apply ol_as; rfl; rfl); (apply ol_nil))
      | (refine cw_region_id 4 ?_; (apply ol_mv; rfl; rfl); (apply ol_val; rfl; apply stp_pur; apply s_add64; rfl; rfl; omega); (apply ol_as; rfl; rfl); (apply ol_nil))
      | (refine cw_region_id 6 ?_; (apply ol_mv; rfl; rfl); (apply ol_as; rfl; rfl); (apply ol_nil))
      | (apply cw_cond_true; rfl; exact qA)
      | (apply cw_cond_false; rfl; exact qA)
      | apply cw_skip
      | apply cw_ret
      | apply cw_block
      | apply cw_exit
    refine ends [] (RVal.tmp rfl RVal.nil) Pick.nil ?_; rfl
theorem read_bad {M : View} {w : World} (hM : View.le M (View.of w)) {d wn : Nat} (hw : wn + d = 8) {l : List Int} {a : Option Addr} {n c : Nat} (hv : BV M l a n c) (hb : l = [] ∨ ∃ k r, l = k :: r ∧ (k < 1 ∨ 3 < k ∨ k = 3 ∧ d = 0)) :
    FnM Tryd.prog 41 [.slice a n c, .int .i64 (wn : Nat)] w [] (RdR d l M) := by
  refine enterW (M := M) Tryd.func41 rfl rfl rfl rfl hM (fun _ h => by cases h) (fun _ h => by cases h) List.nodup_nil ?_
  rcases hb with rfl | ⟨k, r, rfl, hb⟩
  · have hn : n = 0 := by have := hv.hn; simpa using this.symm
    have hre : rdE d [] = (4, []) := by unfold rdE; rfl
    repeat' first
      | apply cw_seq
      | (refine cw_region_id 0 ?_; (apply ol_val; rfl; apply s_alloc; exact zb_25; exact qN; intro bk4); (apply ol_as; rfl; rfl); (apply ol_as; rfl; rfl); (apply ol_nil))
      | (refine cw_region_id 1 ?_; (apply ol_mv; rfl; rfl); (apply ol_val; rfl; apply stp_pur; apply s_len; rfl; exact el_22); (apply ol_val; rfl; apply stp_cmp; apply s_eql; rfl; rfl; all_goals (intro hc16; try (exfalso; (first | exact hc16 rfl | omega)))); all_goals (apply ol_nil))
      | (refine cw_region_id 2 ?_; (apply ol_val; rfl; apply stp_pur; apply s_buildS; rfl; exact fs_25; exact zb_25; exact qR); (apply ol_eff; apply s_storeN; rfl; rfl; exact sz_25; rfl; rfl; exact qN; exact qN); (apply ol_as; rfl; rfl); (apply ol_as; rfl; rfl); (apply ol_nil))
      | (apply cw_cond_true; rfl; exact qA)
      | (apply cw_cond_false; rfl; exact qA)
      | apply cw_skip
      | apply cw_ret
      | apply cw_block
      | apply cw_exit
    refine endsW [] [] View.nil (RVal.cellN rfl rfl rfl (RdN.own (by (repeat (first | exact Has.here | apply Has.there))) (by focus ((repeat (first | rfl | constructor)); done))) (RVal.tmp rfl (RVal.tmp rfl RVal.nil))) Pick.nil (View.nil_le _) (View.freshM_nil _ _) (fun F _ _ => ?_)
    exact RdR.err (e := 4) hre (by decide)
  · have hk := hv.hb k (List.mem_cons_self ..)
    have hre : rdE d (k :: r) = (3, []) := by unfold rdE; rw [if_pos hb]
    have hn : 1 ≤ n := by have := hv.hn; rw [List.length_cons] at this; omega
    have hrl : r.length = n - 1 := by have := hv.hn; rw [List.length_cons] at this; omega
    have hcc := hv.hc
    have hv1 : BV M r (slicedA a 1 c 1) (n - 1) (c - 1) := hv.drop hn
    obtain ⟨⟨b0, o0, s0⟩, _, _, hb0⟩ := hv
    have hc0 := s0.cells 0 (by rw [List.length_cons]; omega)
    dsimp only [List.getElem_cons_zero] at hc0
    repeat' first
      | apply cw_seq
      | (refine cw_region_id 0 ?_; (apply ol_val; rfl; apply s_alloc; exact zb_25; exact qN; intro bk4); (apply ol_as; rfl; rfl); (apply ol_as; rfl; rfl); (apply ol_nil))
      | (refine cw_region_id 1 ?_; (apply ol_mv; rfl; rfl); (apply ol_val; rfl; apply stp_pur; apply s_len; rfl; exact el_22); (apply ol_val; rfl; apply stp_cmp; apply s_eql; rfl; rfl; all_goals (intro hc16; try (exfalso; (first | exact hc16 rfl | omega)))); all_goals (apply ol_nil))
      | (refine cw_region_id 3 ?_; (apply ol_mv; rfl; rfl); (apply ol_val; rfl; apply stp_pur; first | (apply s_indexK; rfl; rfl; exact el_22; exact sz_5; (first | rfl | exact s0.at_ (by rw [List.length_cons]; omega)); omega) | (apply s_indexO; rfl; rfl; exact el_22; exact sz_5; (first | rfl | exact s0.at_ (by rw [List.length_cons]; omega)); omega)); (apply ol_ld; rfl; rfl; rfl; (first | exact qP | (apply RdN.view; exact hc0))); (apply ol_val; rfl; apply stp_pur; first | (apply s_conv; rfl; rfl; exact ti_3; (focus (apply wrap_i64; omega))) | (apply s_conv; rfl; rfl; exact ti_3; exact wrap_i64 (by omega)) | (apply s_conv; rfl; rfl; exact ti_3; rfl)); (apply ol_as; rfl; rfl); (apply ol_nil))
      | (refine cw_region_id 4 ?_; (apply ol_mv; rfl; rfl); (apply ol_val; rfl; apply stp_pur; apply s_slice; rfl; exact el_22; exact sz_5; exact (show bnd _ _ _ 1 from Exists.intro _ rfl); rfl; rfl; (intro h; first | rfl | cases h); exact qO; exact qO; exact qO); (apply ol_as; rfl; rfl); (apply ol_nil))
      | (refine cw_region_id 5 ?_; (apply ol_mv; rfl; rfl); (apply ol_val; rfl; apply stp_cmp; apply s_lss; rfl; rfl; all_goals (intro hc26; try (exfalso; (first | exact hc26 rfl | omega)))); all_goals (apply ol_mv; rfl; rfl); all_goals (first | (apply ol_gskip; rfl; rfl; exact qA; rfl) | (apply ol_gval; rfl; rfl; rfl; exact qA; apply stp_pur; apply s_move; rfl)); all_goals (first | (apply ol_gskip; rfl; rfl; exact qA; rfl) | (apply ol_gval; rfl; rfl; rfl; exact qA; apply stp_cmp; apply s_gtr; rfl; rfl; all_goals (intro hc29; try (exfalso; (first | exact hc29 rfl | omega))))); all_goals (apply ol_val; rfl; apply stp_pur; first | (apply s_pick_t; rfl; exact qA; rfl) | (apply s_pick_f; rfl; exact qA; rfl)); all_goals (apply ol_mv; rfl; rfl); all_goals (first | (apply ol_gskip; rfl; rfl; exact qA; rfl) | (apply ol_gval; rfl; rfl; rfl; exact qA; apply stp_pur; apply s_move; rfl)); all_goals (first | (apply ol_gskip; rfl; rfl; exact qA; rfl) | (apply ol_gval; rfl; rfl; rfl; exact qA; apply stp_cmp; apply s_eql; rfl; rfl; all_goals (intro hc33; try (exfalso; (first | exact hc33 rfl | omega))))); all_goals (first | (apply ol_gskip; rfl; rfl; exact qA; rfl) | (apply ol_gval; rfl; rfl; rfl; exact qA; apply stp_pur; apply s_move; rfl)); all_goals (first | (apply ol_gskip; rfl; rfl; exact qA; rfl) | (apply ol_gskipu; rfl; rfl; rfl) | (apply ol_gval; rfl; rfl; rfl; exact qA; apply stp_pur; apply s_move; rfl)); all_goals (first | (apply ol_gskip; rfl; rfl; exact qA; rfl) | (apply ol_gskipu; rfl; rfl; rfl) | (apply ol_gval; rfl; rfl; rfl; exact qA; apply stp_cmp; apply s_eql; rfl; rfl; all_goals (intro hc36; try (exfalso; (first | exact hc36 rfl | omega))))); all_goals (first | (apply ol_gskip; rfl; rfl; exact qA; rfl) | (apply ol_gval; rfl; rfl; rfl; exact qA; apply stp_pur; first | (apply s_pick_t; rfl; exact qA; rfl) | (apply s_pick_f; rfl; exact qA; rfl))); all_goals (apply ol_val; rfl; apply stp_pur; first | (apply s_pick_t; rfl; exact qA; rfl) | (apply s_pick_f; rfl; exact qA; rfl)); all_goals (apply ol_as; rfl; rfl); all_goals (apply ol_nil))
      | (refine cw_region_id 6 ?_; (apply ol_val; rfl; apply stp_pur; apply s_buildS; rfl; exact fs_25; exact zb_25; exact qR); (apply ol_eff; apply s_storeN; rfl; rfl; exact sz_25; rfl; rfl; exact qN; exact qN); (apply ol_as; rfl; rfl); (apply ol_as; rfl; rfl); (apply ol_nil))
      | (apply cw_cond_true; rfl; exact qA)
      | (apply cw_cond_false; rfl; exact qA)
      | apply cw_skip
      | apply cw_ret
      | apply cw_block
      | apply cw_exit
    all_goals
      refine endsW [] [] View.nil (RVal.cellN rfl rfl rfl (RdN.own (by (repeat (first | exact Has.here | apply Has.there))) (by focus ((repeat (first | rfl | constructor)); done))) (RVal.tmp rfl (RVal.tmp rfl RVal.nil))) Pick.nil (View.nil_le _) (View.freshM_nil _ _) (fun F _ _ => ?_)
      exact RdR.err (e := 3) hre (by decide)
theorem read_int {M : View} {w : World} (hM : View.le M (View.of w)) {d wn : Nat} (hw : wn + d = 8) {r : List Int} {a : Option Addr} {n c : Nat} (hv : BV M (1 :: r) a n c) :
    FnM Tryd.prog 41 [.slice a n c, .int .i64 (wn : Nat)] w [] (RdR d (1 :: r) M) := by
  have hn : 1 ≤ n := by have := hv.hn; rw [List.length_cons] at this; omega
  have hrl : r.length = n - 1 := by have := hv.hn; rw [List.length_cons] at this; omega
  have hcc := hv.hc
  have hv1 : BV M r (slicedA a 1 c 1) (n - 1) (c - 1) := hv.drop hn
  obtain ⟨⟨b0, o0, s0⟩, _, _, hb0⟩ := hv
  have hc0 := s0.cells 0 (by rw [List.length_cons]; omega)
  dsimp only [List.getElem_cons_zero] at hc0
  refine enterW (M := M) Tryd.func41 rfl rfl rfl rfl hM (fun _ h => by cases h) (fun _ h => by cases h) List.nodup_nil ?_
  by_cases h8 : r.length < 8
  · have hre : rdE d (1 :: r) = (4, []) := by unfold rdE; rw [if_neg (by omega), if_pos (.inl ⟨rfl, h8⟩)]
    repeat' first
      | apply cw_seq
      | (refine cw_region_id 0 ?_; (apply ol_val; rfl; apply s_alloc; exact zb_25; exact qN; intro bk4); (apply ol_as; rfl; rfl); (apply ol_as; rfl; rfl); (apply ol_nil))
      | (refine cw_region_id 1 ?_; (apply ol_mv; rfl; rfl); (apply ol_val; rfl; apply stp_pur; apply s_len; rfl; exact el_22); (apply ol_val; rfl; apply stp_cmp; apply s_eql; rfl; rfl; all_goals (intro hc16; try (exfalso; (first | exact hc16 rfl | omega)))); all_goals (apply ol_nil))
      | (refine cw_region_id 3 ?_; (apply ol_mv; rfl; rfl); (apply ol_val; rfl; apply stp_pur; first | (apply s_indexK; rfl; rfl; exact el_22; exact sz_5; (first | rfl | exact s0.at_ (by rw [List.length_cons]; omega)); omega) | (apply s_indexO; rfl; rfl; exact el_22; exact sz_5; (first | rfl | exact s0.at_ (by rw [List.length_cons]; omega)); omega)); (apply ol_ld; rfl; rfl; rfl; (first | exact qP | (apply RdN.view; exact hc0))); (apply ol_val; rfl; apply stp_pur; first | (apply s_conv; rfl; rfl; exact ti_3; (focus (apply wrap_i64; omega))) | (apply s_conv; rfl; rfl; exact ti_3; exact wrap_i64 (by omega)) | (apply s_conv; rfl; rfl; exact ti_3; rfl)); (apply ol_as; rfl; rfl); (apply ol_nil))
      | (refine cw_region_id 4 ?_; (apply ol_mv; rfl; rfl); (apply ol_val; rfl; apply stp_pur; apply s_slice; rfl; exact el_22; exact sz_5; exact (show bnd _ _ _ 1 from Exists.intro _ rfl); rfl; rfl; (intro h; first | rfl | cases h); exact qO; exact qO; exact qO); (apply ol_as; rfl; rfl); (apply ol_nil))
      | (refine cw_region_id 5 ?_; (apply ol_mv; rfl; rfl); (apply ol_val; rfl; apply stp_cmp; apply s_lss; rfl; rfl; all_goals (intro hc26; try (exfalso; (first | exact hc26 rfl | omega)))); all_goals (apply ol_mv; rfl; rfl); all_goals (first | (apply ol_gskip; rfl; rfl; exact qA; rfl) | (apply ol_gval; rfl; rfl; rfl; exact qA; apply stp_pur; apply s_move; rfl)); all_goals (first | (apply ol_gskip; rfl; rfl; exact qA; rfl) | (apply ol_gval; rfl; rfl; rfl; exact qA; apply stp_cmp; apply s_gtr; rfl; rfl; all_goals (intro hc29; try (exfalso; (first | exact hc29 rfl | omega))))); all_goals (apply ol_val; rfl; apply stp_pur; first | (apply s_pick_t; rfl; exact qA; rfl) | (apply s_pick_f; rfl; exact qA; rfl)); all_goals (apply ol_mv; rfl; rfl); all_goals (first | (apply ol_gskip; rfl; rfl; exact qA; rfl) | (apply ol_gval; rfl; rfl; rfl; exact qA; apply stp_pur; apply s_move; rfl)); all_goals (first | (apply ol_gskip; rfl; rfl; exact qA; rfl) | (apply ol_gval; rfl; rfl; rfl; exact qA; apply stp_cmp; apply s_eql; rfl; rfl; all_goals (intro hc33; try (exfalso; (first | exact hc33 rfl | omega))))); all_goals (first | (apply ol_gskip; rfl; rfl; exact qA; rfl) | (apply ol_gval; rfl; rfl; rfl; exact qA; apply stp_pur; apply s_move; rfl)); all_goals (first | (apply ol_gskip; rfl; rfl; exact qA; rfl) | (apply ol_gskipu; rfl; rfl; rfl) | (apply ol_gval; rfl; rfl; rfl; exact qA; apply stp_pur; apply s_move; rfl)); all_goals (first | (apply ol_gskip; rfl; rfl; exact qA; rfl) | (apply ol_gskipu; rfl; rfl; rfl) | (apply ol_gval; rfl; rfl; rfl; exact qA; apply stp_cmp; apply s_eql; rfl; rfl; all_goals (intro hc36; try (exfalso; (first | exact hc36 rfl | omega))))); all_goals (first | (apply ol_gskip; rfl; rfl; exact qA; rfl) | (apply ol_gval; rfl; rfl; rfl; exact qA; apply stp_pur; first | (apply s_pick_t; rfl; exact qA; rfl) | (apply s_pick_f; rfl; exact qA; rfl))); all_goals (apply ol_val; rfl; apply stp_pur; first | (apply s_pick_t; rfl; exact qA; rfl) | (apply s_pick_f; rfl; exact qA; rfl)); all_goals (apply ol_as; rfl; rfl); all_goals (apply ol_nil))
      | (refine cw_region_id 7 ?_; (apply ol_mv; rfl; rfl); (apply ol_val; rfl; apply stp_cmp; apply s_eql; rfl; rfl; all_goals (intro hc42; try (exfalso; (first | exact hc42 rfl | omega)))); all_goals (apply ol_mv; rfl; rfl); all_goals (first | (apply ol_gskip; rfl; rfl; exact qA; rfl) | (apply ol_gval; rfl; rfl; rfl; exact qA; apply stp_pur; apply s_move; rfl)); all_goals (first | (apply ol_gskip; rfl; rfl; exact qA; rfl) | (apply ol_gval; rfl; rfl; rfl; exact qA; apply stp_pur; apply s_len; rfl; exact el_22)); all_goals (first | (apply ol_gskip; rfl; rfl; exact qA; rfl) | (apply ol_gval; rfl; rfl; rfl; exact qA; apply stp_cmp; apply s_lss; rfl; rfl; all_goals (intro hc46; try (exfalso; (first | exact hc46 rfl | omega))))); all_goals (apply ol_val; rfl; apply stp_pur; first | (apply s_pick_t; rfl; exact qA; rfl) | (apply s_pick_f; rfl; exact qA; rfl)); all_goals (apply ol_mv; rfl; rfl); all_goals (first | (apply ol_gskip; rfl; rfl; exact qA; rfl) | (apply ol_gval; rfl; rfl; rfl; exact qA; apply stp_pur; apply s_move; rfl)); all_goals (first | (apply ol_gskip; rfl; rfl; exact qA; rfl) | (apply ol_gval; rfl; rfl; rfl; exact qA; apply stp_pur; apply s_len; rfl; exact el_22)); all_goals (first | (apply ol_gskip; rfl; rfl; exact qA; rfl) | (apply ol_gval; rfl; rfl; rfl; exact qA; apply stp_cmp; apply s_lss; rfl; rfl; all_goals (intro hc51; try (exfalso; (first | exact hc51 rfl | omega))))); all_goals (apply ol_val; rfl; apply stp_pur; first | (apply s_pick_t; rfl; exact qA; rfl) | (apply s_pick_f; rfl; exact qA; rfl)); all_goals (apply ol_as; rfl; rfl); all_goals (apply ol_nil))
      | (refine cw_region_id 8 ?_; (apply ol_val; rfl; apply stp_pur; apply s_buildS; rfl; exact fs_25; exact zb_25; exact qR); (apply ol_eff; apply s_storeN; rfl; rfl; exact sz_25; rfl; rfl; exact qN; exact qN); (apply ol_as; rfl; rfl); (apply ol_as; rfl; rfl); (apply ol_nil))
      | (apply cw_cond_true; rfl; exact qA)
      | (apply cw_cond_false; rfl; exact qA)
      | apply cw_skip
      | apply cw_ret
      | apply cw_block
      | apply cw_exit
    all_goals
      refine endsW [] [] View.nil (RVal.cellN rfl rfl rfl (RdN.own (by (repeat (first | exact Has.here | apply Has.there))) (by focus ((repeat (first | rfl | constructor)); done))) (RVal.tmp rfl (RVal.tmp rfl RVal.nil))) Pick.nil (View.nil_le _) (View.freshM_nil _ _) (fun F _ _ => ?_)
      exact RdR.err (e := 4) hre (by decide)
  · have hre : rdE d (1 :: r) = (0, r.drop 8) := by unfold rdE; rw [if_neg (by omega), if_neg (by omega), if_pos rfl]
    have hv8 := hv1.take (k := 8) (by omega)
    have k8 := fun (w' : World) (h : View.le M (View.of w')) => value_spec h hv8 (by omega)
    have hv9 := hv1.drop (k := 8) (by omega)
    have ht8 : (r.take 8).length = 8 := by rw [List.length_take]; omega
    have hb8 : ∀ x ∈ r.take 8, 0 ≤ x ∧ x ≤ 255 := fun x hx => hv1.hb x (List.mem_of_mem_take hx)
    have hlt := numB_lt hb8
    have hbi := bI_numB hb8
    rw [ht8] at hlt hbi
    have hu := u64_i64 (N := numB (r.take 8)) (by have : (256 : Nat) ^ 8 = 18446744073709551616 := by decide
                                                  omega)
    generalize hN : IntKind.i64.wrap ((numB (r.take 8) : Nat) : Int) = N at *
    repeat' first
      | apply cw_seq
      | (refine cw_region_id 0 ?_; (apply ol_val; rfl; apply s_alloc; exact zb_25; exact qN; intro bk4); (apply ol_as; rfl; rfl); (apply ol_as; rfl; rfl); (apply ol_nil))
      | (refine cw_region_id 1 ?_; (apply ol_mv; rfl; rfl); (apply ol_val; rfl; apply stp_pur; apply s_len; rfl; exact el_22); (apply ol_val; rfl; apply stp_cmp; apply s_eql; rfl; rfl; all_goals (intro hc16; try (exfalso; (first | exact hc16 rfl | omega)))); all_goals (apply ol_nil))
      | (refine cw_region_id 3 ?_; (apply ol_mv; rfl; rfl); (apply ol_val; rfl; apply stp_pur; first | (apply s_indexK; rfl; rfl; exact el_22; exact sz_5; (first | rfl | exact s0.at_ (by rw [List.length_cons]; omega)); omega) | (apply s_indexO; rfl; rfl; exact el_22; exact sz_5; (first | rfl | exact s0.at_ (by rw [List.length_cons]; omega)); omega)); (apply ol_ld; rfl; rfl; rfl; (first | exact qP | (apply RdN.view; exact hc0))); (apply ol_val; rfl; apply stp_pur; first | (apply s_conv; rfl; rfl; exact ti_3; (focus (apply wrap_i64; omega))) | (apply s_conv; rfl; rfl; exact ti_3; exact wrap_i64 (by omega)) | (apply s_conv; rfl; rfl; exact ti_3; exact hN) | (apply s_conv; rfl; rfl; exact ti_3; rfl)); (apply ol_as; rfl; rfl); (apply ol_nil))
      | (refine cw_region_id 4 ?_; (apply ol_mv; rfl; rfl); (apply ol_val; rfl; apply stp_pur; apply s_slice; rfl; exact el_22; exact sz_5; exact (show bnd _ _ _ 1 from Exists.intro _ rfl); rfl; rfl; (intro h; first | rfl | cases h); exact qO; exact qO; exact qO); (apply ol_as; rfl; rfl); (apply ol_nil))
      | (refine cw_region_id 5 ?_; (apply ol_mv; rfl; rfl); (apply ol_val; rfl; apply stp_cmp; apply s_lss; rfl; rfl; all_goals (intro hc26; try (exfalso; (first | exact hc26 rfl | omega)))); all_goals (apply ol_mv; rfl; rfl); all_goals (first | (apply ol_gskip; rfl; rfl; exact qA; rfl) | (apply ol_gval; rfl; rfl; rfl; exact qA; apply stp_pur; apply s_move; rfl)); all_goals (first | (apply ol_gskip; rfl; rfl; exact qA; rfl) | (apply ol_gval; rfl; rfl; rfl; exact qA; apply stp_cmp; apply s_gtr; rfl; rfl; all_goals (intro hc29; try (exfalso; (first | exact hc29 rfl | omega))))); all_goals (apply ol_val; rfl; apply stp_pur; first | (apply s_pick_t; rfl; exact qA; rfl) | (apply s_pick_f; rfl; exact qA; rfl)); all_goals (apply ol_mv; rfl; rfl); all_goals (first | (apply ol_gskip; rfl; rfl; exact qA; rfl) | (apply ol_gval; rfl; rfl; rfl; exact qA; apply stp_pur; apply s_move; rfl)); all_goals (first | (apply ol_gskip; rfl; rfl; exact qA; rfl) | (apply ol_gval; rfl; rfl; rfl; exact qA; apply stp_cmp; apply s_eql; rfl; rfl; all_goals (intro hc33; try (exfalso; (first | exact hc33 rfl | omega))))); all_goals (first | (apply ol_gskip; rfl; rfl; exact qA; rfl) | (apply ol_gval; rfl; rfl; rfl; exact qA; apply stp_pur; apply s_move; rfl)); all_goals (first | (apply ol_gskip; rfl; rfl; exact qA; rfl) | (apply ol_gskipu; rfl; rfl; rfl) | (apply ol_gval; rfl; rfl; rfl; exact qA; apply stp_pur; apply s_move; rfl)); all_goals (first | (apply ol_gskip; rfl; rfl; exact qA; rfl) | (apply ol_gskipu; rfl; rfl; rfl) | (apply ol_gval; rfl; rfl; rfl; exact qA; apply stp_cmp; apply s_eql; rfl; rfl; all_goals (intro hc36; try (exfalso; (first | exact hc36 rfl | omega))))); all_goals (first | (apply ol_gskip; rfl; rfl; exact qA; rfl) | (apply ol_gval; rfl; rfl; rfl; exact qA; apply stp_pur; first | (apply s_pick_t; rfl; exact qA; rfl) | (apply s_pick_f; rfl; exact qA; rfl))); all_goals (apply ol_val; rfl; apply stp_pur; first | (apply s_pick_t; rfl; exact qA; rfl) | (apply s_pick_f; rfl; exact qA; rfl)); all_goals (apply ol_as; rfl; rfl); all_goals (apply ol_nil))
      | (refine cw_region_id 7 ?_; (apply ol_mv; rfl; rfl); (apply ol_val; rfl; apply stp_cmp; apply s_eql; rfl; rfl; all_goals (intro hc42; try (exfalso; (first | exact hc42 rfl | omega)))); all_goals (apply ol_mv; rfl; rfl); all_goals (first | (apply ol_gskip; rfl; rfl; exact qA; rfl) | (apply ol_gval; rfl; rfl; rfl; exact qA; apply stp_pur; apply s_move; rfl)); all_goals (first | (apply ol_gskip; rfl; rfl; exact qA; rfl) | (apply ol_gval; rfl; rfl; rfl; exact qA; apply stp_pur; apply s_len; rfl; exact el_22)); all_goals (first | (apply ol_gskip; rfl; rfl; exact qA; rfl) | (apply ol_gval; rfl; rfl; rfl; exact qA; apply stp_cmp; apply s_lss; rfl; rfl; all_goals (intro hc46; try (exfalso; (first | exact hc46 rfl | omega))))); all_goals (apply ol_val; rfl; apply stp_pur; first | (apply s_pick_t; rfl; exact qA; rfl) | (apply s_pick_f; rfl; exact qA; rfl)); all_goals (apply ol_mv; rfl; rfl); all_goals (first | (apply ol_gskip; rfl; rfl; exact qA; rfl) | (apply ol_gval; rfl; rfl; rfl; exact qA; apply stp_pur; apply s_move; rfl)); all_goals (first | (apply ol_gskip; rfl; rfl; exact qA; rfl) | (apply ol_gval; rfl; rfl; rfl; exact qA; apply stp_pur; apply s_len; rfl; exact el_22)); all_goals (first | (apply ol_gskip; rfl; rfl; exact qA; rfl) | (apply ol_gval; rfl; rfl; rfl; exact qA; apply stp_cmp; apply s_lss; rfl; rfl; all_goals (intro hc51; try (exfalso; (first | exact hc51 rfl | omega))))); all_goals (apply ol_val; rfl; apply stp_pur; first | (apply s_pick_t; rfl; exact qA; rfl) | (apply s_pick_f; rfl; exact qA; rfl)); all_goals (apply ol_as; rfl; rfl); all_goals (apply ol_nil))
      | (refine cw_region_id 9 ?_; (apply ol_mv; rfl; rfl); (apply ol_val; rfl; apply stp_cmp; apply s_eql; rfl; rfl; all_goals (intro hc56; try (exfalso; (first | exact hc56 rfl | omega)))); all_goals (apply ol_as; rfl; rfl); all_goals (apply ol_nil))
      | (refine cw_isreg 10 ?_; refine cw_draw (id := 10) 11 (.mv 0 (.mv 1 (.mv 2 (.mv 6 (.mv 7 (.fx 3 (.mv 4 (.mv 5 (.fx 8 (.mv 9 (.mv 10 (PT.nil)))))))))))) mixed (by kernel_rfl) ?_; (apply od_mv; rfl; rfl; apply s_move; rfl); (apply od_mv; rfl; rfl; apply s_move; rfl); (apply od_mv; rfl; rfl; apply s_slice; rfl; exact el_22; exact sz_5; rfl; exact (show bnd _ _ _ 8 from Exists.intro _ rfl); rfl; (intro h; first | rfl | cases h); exact qO; exact qO; exact qO); (apply od_mv; rfl; rfl; apply s_move; rfl); (apply od_mv; rfl; rfl; apply s_slice; rfl; exact el_22; exact sz_5; exact (show bnd _ _ _ 8 from Exists.intro _ rfl); rfl; rfl; (intro h; first | rfl | cases h); exact qO; exact qO; exact qO); (apply od_fx; (first | exact Wk.refl _ _ | exact qW); (apply fx_val; rfl; rfl; apply s_callv; rfl; exact gf_50; (intro w' hw'; exact k8 w' hw'.le))); (apply od_mv; rfl; rfl; first | (apply s_conv; rfl; rfl; exact ti_3; (focus (apply wrap_i64; omega))) | (apply s_conv; rfl; rfl; exact ti_3; exact wrap_i64 (by omega)) | (apply s_conv; rfl; rfl; exact ti_3; exact hN) | (apply s_conv; rfl; rfl; exact ti_3; rfl)); (apply od_mv; rfl; rfl; apply s_buildS; rfl; exact fs_25; exact zb_25; exact qR); (apply od_fx; (first | exact Wk.refl _ _ | exact qW); (apply fx_eff; rfl; apply s_storeN; rfl; rfl; exact sz_25; rfl; rfl; exact qN; exact qN)); (apply od_mv; rfl; rfl; apply s_assign; rfl); (apply od_mv; rfl; rfl; apply s_assign; rfl); (apply od_nil; (first | exact Wk.refl _ _ | exact qW)); (apply ol_nil))
      | (refine cw_isreg 10 ?_; refine cw_drawW (id := 10) (own0 := []) 11 (.mv 0 (.mv 1 (.mv 2 (.mv 6 (.mv 7 (.fx 3 (.mv 4 (.mv 5 (.fx 8 (.mv 9 (.mv 10 (PT.nil)))))))))))) mixed (by kernel_rfl) (by (first | exact Wk.refl _ _ | exact qW)) ?_; (apply od_mv; rfl; rfl; apply s_move; rfl); (apply od_mv; rfl; rfl; apply s_move; rfl); (apply od_mv; rfl; rfl; apply s_slice; rfl; exact el_22; exact sz_5; rfl; exact (show bnd _ _ _ 8 from Exists.intro _ rfl); rfl; (intro h; first | rfl | cases h); exact qO; exact qO; exact qO); (apply od_mv; rfl; rfl; apply s_move; rfl); (apply od_mv; rfl; rfl; apply s_slice; rfl; exact el_22; exact sz_5; exact (show bnd _ _ _ 8 from Exists.intro _ rfl); rfl; rfl; (intro h; first | rfl | cases h); exact qO; exact qO; exact qO); (apply od_fx; (first | exact Wk.refl _ _ | exact qW); (apply fx_val; rfl; rfl; apply s_callv; rfl; exact gf_50; (intro w' hw'; exact k8 w' hw'.le))); (apply od_mv; rfl; rfl; first | (apply s_conv; rfl; rfl; exact ti_3; (focus (apply wrap_i64; omega))) | (apply s_conv; rfl; rfl; exact ti_3; exact wrap_i64 (by omega)) | (apply s_conv; rfl; rfl; exact ti_3; exact hN) | (apply s_conv; rfl; rfl; exact ti_3; rfl)); (apply od_mv; rfl; rfl; apply s_buildS; rfl; exact fs_25; exact zb_25; exact qR); (apply od_fx; (first | exact Wk.refl _ _ | exact qW); (apply fx_eff; rfl; apply s_storeN; rfl; rfl; exact sz_25; rfl; rfl; exact qN; exact qN)); (apply od_mv; rfl; rfl; apply s_assign; rfl); (apply od_mv; rfl; rfl; apply s_assign; rfl); (apply od_nil; (first | exact Wk.refl _ _ | exact qW)); (apply ol_nil))
      | (apply cw_cond_true; rfl; exact qA)
      | (apply cw_cond_false; rfl; exact qA)
      | apply cw_skip
      | apply cw_ret
      | apply cw_block
      | apply cw_exit
    all_goals
      refine endsW [] [] View.nil (RVal.cellN rfl rfl rfl (RdN.own (by (repeat (first | exact Has.here | apply Has.there))) (by focus ((repeat (first | rfl | constructor)); done))) (RVal.tmp rfl (RVal.tmp rfl RVal.nil))) Pick.nil (View.nil_le _) (View.freshM_nil _ _) (fun F _ _ => ?_)
      refine ⟨rfl, _, _, _, 0, r.drop 8, mkL d (hdN N), by rw [mkL_enc]; rfl, hre, fun _ N' hM' hF' => ⟨hv9.mono hM', ItV.mkL ⟨SlA.none', fun x hx => by simp [hdN] at hx, by simp [hdN], by simp [hdN]⟩ rfl d, ?_, ?_⟩⟩
      · exact ⟨by rw [okI_mkL (by show (1 : Int) ≠ 3; omega)]; rfl, rgI_mkL (by show -9223372036854775808 ≤ N ∧ N ≤ _; rw [← hN]; exact wrap_rg _) d⟩
      · rw [encI_mkL (by show (1 : Int) ≠ 3; omega), show encH (hdN N) = 1 :: bI 8 (u64 N) from rfl, hu, hbi, List.cons_append, List.take_append_drop]
theorem read_bytes {M : View} {w : World} (hM : View.le M (View.of w)) {d wn : Nat} (hw : wn + d = 8) {r : List Int} {a : Option Addr} {n c : Nat} (hv : BV M (2 :: r) a n c) (hn47 : n ≤ 16384) :
    FnM Tryd.prog 41 [.slice a n c, .int .i64 (wn : Nat)] w [] (RdR d (2 :: r) M) := by
  have hn : 1 ≤ n := by have := hv.hn; rw [List.length_cons] at this; omega
  have hrl : r.length = n - 1 := by have := hv.hn; rw [List.length_cons] at this; omega
  have hcc := hv.hc
  have hv1 : BV M r (slicedA a 1 c 1) (n - 1) (c - 1) := hv.drop hn
  obtain ⟨⟨b0, o0, s0⟩, _, _, hb0⟩ := hv
  have hc0 := s0.cells 0 (by rw [List.length_cons]; omega)
  dsimp only [List.getElem_cons_zero] at hc0
  refine enterW (M := M) Tryd.func41 rfl rfl rfl rfl hM (fun _ h => by cases h) (fun _ h => by cases h) List.nodup_nil ?_
  by_cases h4 : r.length < 4
  · have hre : rdE d (2 :: r) = (4, []) := by unfold rdE; rw [if_neg (by omega), if_pos (.inr h4)]
    repeat' first
      | apply cw_seq
      | (refine cw_region_id 0 ?_; (apply ol_val; rfl; apply s_alloc; exact zb_25; exact qN; intro bk4); (apply ol_as; rfl; rfl); (apply ol_as; rfl; rfl); (apply ol_nil))
      | (refine cw_region_id 1 ?_; (apply ol_mv; rfl; rfl); (apply ol_val; rfl; apply stp_pur; apply s_len; rfl; exact el_22); (apply ol_val; rfl; apply stp_cmp; apply s_eql; rfl; rfl; all_goals (intro hc16; try (exfalso; (first | exact hc16 rfl | omega)))); all_goals (apply ol_nil))
      | (refine cw_region_id 3 ?_; (apply ol_mv; rfl; rfl); (apply ol_val; rfl; apply stp_pur; first | (apply s_indexK; rfl; rfl; exact el_22; exact sz_5; (first | rfl | exact s0.at_ (by rw [List.length_cons]; omega)); omega) | (apply s_indexO; rfl; rfl; exact el_22; exact sz_5; (first | rfl | exact s0.at_ (by rw [List.length_cons]; omega)); omega)); (apply ol_ld; rfl; rfl; rfl; (first | exact qP | (apply RdN.view; exact hc0))); (apply ol_val; rfl; apply stp_pur; first | (apply s_conv; rfl; rfl; exact ti_3; (focus (apply wrap_i64; omega))) | (apply s_conv; rfl; rfl; exact ti_3; exact wrap_i64 (by omega)) | (apply s_conv; rfl; rfl; exact ti_3; rfl)); (apply ol_as; rfl; rfl); (apply ol_nil))
      | (refine cw_region_id 4 ?_; (apply ol_mv; rfl; rfl); (apply ol_val; rfl; apply stp_pur; apply s_slice; rfl; exact el_22; exact sz_5; exact (show bnd _ _ _ 1 from Exists.intro _ rfl); rfl; rfl; (intro h; first | rfl | cases h); exact qO; exact qO; exact qO); (apply ol_as; rfl; rfl); (apply ol_nil))
      | (refine cw_region_id 5 ?_; (apply ol_mv; rfl; rfl); (apply ol_val; rfl; apply stp_cmp; apply s_lss; rfl; rfl; all_goals (intro hc26; try (exfalso; (first | exact hc26 rfl | omega)))); all_goals (apply ol_mv; rfl; rfl); all_goals (first | (apply ol_gskip; rfl; rfl; exact qA; rfl) | (apply ol_gval; rfl; rfl; rfl; exact qA; apply stp_pur; apply s_move; rfl)); all_goals (first | (apply ol_gskip; rfl; rfl; exact qA; rfl) | (apply ol_gval; rfl; rfl; rfl; exact qA; apply stp_cmp; apply s_gtr; rfl; rfl; all_goals (intro hc29; try (exfalso; (first | exact hc29 rfl | omega))))); all_goals (apply ol_val; rfl; apply stp_pur; first | (apply s_pick_t; rfl; exact qA; rfl) | (apply s_pick_f; rfl; exact qA; rfl)); all_goals (apply ol_mv; rfl; rfl); all_goals (first | (apply ol_gskip; rfl; rfl; exact qA; rfl) | (apply ol_gval; rfl; rfl; rfl; exact qA; apply stp_pur; apply s_move; rfl)); all_goals (first | (apply ol_gskip; rfl; rfl; exact qA; rfl) | (apply ol_gval; rfl; rfl; rfl; exact qA; apply stp_cmp; apply s_eql; rfl; rfl; all_goals (intro hc33; try (exfalso; (first | exact hc33 rfl | omega))))); all_goals (first | (apply ol_gskip; rfl; rfl; exact qA; rfl) | (apply ol_gval; rfl; rfl; rfl; exact qA; apply stp_pur; apply s_move; rfl)); all_goals (first | (apply ol_gskip; rfl; rfl; exact qA; rfl) | (apply ol_gskipu; rfl; rfl; rfl) | (apply ol_gval; rfl; rfl; rfl; exact qA; apply stp_pur; apply s_move; rfl)); all_goals (first | (apply ol_gskip; rfl; rfl; exact qA; rfl) | (apply ol_gskipu; rfl; rfl; rfl) | (apply ol_gval; rfl; rfl; rfl; exact qA; apply stp_cmp; apply s_eql; rfl; rfl; all_goals (intro hc36; try (exfalso; (first | exact hc36 rfl | omega))))); all_goals (first | (apply ol_gskip; rfl; rfl; exact qA; rfl) | (apply ol_gval; rfl; rfl; rfl; exact qA; apply stp_pur; first | (apply s_pick_t; rfl; exact qA; rfl) | (apply s_pick_f; rfl; exact qA; rfl))); all_goals (apply ol_val; rfl; apply stp_pur; first | (apply s_pick_t; rfl; exact qA; rfl) | (apply s_pick_f; rfl; exact qA; rfl)); all_goals (apply ol_as; rfl; rfl); all_goals (apply ol_nil))
      | (refine cw_region_id 7 ?_; (apply ol_mv; rfl; rfl); (apply ol_val; rfl; apply stp_cmp; apply s_eql; rfl; rfl; all_goals (intro hc42; try (exfalso; (first | exact hc42 rfl | omega)))); all_goals (apply ol_mv; rfl; rfl); all_goals (first | (apply ol_gskip; rfl; rfl; exact qA; rfl) | (apply ol_gval; rfl; rfl; rfl; exact qA; apply stp_pur; apply s_move; rfl)); all_goals (first | (apply ol_gskip; rfl; rfl; exact qA; rfl) | (apply ol_gval; rfl; rfl; rfl; exact qA; apply stp_pur; apply s_len; rfl; exact el_22)); all_goals (first | (apply ol_gskip; rfl; rfl; exact qA; rfl) | (apply ol_gval; rfl; rfl; rfl; exact qA; apply stp_cmp; apply s_lss; rfl; rfl; all_goals (intro hc46; try (exfalso; (first | exact hc46 rfl | omega))))); all_goals (apply ol_val; rfl; apply stp_pur; first | (apply s_pick_t; rfl; exact qA; rfl) | (apply s_pick_f; rfl; exact qA; rfl)); all_goals (apply ol_mv; rfl; rfl); all_goals (first | (apply ol_gskip; rfl; rfl; exact qA; rfl) | (apply ol_gval; rfl; rfl; rfl; exact qA; apply stp_pur; apply s_move; rfl)); all_goals (first | (apply ol_gskip; rfl; rfl; exact qA; rfl) | (apply ol_gval; rfl; rfl; rfl; exact qA; apply stp_pur; apply s_len; rfl; exact el_22)); all_goals (first | (apply ol_gskip; rfl; rfl; exact qA; rfl) | (apply ol_gval; rfl; rfl; rfl; exact qA; apply stp_cmp; apply s_lss; rfl; rfl; all_goals (intro hc51; try (exfalso; (first | exact hc51 rfl | omega))))); all_goals (apply ol_val; rfl; apply stp_pur; first | (apply s_pick_t; rfl; exact qA; rfl) | (apply s_pick_f; rfl; exact qA; rfl)); all_goals (apply ol_as; rfl; rfl); all_goals (apply ol_nil))
      | (refine cw_region_id 8 ?_; (apply ol_val; rfl; apply stp_pur; apply s_buildS; rfl; exact fs_25; exact zb_25; exact qR); (apply ol_eff; apply s_storeN; rfl; rfl; exact sz_25; rfl; rfl; exact qN; exact qN); (apply ol_as; rfl; rfl); (apply ol_as; rfl; rfl); (apply ol_nil))
      | (apply cw_cond_true; rfl; exact qA)
      | (apply cw_cond_false; rfl; exact qA)
      | apply cw_skip
      | apply cw_ret
      | apply cw_block
      | apply cw_exit
    all_goals
      refine endsW [] [] View.nil (RVal.cellN rfl rfl rfl (RdN.own (by (repeat (first | exact Has.here | apply Has.there))) (by focus ((repeat (first | rfl | constructor)); done))) (RVal.tmp rfl (RVal.tmp rfl RVal.nil))) Pick.nil (View.nil_le _) (View.freshM_nil _ _) (fun F _ _ => ?_)
      exact RdR.err (e := 4) hre (by decide)
  · have hv4 := hv1.take (k := 4) (by omega)
    have k4 := fun (w' : World) (h : View.le M (View.of w')) => value_spec h hv4 (by omega)
    have hv5 := hv1.drop (k := 4) (by omega)
    have ht4 : (r.take 4).length = 4 := by rw [List.length_take]; omega
    have hb4 : ∀ x ∈ r.take 4, 0 ≤ x ∧ x ≤ 255 := fun x hx => hv1.hb x (List.mem_of_mem_take hx)
    have hlt := numB_lt hb4
    have hbi := bI_numB hb4
    rw [ht4] at hlt hbi
    have h44 : (256 : Nat) ^ 4 = 4294967296 := by decide
    rw [h44] at hlt
    have hdl : (r.drop 4).length = n - 1 - 4 := by rw [List.length_drop]; omega
    generalize hN : numB (r.take 4) = N at *
    by_cases hN2 : n - 1 - 4 < N
    · have hre : rdE d (2 :: r) = (4, []) := by unfold rdE; rw [if_neg (by omega), if_neg (by omega), if_neg (by omega), if_pos rfl, hN, if_pos (by omega)]
      repeat' first
        | apply cw_seq
        | (refine cw_region_id 0 ?_; (apply ol_val; rfl; apply s_alloc; exact zb_25; exact qN; intro bk4); (apply ol_as; rfl; rfl); (apply ol_as; rfl; rfl); (apply ol_nil))
        | (refine cw_region_id 1 ?_; (apply ol_mv; rfl; rfl); (apply ol_val; rfl; apply stp_pur; apply s_len; rfl; exact el_22); (apply ol_val; rfl; apply stp_cmp; apply s_eql; rfl; rfl; all_goals (intro hc16; try (exfalso; (first | exact hc16 rfl | omega)))); all_goals (apply ol_nil))
        | (refine cw_region_id 3 ?_; (apply ol_mv; rfl; rfl); (apply ol_val; rfl; apply stp_pur; first | (apply s_indexK; rfl; rfl; exact el_22; exact sz_5; (first | rfl | exact s0.at_ (by rw [List.length_cons]; omega)); omega) | (apply s_indexO; rfl; rfl; exact el_22; exact sz_5; (first | rfl | exact s0.at_ (by rw [List.length_cons]; omega)); omega)); (apply ol_ld; rfl; rfl; rfl; (first | exact qP | (apply RdN.view; exact hc0))); (apply ol_val; rfl; apply stp_pur; first | (apply s_conv; rfl; rfl; exact ti_3; (focus (apply wrap_i64; omega))) | (apply s_conv; rfl; rfl; exact ti_3; exact wrap_i64 (by omega)) | (apply s_conv; rfl; rfl; exact ti_3; rfl)); (apply ol_as; rfl; rfl); (apply ol_nil))
        | (refine cw_region_id 4 ?_; (apply ol_mv; rfl; rfl); (apply ol_val; rfl; apply stp_pur; apply s_slice; rfl; exact el_22; exact sz_5; exact (show bnd _ _ _ 1 from Exists.intro _ rfl); rfl; rfl; (intro h; first | rfl | cases h); exact qO; exact qO; exact qO); (apply ol_as; rfl; rfl); (apply ol_nil))
        | (refine cw_region_id 5 ?_; (apply ol_mv; rfl; rfl); (apply ol_val; rfl; apply stp_cmp; apply s_lss; rfl; rfl; all_goals (intro hc26; try (exfalso; (first | exact hc26 rfl | omega)))); all_goals (apply ol_mv; rfl; rfl); all_goals (first | (apply ol_gskip; rfl; rfl; exact qA; rfl) | (apply ol_gval; rfl; rfl; rfl; exact qA; apply stp_pur; apply s_move; rfl)); all_goals (first | (apply ol_gskip; rfl; rfl; exact qA; rfl) | (apply ol_gval; rfl; rfl; rfl; exact qA; apply stp_cmp; apply s_gtr; rfl; rfl; all_goals (intro hc29; try (exfalso; (first | exact hc29 rfl | omega))))); all_goals (apply ol_val; rfl; apply stp_pur; first | (apply s_pick_t; rfl; exact qA; rfl) | (apply s_pick_f; rfl; exact qA; rfl)); all_goals (apply ol_mv; rfl; rfl); all_goals (first | (apply ol_gskip; rfl; rfl; exact qA; rfl) | (apply ol_gval; rfl; rfl; rfl; exact qA; apply stp_pur; apply s_move; rfl)); all_goals (first | (apply ol_gskip; rfl; rfl; exact qA; rfl) | (apply ol_gval; rfl; rfl; rfl; exact qA; apply stp_cmp; apply s_eql; rfl; rfl; all_goals (intro hc33; try (exfalso; (first | exact hc33 rfl | omega))))); all_goals (first | (apply ol_gskip; rfl; rfl; exact qA; rfl) | (apply ol_gval; rfl; rfl; rfl; exact qA; apply stp_pur; apply s_move; rfl)); all_goals (first | (apply ol_gskip; rfl; rfl; exact qA; rfl) | (apply ol_gskipu; rfl; rfl; rfl) | (apply ol_gval; rfl; rfl; rfl; exact qA; apply stp_pur; apply s_move; rfl)); all_goals (first | (apply ol_gskip; rfl; rfl; exact qA; rfl) | (apply ol_gskipu; rfl; rfl; rfl) | (apply ol_gval; rfl; rfl; rfl; exact qA; apply stp_cmp; apply s_eql; rfl; rfl; all_goals (intro hc36; try (exfalso; (first | exact hc36 rfl | omega))))); all_goals (first | (apply ol_gskip; rfl; rfl; exact qA; rfl) | (apply ol_gval; rfl; rfl; rfl; exact qA; apply stp_pur; first | (apply s_pick_t; rfl; exact qA; rfl) | (apply s_pick_f; rfl; exact qA; rfl))); all_goals (apply ol_val; rfl; apply stp_pur; first | (apply s_pick_t; rfl; exact qA; rfl) | (apply s_pick_f; rfl; exact qA; rfl)); all_goals (apply ol_as; rfl; rfl); all_goals (apply ol_nil))
        | (refine cw_region_id 7 ?_; (apply ol_mv; rfl; rfl); (apply ol_val; rfl; apply stp_cmp; apply s_eql; rfl; rfl; all_goals (intro hc42; try (exfalso; (first | exact hc42 rfl | omega)))); all_goals (apply ol_mv; rfl; rfl); all_goals (first | (apply ol_gskip; rfl; rfl; exact qA; rfl) | (apply ol_gval; rfl; rfl; rfl; exact qA; apply stp_pur; apply s_move; rfl)); all_goals (first | (apply ol_gskip; rfl; rfl; exact qA; rfl) | (apply ol_gval; rfl; rfl; rfl; exact qA; apply stp_pur; apply s_len; rfl; exact el_22)); all_goals (first | (apply ol_gskip; rfl; rfl; exact qA; rfl) | (apply ol_gval; rfl; rfl; rfl; exact qA; apply stp_cmp; apply s_lss; rfl; rfl; all_goals (intro hc46; try (exfalso; (first | exact hc46 rfl | omega))))); all_goals (apply ol_val; rfl; apply stp_pur; first | (apply s_pick_t; rfl; exact qA; rfl) | (apply s_pick_f; rfl; exact qA; rfl)); all_goals (apply ol_mv; rfl; rfl); all_goals (first | (apply ol_gskip; rfl; rfl; exact qA; rfl) | (apply ol_gval; rfl; rfl; rfl; exact qA; apply stp_pur; apply s_move; rfl)); all_goals (first | (apply ol_gskip; rfl; rfl; exact qA; rfl) | (apply ol_gval; rfl; rfl; rfl; exact qA; apply stp_pur; apply s_len; rfl; exact el_22)); all_goals (first | (apply ol_gskip; rfl; rfl; exact qA; rfl) | (apply ol_gval; rfl; rfl; rfl; exact qA; apply stp_cmp; apply s_lss; rfl; rfl; all_goals (intro hc51; try (exfalso; (first | exact hc51 rfl | omega))))); all_goals (apply ol_val; rfl; apply stp_pur; first | (apply s_pick_t; rfl; exact qA; rfl) | (apply s_pick_f; rfl; exact qA; rfl)); all_goals (apply ol_as; rfl; rfl); all_goals (apply ol_nil))
        | (refine cw_region_id 9 ?_; (apply ol_mv; rfl; rfl); (apply ol_val; rfl; apply stp_cmp; apply s_eql; rfl; rfl; all_goals (intro hc56; try (exfalso; (first | exact hc56 rfl | omega)))); all_goals (apply ol_as; rfl; rfl); all_goals (apply ol_nil))
        | (refine cw_region_id 11 ?_; (apply ol_mv; rfl; rfl); (apply ol_val; rfl; apply stp_pur; apply s_slice; rfl; exact el_22; exact sz_5; rfl; exact (show bnd _ _ _ 4 from Exists.intro _ rfl); rfl; (intro h; first | rfl | cases h); exact qO; exact qO; exact qO); (apply ol_val; rfl; apply s_callv; rfl; exact gf_50; (intro w' hw'; exact k4 w' hw'.le)); (apply ol_val; rfl; apply stp_pur; first | (apply s_conv; rfl; rfl; exact ti_3; (focus (apply wrap_i64; omega))) | (apply s_conv; rfl; rfl; exact ti_3; exact wrap_i64 (by omega)) | (apply s_conv; rfl; rfl; exact ti_3; rfl)); (apply ol_as; rfl; rfl); (apply ol_nil))
        | (refine cw_region_id 12 ?_; (apply ol_mv; rfl; rfl); (apply ol_val; rfl; apply stp_pur; apply s_slice; rfl; exact el_22; exact sz_5; exact (show bnd _ _ _ 4 from Exists.intro _ rfl); rfl; rfl; (intro h; first | rfl | cases h); exact qO; exact qO; exact qO); (apply ol_as; rfl; rfl); (apply ol_nil))
        | (refine cw_region_id 13 ?_; (apply ol_mv; rfl; rfl); (apply ol_val; rfl; apply stp_cmp; apply s_eql; rfl; rfl; all_goals (intro hc72; try (exfalso; (first | exact hc72 rfl | omega)))); all_goals (apply ol_nil))
        | (refine cw_region_id 14 ?_; (apply ol_mv; rfl; rfl); (apply ol_val; rfl; apply stp_pur; apply s_len; rfl; exact el_22); (apply ol_mv; rfl; rfl); (apply ol_val; rfl; apply stp_cmp; apply s_lss; rfl; rfl; all_goals (intro hc76; try (exfalso; (first | exact hc76 rfl | omega)))); all_goals (apply ol_nil))
        | (refine cw_region_id 15 ?_; (apply ol_val; rfl; apply stp_pur; apply s_buildS; rfl; exact fs_25; exact zb_25; exact qR); (apply ol_eff; apply s_storeN; rfl; rfl; exact sz_25; rfl; rfl; exact qN; exact qN); (apply ol_as; rfl; rfl); (apply ol_as; rfl; rfl); (apply ol_nil))
        | (apply cw_cond_true; rfl; exact qA)
        | (apply cw_cond_false; rfl; exact qA)
        | apply cw_skip
        | apply cw_ret
        | apply cw_block
        | apply cw_exit
      all_goals
        refine endsW [] [] View.nil (RVal.cellN rfl rfl rfl (RdN.own (by (repeat (first | exact Has.here | apply Has.there))) (by focus ((repeat (first | rfl | constructor)); done))) (RVal.tmp rfl (RVal.tmp rfl RVal.nil))) Pick.nil (View.nil_le _) (View.freshM_nil _ _) (fun F _ _ => ?_)
        exact RdR.err (e := 4) hre (by decide)
    · have hre : rdE d (2 :: r) = (0, (r.drop 4).drop N) := by unfold rdE; rw [if_neg (by omega), if_neg (by omega), if_neg (by omega), if_pos rfl, hN, if_neg (by omega)]
      have hvt := hv5.take (k := N) (by omega)
      have hvd := hv5.drop (k := N) (by omega)
      obtain ⟨⟨tb, to, ts⟩, htl, htc, htb⟩ := hvt
      have hsplit : r.drop 4 = (r.drop 4).take N ++ (r.drop 4).drop N := (List.take_append_drop N _).symm
      have hall := SlA.all (eK_length .u8) ts
      rw [htl] at hall
      generalize hxs : (r.drop 4).take N = xs at *
      generalize (r.drop 4).drop N = rest at *
      refine cw_none 5 ?_
      repeat' first
        | apply cw_seq
        | (refine cw_region_id 0 ?_; (apply ol_val; rfl; apply s_alloc; exact zb_25; exact qN; intro bk4); (apply ol_as; rfl; rfl); (apply ol_as; rfl; rfl); (apply ol_nil))
        | (refine cw_region_id 1 ?_; (apply ol_mv; rfl; rfl); (apply ol_val; rfl; apply stp_pur; apply s_len; rfl; exact el_22); (apply ol_val; rfl; apply stp_cmp; apply s_eql; rfl; rfl; all_goals (intro hc16; try (exfalso; (first | exact hc16 rfl | omega)))); all_goals (apply ol_nil))
        | (refine cw_region_id 3 ?_; (apply ol_mv; rfl; rfl); (apply ol_val; rfl; apply stp_pur; first | (apply s_indexK; rfl; rfl; exact el_22; exact sz_5; (first | rfl | exact s0.at_ (by rw [List.length_cons]; omega) | exact ts.at_ (by omega)); omega) | (apply s_indexO; rfl; rfl; exact el_22; exact sz_5; (first | rfl | exact s0.at_ (by rw [List.length_cons]; omega) | exact ts.at_ (by omega)); omega)); (apply ol_ld; rfl; rfl; rfl; (first | exact qP | (apply RdN.view; exact hc0))); (apply ol_val; rfl; apply stp_pur; first | (apply s_conv; rfl; rfl; exact ti_3; (focus (apply wrap_i64; omega))) | (apply s_conv; rfl; rfl; exact ti_3; exact wrap_i64 (by omega)) | (apply s_conv; rfl; rfl; exact ti_3; rfl)); (apply ol_as; rfl; rfl); (apply ol_nil))
        | (refine cw_region_id 4 ?_; (apply ol_mv; rfl; rfl); (apply ol_val; rfl; apply stp_pur; apply s_slice; rfl; exact el_22; exact sz_5; (first | exact (show bnd _ _ _ 1 from Exists.intro _ rfl) | exact ⟨.i64, rfl⟩); rfl; rfl; (intro h; first | rfl | cases h); exact qO; exact qO; exact qO); (apply ol_as; rfl; rfl); (apply ol_nil))
        | (refine cw_region_id 5 ?_; (apply ol_mv; rfl; rfl); (apply ol_val; rfl; apply stp_cmp; apply s_lss; rfl; rfl; all_goals (intro hc26; try (exfalso; (first | exact hc26 rfl | omega)))); all_goals (apply ol_mv; rfl; rfl); all_goals (first | (apply ol_gskip; rfl; rfl; exact qA; rfl) | (apply ol_gval; rfl; rfl; rfl; exact qA; apply stp_pur; apply s_move; rfl)); all_goals (first | (apply ol_gskip; rfl; rfl; exact qA; rfl) | (apply ol_gval; rfl; rfl; rfl; exact qA; apply stp_cmp; apply s_gtr; rfl; rfl; all_goals (intro hc29; try (exfalso; (first | exact hc29 rfl | omega))))); all_goals (apply ol_val; rfl; apply stp_pur; first | (apply s_pick_t; rfl; exact qA; rfl) | (apply s_pick_f; rfl; exact qA; rfl)); all_goals (apply ol_mv; rfl; rfl); all_goals (first | (apply ol_gskip; rfl; rfl; exact qA; rfl) | (apply ol_gval; rfl; rfl; rfl; exact qA; apply stp_pur; apply s_move; rfl)); all_goals (first | (apply ol_gskip; rfl; rfl; exact qA; rfl) | (apply ol_gval; rfl; rfl; rfl; exact qA; apply stp_cmp; apply s_eql; rfl; rfl; all_goals (intro hc33; try (exfalso; (first | exact hc33 rfl | omega))))); all_goals (first | (apply ol_gskip; rfl; rfl; exact qA; rfl) | (apply ol_gval; rfl; rfl; rfl; exact qA; apply stp_pur; apply s_move; rfl)); all_goals (first | (apply ol_gskip; rfl; rfl; exact qA; rfl) | (apply ol_gskipu; rfl; rfl; rfl) | (apply ol_gval; rfl; rfl; rfl; exact qA; apply stp_pur; apply s_move; rfl)); all_goals (first | (apply ol_gskip; rfl; rfl; exact qA; rfl) | (apply ol_gskipu; rfl; rfl; rfl) | (apply ol_gval; rfl; rfl; rfl; exact qA; apply stp_cmp; apply s_eql; rfl; rfl; all_goals (intro hc36; try (exfalso; (first | exact hc36 rfl | omega))))); all_goals (first | (apply ol_gskip; rfl; rfl; exact qA; rfl) | (apply ol_gval; rfl; rfl; rfl; exact qA; apply stp_pur; first | (apply s_pick_t; rfl; exact qA; rfl) | (apply s_pick_f; rfl; exact qA; rfl))); all_goals (apply ol_val; rfl; apply stp_pur; first | (apply s_pick_t; rfl; exact qA; rfl) | (apply s_pick_f; rfl; exact qA; rfl)); all_goals (apply ol_as; rfl; rfl); all_goals (apply ol_nil))
        | (refine cw_region_id 7 ?_; (apply ol_mv; rfl; rfl); (apply ol_val; rfl; apply stp_cmp; apply s_eql; rfl; rfl; all_goals (intro hc42; try (exfalso; (first | exact hc42 rfl | omega)))); all_goals (apply ol_mv; rfl; rfl); all_goals (first | (apply ol_gskip; rfl; rfl; exact qA; rfl) | (apply ol_gval; rfl; rfl; rfl; exact qA; apply stp_pur; apply s_move; rfl)); all_goals (first | (apply ol_gskip; rfl; rfl; exact qA; rfl) | (apply ol_gval; rfl; rfl; rfl; exact qA; apply stp_pur; apply s_len; rfl; exact el_22)); all_goals (first | (apply ol_gskip; rfl; rfl; exact qA; rfl) | (apply ol_gval; rfl; rfl; rfl; exact qA; apply stp_cmp; apply s_lss; rfl; rfl; all_goals (intro hc46; try (exfalso; (first | exact hc46 rfl | omega))))); all_goals (apply ol_val; rfl; apply stp_pur; first | (apply s_pick_t; rfl; exact qA; rfl) | (apply s_pick_f; rfl; exact qA; rfl)); all_goals (apply ol_mv; rfl; rfl); all_goals (first | (apply ol_gskip; rfl; rfl; exact qA; rfl) | (apply ol_gval; rfl; rfl; rfl; exact qA; apply stp_pur; apply s_move; rfl)); all_goals (first | (apply ol_gskip; rfl; rfl; exact qA; rfl) | (apply ol_gval; rfl; rfl; rfl; exact qA; apply stp_pur; apply s_len; rfl; exact el_22)); all_goals (first | (apply ol_gskip; rfl; rfl; exact qA; rfl) | (apply ol_gval; rfl; rfl; rfl; exact qA; apply stp_cmp; apply s_lss; rfl; rfl; all_goals (intro hc51; try (exfalso; (first | exact hc51 rfl | omega))))); all_goals (apply ol_val; rfl; apply stp_pur; first | (apply s_pick_t; rfl; exact qA; rfl) | (apply s_pick_f; rfl; exact qA; rfl)); all_goals (apply ol_as; rfl; rfl); all_goals (apply ol_nil))
        | (refine cw_region_id 9 ?_; (apply ol_mv; rfl; rfl); (apply ol_val; rfl; apply stp_cmp; apply s_eql; rfl; rfl; all_goals (intro hc56; try (exfalso; (first | exact hc56 rfl | omega)))); all_goals (apply ol_as; rfl; rfl); all_goals (apply ol_nil))
        | (refine cw_region_id 11 ?_; (apply ol_mv; rfl; rfl); (apply ol_val; rfl; apply stp_pur; apply s_slice; rfl; exact el_22; exact sz_5; rfl; (first | exact (show bnd _ _ _ 4 from Exists.intro _ rfl) | exact ⟨.i64, rfl⟩); rfl; (intro h; first | rfl | cases h); exact qO; exact qO; exact qO); (apply ol_val; rfl; apply s_callv; rfl; exact gf_50; (intro w' hw'; exact k4 w' hw'.le)); (apply ol_val; rfl; apply stp_pur; first | (apply s_conv; rfl; rfl; exact ti_3; (focus (apply wrap_i64; omega))) | (apply s_conv; rfl; rfl; exact ti_3; exact wrap_i64 (by omega)) | (apply s_conv; rfl; rfl; exact ti_3; rfl)); (apply ol_as; rfl; rfl); (apply ol_nil))
        | (refine cw_region_id 12 ?_; (apply ol_mv; rfl; rfl); (apply ol_val; rfl; apply stp_pur; apply s_slice; rfl; exact el_22; exact sz_5; (first | exact (show bnd _ _ _ 4 from Exists.intro _ rfl) | exact ⟨.i64, rfl⟩); rfl; rfl; (intro h; first | rfl | cases h); exact qO; exact qO; exact qO); (apply ol_as; rfl; rfl); (apply ol_nil))
        | (refine cw_region_id 13 ?_; (apply ol_mv; rfl; rfl); (apply ol_val; rfl; apply stp_cmp; apply s_eql; rfl; rfl; all_goals (intro hc72; try (exfalso; (first | exact hc72 rfl | omega)))); all_goals (apply ol_nil))
        | (refine cw_region_id 14 ?_; (apply ol_mv; rfl; rfl); (apply ol_val; rfl; apply stp_pur; apply s_len; rfl; exact el_22); (apply ol_mv; rfl; rfl); (apply ol_val; rfl; apply stp_cmp; apply s_lss; rfl; rfl; all_goals (intro hc76; try (exfalso; (first | exact hc76 rfl | omega)))); all_goals (apply ol_nil))
        | (refine cw_isreg 16 ?_; refine cw_draw (id := 16) 13 (.mv 0 (.mv 2 (.mv 3 (.mv 4 (.mv 7 (.mv 8 (.mv 9 (.fx 1 (.fx 5 (.mv 6 (.fx 10 (.mv 11 (.mv 12 (PT.nil)))))))))))))) mixed (by kernel_rfl) ?_; (apply od_mv; rfl; rfl; apply s_move; rfl); (apply od_mv; rfl; rfl; apply s_move; rfl); (apply od_mv; rfl; rfl; apply s_move; rfl); (apply od_mv; rfl; rfl; apply s_slice; rfl; exact el_22; exact sz_5; rfl; (first | exact ⟨.i64, rfl⟩ | exact Exists.intro _ rfl); rfl; (intro h; first | rfl | cases h); exact qO; exact qO; exact qO); (apply od_mv; rfl; rfl; apply s_move; rfl); (apply od_mv; rfl; rfl; apply s_move; rfl); (apply od_mv; rfl; rfl; apply s_slice; rfl; exact el_22; exact sz_5; (first | exact ⟨.i64, rfl⟩ | exact Exists.intro _ rfl); rfl; rfl; (intro h; first | rfl | cases h); exact qO; exact qO; exact qO); (apply od_fx; (first | exact Wk.refl _ _ | exact qW); (apply fx_val; rfl; rfl; apply s_buildSl; rfl; exact el_22; exact sz_5; exact zb_5; exact qN; rfl; rfl; (exact Nat.le_of_ble_eq_true rfl); exact qN; exact qR; intro bk79)); (apply od_fx; (first | exact Wk.refl _ _ | exact qW); (apply fx_val; rfl; rfl; first | (apply s_append_e; rfl; rfl; exact qN; exact el_22; exact sz_5; exact zb_5; rfl; exact by_5; (first | exact (fun _ => rfl) | (intro _; exact s0.at_ (by rw [List.length_cons]; omega)) | (intro _; exact ts.at_ (by omega))); (first | exact qQ | (apply RdN.view; exact hall)); (first | rfl | exact flatK_ones); exact qO; exact qO; intro rk83 sk83 ck83 ok83) | (apply s_append_r; rfl; rfl; exact qN; (first | rfl | exact (List.append_nil _).symm); exact el_22; exact sz_5; exact zb_5; rfl; exact by_5; (first | exact SO.nil _ | assumption | (exact ⟨by simp, by simp, Nat.le_refl _, by simp⟩)); (first | exact (fun _ => rfl) | (intro _; exact s0.at_ (by rw [List.length_cons]; omega)) | (intro _; exact ts.at_ (by omega))); (first | exact qQ | (apply RdN.view; exact hall)); (first | rfl | exact flatK_ones); exact qO; exact qO; intro rk83 sk83 ck83 ok83) | (apply s_append_b; rfl; rfl; exact qN; (first | rfl | exact (List.append_nil _).symm); exact el_22; exact sz_5; exact zb_5; rfl; exact by_5; (first | exact SO.nil _ | assumption | (exact ⟨by simp, by simp, Nat.le_refl _, by simp⟩)); (first | exact (fun _ => rfl) | (intro _; exact s0.at_ (by rw [List.length_cons]; omega)) | (intro _; exact ts.at_ (by omega))); (first | exact qQ | (apply RdN.view; exact hall)); (first | rfl | exact flatK_ones); exact qO; exact qO; intro rk83 sk83 ck83 ok83) | (apply s_append_n; rfl; rfl; exact qN; exact el_22; exact sz_5; exact zb_5; rfl; exact by_5; (first | exact (fun _ => rfl) | (intro _; exact s0.at_ (by rw [List.length_cons]; omega)) | (intro _; exact ts.at_ (by omega))); (first | exact qQ | (apply RdN.view; exact hall)); (first | rfl | exact flatK_ones); exact qO; exact qO; intro rk83 sk83 ck83 ok83))); (apply od_mv; rfl; rfl; apply s_buildS; rfl; exact fs_25; exact zb_25; exact qR); (apply od_fx; (first | exact Wk.refl _ _ | exact qW); (apply fx_eff; rfl; apply s_storeN; rfl; rfl; exact sz_25; rfl; rfl; exact qN; exact qN)); (apply od_mv; rfl; rfl; apply s_assign; rfl); (apply od_mv; rfl; rfl; apply s_assign; rfl); (apply od_nil; (first | exact Wk.refl _ _ | exact qW)); (apply ol_nil))
        | (refine cw_isreg 16 ?_; refine cw_drawW (id := 16) (own0 := []) 13 (.mv 0 (.mv 2 (.mv 3 (.mv 4 (.mv 7 (.mv 8 (.mv 9 (.fx 1 (.fx 5 (.mv 6 (.fx 10 (.mv 11 (.mv 12 (PT.nil)))))))))))))) mixed (by kernel_rfl) (by (first | exact Wk.refl _ _ | exact qW)) ?_; (apply od_mv; rfl; rfl; apply s_move; rfl); (apply od_mv; rfl; rfl; apply s_move; rfl); (apply od_mv; rfl; rfl; apply s_move; rfl); (apply od_mv; rfl; rfl; apply s_slice; rfl; exact el_22; exact sz_5; rfl; (first | exact ⟨.i64, rfl⟩ | exact Exists.intro _ rfl); rfl; (intro h; first | rfl | cases h); exact qO; exact qO; exact qO); (apply od_mv; rfl; rfl; apply s_move; rfl); (apply od_mv; rfl; rfl; apply s_move; rfl); (apply od_mv; rfl; rfl; apply s_slice; rfl; exact el_22; exact sz_5; (first | exact ⟨.i64, rfl⟩ | exact Exists.intro _ rfl); rfl; rfl; (intro h; first | rfl | cases h); exact qO; exact qO; exact qO); (apply od_fx; (first | exact Wk.refl _ _ | exact qW); (apply fx_val; rfl; rfl; apply s_buildSl; rfl; exact el_22; exact sz_5; exact zb_5; exact qN; rfl; rfl; (exact Nat.le_of_ble_eq_true rfl); exact qN; exact qR; intro bk79)); (apply od_fx; (first | exact Wk.refl _ _ | exact qW); (apply fx_val; rfl; rfl; first | (apply s_append_e; rfl; rfl; exact qN; exact el_22; exact sz_5; exact zb_5; rfl; exact by_5; (first | exact (fun _ => rfl) | (intro _; exact s0.at_ (by rw [List.length_cons]; omega)) | (intro _; exact ts.at_ (by omega))); (first | exact qQ | (apply RdN.view; exact hall)); (first | rfl | exact flatK_ones); exact qO; exact qO; intro rk83 sk83 ck83 ok83) | (apply s_append_r; rfl; rfl; exact qN; (first | rfl | exact (List.append_nil _).symm); exact el_22; exact sz_5; exact zb_5; rfl; exact by_5; (first | exact SO.nil _ | assumption | (exact ⟨by simp, by simp, Nat.le_refl _, by simp⟩)); (first | exact (fun _ => rfl) | (intro _; exact s0.at_ (by rw [List.length_cons]; omega)) | (intro _; exact ts.at_ (by omega))); (first | exact qQ | (apply RdN.view; exact hall)); (first | rfl | exact flatK_ones); exact qO; exact qO; intro rk83 sk83 ck83 ok83) | (apply s_append_b; rfl; rfl; exact qN; (first | rfl | exact (List.append_nil _).symm); exact el_22; exact sz_5; exact zb_5; rfl; exact by_5; (first | exact SO.nil _ | assumption | (exact ⟨by simp, by simp, Nat.le_refl _, by simp⟩)); (first | exact (fun _ => rfl) | (intro _; exact s0.at_ (by rw [List.length_cons]; omega)) | (intro _; exact ts.at_ (by omega))); (first | exact qQ | (apply RdN.view; exact hall)); (first | rfl | exact flatK_ones); exact qO; exact qO; intro rk83 sk83 ck83 ok83) | (apply s_append_n; rfl; rfl; exact qN; exact el_22; exact sz_5; exact zb_5; rfl; exact by_5; (first | exact (fun _ => rfl) | (intro _; exact s0.at_ (by rw [List.length_cons]; omega)) | (intro _; exact ts.at_ (by omega))); (first | exact qQ | (apply RdN.view; exact hall)); (first | rfl | exact flatK_ones); exact qO; exact qO; intro rk83 sk83 ck83 ok83))); (apply od_mv; rfl; rfl; apply s_buildS; rfl; exact fs_25; exact zb_25; exact qR); (apply od_fx; (first | exact Wk.refl _ _ | exact qW); (apply fx_eff; rfl; apply s_storeN; rfl; rfl; exact sz_25; rfl; rfl; exact qN; exact qN)); (apply od_mv; rfl; rfl; apply s_assign; rfl); (apply od_mv; rfl; rfl; apply s_assign; rfl); (apply od_nil; (first | exact Wk.refl _ _ | exact qW)); (apply ol_nil))
        | (apply cw_cond_true; rfl; exact qA)
        | (apply cw_cond_false; rfl; exact qA)
        | apply cw_skip
        | apply cw_ret
        | apply cw_block
        | apply cw_exit
      all_goals
        refine endsW [] [⟨rk83, flat (eK .u8) xs ++ sk83, 5⟩] View.nil (RVal.cellN rfl rfl rfl (RdN.own (by (repeat (first | exact Has.here | apply Has.there))) (by focus ((repeat (first | rfl | constructor)); done))) (RVal.tmp rfl (RVal.tmp rfl RVal.nil))) (by exact qK) (View.nil_le _) (View.freshM_nil _ _) (fun F _ hz => ?_)
        refine ⟨rfl, _, _, _, 0, rest, mkL d ⟨2, 0, ⟨xs, base rk83 none, rk83.getD 0, 0, ck83⟩, none, 0, 0, 0, 0⟩, by rw [mkL_enc]; dsimp only; rw [htl]; rfl, hre, fun _ N' hM' hF' => ⟨hvd.mono hM', ItV.mkL ⟨(SlA.inV (eK_length .u8) (hz _ (List.Mem.head _)) (fun h => by have := ok83.empty h; exact List.length_eq_zero_iff.1 (by omega))).mono hF', htb, by dsimp only; omega, Nat.zero_le _⟩ rfl d, ?_, ?_⟩⟩
        · exact ⟨by rw [okI_mkL (by show (2 : Int) ≠ 3; omega)]; rfl, rgI_mkL (by dsimp only; omega) d⟩
        · rw [encI_mkL (by show (2 : Int) ≠ 3; omega)]
          show 2 :: r = 2 :: (bI 4 xs.length ++ xs) ++ rest
          rw [List.cons_append, List.append_assoc, ← hsplit, htl, Nat.sub_zero, hbi, List.take_append_drop]
end Go.Proofs.YtkkfgeekdaalmaaDoor
namespace Go.Proofs.YtkkfgeekdaalmaaDoor
set_option maxRecDepth 20000
set_option linter.unusedSimpArgs false
set_option linter.unusedVariables false
open Go Go.Fw
structure RlSt (d : Nat) where
  j : Nat
  a : Option Addr
  n : Nat
  c : Nat
  rest : List Int
  r : Option Nat
  A : Option Addr
  cap : Nat
  sp : List Value
  L : List (It d)
  F : View
def DecQ (l : List Int) (M : View) (v : Value) (F : View) (ys : List OB) : Prop := DecR l M v F ys
end Go.Proofs.YtkkfgeekdaalmaaDoor
namespace Go.Proofs.YtkkfgeekdaalmaaDoor
set_option maxRecDepth 20000
set_option linter.unusedSimpArgs false
set_option linter.unusedVariables false
open Go Go.Fw
attribute [local irreducible] CW OL OD FX Stp FnC FnV FnA FnM Ret bI encI okI numB rdE rdN
set_option maxHeartbeats 3200000
theorem read_list {M : View} {w : World} (hM : View.le M (View.of w)) {d wn : Nat} (hw : wn + (d + 1) = 8) {r : List Int} {a : Option Addr} {n c : Nat} (hv : BV M (3 :: r) a n c) (hn47 : n ≤ 16384)
    (ih : ∀ {M : View} {w : World}, View.le M (View.of w) → ∀ {l : List Int} {a : Option Addr} {n c : Nat}, BV M l a n c → n ≤ 16384 → FnM Tryd.prog 41 [.slice a n c, .int .i64 ((wn : Nat) + 1)] w [] (RdR d l M)) :
    FnM Tryd.prog 41 [.slice a n c, .int .i64 (wn : Nat)] w [] (RdR (d + 1) (3 :: r) M) := by
  have hn : 1 ≤ n := by have := hv.hn; rw [List.length_cons] at this; omega
  have hrl : r.length = n - 1 := by have := hv.hn; rw [List.length_cons] at this; omega
  have hcc := hv.hc
  have hv1 : BV M r (slicedA a 1 c 1) (n - 1) (c - 1) := hv.drop hn
  obtain ⟨⟨b0, o0, s0⟩, _, _, hb0⟩ := hv
  have hc0 := s0.cells 0 (by rw [List.length_cons]; omega)
  dsimp only [List.getElem_cons_zero] at hc0
  refine enterW (M := M) Tryd.func41 rfl rfl rfl rfl hM (fun _ h => by cases h) (fun _ h => by cases h) List.nodup_nil ?_
  generalize hmu : refs [] = mu
  refine cw_none 25 ?_
  by_cases h4 : r.length < 4
  · have hre : rdE (d + 1) (3 :: r) = (4, []) := by unfold rdE; rw [if_neg (by omega), if_pos (.inr h4)]
    repeat' first
      | apply cw_seq
      | (refine cw_region_id 0 ?_; (apply ol_val; rfl; apply s_alloc; exact zb_25; exact qN; intro bk4); (apply ol_as; rfl; rfl); (apply ol_as; rfl; rfl); (apply ol_nil))
      | (refine cw_region_id 1 ?_; (apply ol_mv; rfl; rfl); (apply ol_val; rfl; apply stp_pur; apply s_len; rfl; exact el_22); (apply ol_val; rfl; apply stp_cmp; apply s_eql; rfl; rfl; all_goals (intro hc16; try (exfalso; (first | exact hc16 rfl | omega)))); all_goals (apply ol_nil))
      | (refine cw_region_id 3 ?_; (apply ol_mv; rfl; rfl); (apply ol_val; rfl; apply stp_pur; first | (apply s_indexK; rfl; rfl; exact el_22; exact sz_5; (first | rfl | exact s0.at_ (by rw [List.length_cons]; omega)); omega) | (apply s_indexO; rfl; rfl; exact el_22; exact sz_5; (first | rfl | exact s0.at_ (by rw [List.length_cons]; omega)); omega)); (apply ol_ld; rfl; rfl; rfl; (first | exact qP | (apply RdN.view; exact hc0))); (apply ol_val; rfl; apply stp_pur; first | (apply s_conv; rfl; rfl; exact ti_3; (focus (apply wrap_i64; omega))) | (apply s_conv; rfl; rfl; exact ti_3; exact wrap_i64 (by omega)) | (apply s_conv; rfl; rfl; exact ti_3; rfl)); (apply ol_as; rfl; rfl); (apply ol_nil))
      | (refine cw_region_id 4 ?_; (apply ol_mv; rfl; rfl); (apply ol_val; rfl; apply stp_pur; apply s_slice; rfl; exact el_22; exact sz_5; exact (show bnd _ _ _ 1 from Exists.intro _ rfl); rfl; rfl; (intro h; first | rfl | cases h); exact qO; exact qO; exact qO); (apply ol_as; rfl; rfl); (apply ol_nil))
      | (refine cw_region_id 5 ?_; (apply ol_mv; rfl; rfl); (apply ol_val; rfl; apply stp_cmp; apply s_lss; rfl; rfl; all_goals (intro hc26; try (exfalso; (first | exact hc26 rfl | omega)))); all_goals (apply ol_mv; rfl; rfl); all_goals (first | (apply ol_gskip; rfl; rfl; exact qA; rfl) | (apply ol_gval; rfl; rfl; rfl; exact qA; apply stp_pur; apply s_move; rfl)); all_goals (first | (apply ol_gskip; rfl; rfl; exact qA; rfl) | (apply ol_gval; rfl; rfl; rfl; exact qA; apply stp_cmp; apply s_gtr; rfl; rfl; all_goals (intro hc29; try (exfalso; (first | exact hc29 rfl | omega))))); all_goals (apply ol_val; rfl; apply stp_pur; first | (apply s_pick_t; rfl; exact qA; rfl) | (apply s_pick_f; rfl; exact qA; rfl)); all_goals (apply ol_mv; rfl; rfl); all_goals (first | (apply ol_gskip; rfl; rfl; exact qA; rfl) | (apply ol_gval; rfl; rfl; rfl; exact qA; apply stp_pur; apply s_move; rfl)); all_goals (first | (apply ol_gskip; rfl; rfl; exact qA; rfl) | (apply ol_gval; rfl; rfl; rfl; exact qA; apply stp_cmp; apply s_eql; rfl; rfl; all_goals (intro hc33; try (exfalso; (first | exact hc33 rfl | omega))))); all_goals (first | (apply ol_gskip; rfl; rfl; exact qA; rfl) | (apply ol_gval; rfl; rfl; rfl; exact qA; apply stp_pur; apply s_move; rfl)); all_goals (first | (apply ol_gskip; rfl; rfl; exact qA; rfl) | (apply ol_gskipu; rfl; rfl; rfl) | (apply ol_gval; rfl; rfl; rfl; exact qA; apply stp_pur; apply s_move; rfl)); all_goals (first | (apply ol_gskip; rfl; rfl; exact qA; rfl) | (apply ol_gskipu; rfl; rfl; rfl) | (apply ol_gval; rfl; rfl; rfl; exact qA; apply stp_cmp; apply s_eql; rfl; rfl; all_goals (intro hc36; try (exfalso; (first | exact hc36 rfl | omega))))); all_goals (first | (apply ol_gskip; rfl; rfl; exact qA; rfl) | (apply ol_gval; rfl; rfl; rfl; exact qA; apply stp_pur; first | (apply s_pick_t; rfl; exact qA; rfl) | (apply s_pick_f; rfl; exact qA; rfl))); all_goals (apply ol_val; rfl; apply stp_pur; first | (apply s_pick_t; rfl; exact qA; rfl) | (apply s_pick_f; rfl; exact qA; rfl)); all_goals (apply ol_as; rfl; rfl); all_goals (apply ol_nil))
      | (refine cw_region_id 7 ?_; (apply ol_mv; rfl; rfl); (apply ol_val; rfl; apply stp_cmp; apply s_eql; rfl; rfl; all_goals (intro hc42; try (exfalso; (first | exact hc42 rfl | omega)))); all_goals (apply ol_mv; rfl; rfl); all_goals (first | (apply ol_gskip; rfl; rfl; exact qA; rfl) | (apply ol_gval; rfl; rfl; rfl; exact qA; apply stp_pur; apply s_move; rfl)); all_goals (first | (apply ol_gskip; rfl; rfl; exact qA; rfl) | (apply ol_gval; rfl; rfl; rfl; exact qA; apply stp_pur; apply s_len; rfl; exact el_22)); all_goals (first | (apply ol_gskip; rfl; rfl; exact qA; rfl) | (apply ol_gval; rfl; rfl; rfl; exact qA; apply stp_cmp; apply s_lss; rfl; rfl; all_goals (intro hc46; try (exfalso; (first | exact hc46 rfl | omega))))); all_goals (apply ol_val; rfl; apply stp_pur; first | (apply s_pick_t; rfl; exact qA; rfl) | (apply s_pick_f; rfl; exact qA; rfl)); all_goals (apply ol_mv; rfl; rfl); all_goals (first | (apply ol_gskip; rfl; rfl; exact qA; rfl) | (apply ol_gval; rfl; rfl; rfl; exact qA; apply stp_pur; apply s_move; rfl)); all_goals (first | (apply ol_gskip; rfl; rfl; exact qA; rfl) | (apply ol_gval; rfl; rfl; rfl; exact qA; apply stp_pur; apply s_len; rfl; exact el_22)); all_goals (first | (apply ol_gskip; rfl; rfl; exact qA; rfl) | (apply ol_gval; rfl; rfl; rfl; exact qA; apply stp_cmp; apply s_lss; rfl; rfl; all_goals (intro hc51; try (exfalso; (first | exact hc51 rfl | omega))))); all_goals (apply ol_val; rfl; apply stp_pur; first | (apply s_pick_t; rfl; exact qA; rfl) | (apply s_pick_f; rfl; exact qA; rfl)); all_goals (apply ol_as; rfl; rfl); all_goals (apply ol_nil))
      | (refine cw_region_id 8 ?_; (apply ol_val; rfl; apply stp_pur; apply s_buildS; rfl; exact fs_25; exact zb_25; exact qR); (apply ol_eff; apply s_storeN; rfl; rfl; exact sz_25; rfl; rfl; exact qN; exact qN); (apply ol_as; rfl; rfl); (apply ol_as; rfl; rfl); (apply ol_nil))
      | (apply cw_cond_true; rfl; exact qA)
      | (apply cw_cond_false; rfl; exact qA)
      | apply cw_skip
      | apply cw_ret
      | apply cw_block
      | apply cw_exit
    all_goals
      refine endsW [] [] View.nil (RVal.cellN rfl rfl rfl (RdN.own (by (repeat (first | exact Has.here | apply Has.there))) (by focus ((repeat (first | rfl | constructor)); done))) (RVal.tmp rfl (RVal.tmp rfl RVal.nil))) Pick.nil (View.nil_le _) (View.freshM_nil _ _) (fun F _ _ => ?_)
      exact RdR.err (e := 4) hre (by decide)
  · have hv4 := hv1.take (k := 4) (by omega)
    have k4 := fun (w' : World) (h : View.le M (View.of w')) => value_spec h hv4 (by omega)
    have hv5 := hv1.drop (k := 4) (by omega)
    have ht4 : (r.take 4).length = 4 := by rw [List.length_take]; omega
    have hb4 : ∀ x ∈ r.take 4, 0 ≤ x ∧ x ≤ 255 := fun x hx => hv1.hb x (List.mem_of_mem_take hx)
    have hlt := numB_lt hb4
    have hbi := bI_numB hb4
    rw [ht4] at hlt hbi
    have h44 : (256 : Nat) ^ 4 = 4294967296 := by decide
    rw [h44] at hlt
    generalize hN : numB (r.take 4) = N at *
    by_cases hN2 : 1000 < N
    · have hre : rdE (d + 1) (3 :: r) = (3, []) := by unfold rdE; rw [if_neg (by omega), if_neg (by omega), if_neg (by omega), if_neg (by omega), hN, if_pos hN2]
      repeat' first
        | apply cw_seq
        | (refine cw_region_id 0 ?_; (apply ol_val; rfl; apply s_alloc; exact zb_25; exact qN; intro bk4); (apply ol_as; rfl; rfl); (apply ol_as; rfl; rfl); (apply ol_nil))
        | (refine cw_region_id 1 ?_; (apply ol_mv; rfl; rfl); (apply ol_val; rfl; apply stp_pur; apply s_len; rfl; exact el_22); (apply ol_val; rfl; apply stp_cmp; apply s_eql; rfl; rfl; all_goals (intro hc16; try (exfalso; (first | exact hc16 rfl | omega)))); all_goals (apply ol_nil))
        | (refine cw_region_id 3 ?_; (apply ol_mv; rfl; rfl); (apply ol_val; rfl; apply stp_pur; first | (apply s_indexK; rfl; rfl; exact el_22; exact sz_5; (first | rfl | exact s0.at_ (by rw [List.length_cons]; omega)); omega) | (apply s_indexO; rfl; rfl; exact el_22; exact sz_5; (first | rfl | exact s0.at_ (by rw [List.length_cons]; omega)); omega)); (apply ol_ld; rfl; rfl; rfl; (first | exact qP | (apply RdN.view; exact hc0))); (apply ol_val; rfl; apply stp_pur; first | (apply s_conv; rfl; rfl; exact ti_3; (focus (apply wrap_i64; omega))) | (apply s_conv; rfl; rfl; exact ti_3; exact wrap_i64 (by omega)) | (apply s_conv; rfl; rfl; exact ti_3; rfl)); (apply ol_as; rfl; rfl); (apply ol_nil))
        | (refine cw_region_id 4 ?_; (apply ol_mv; rfl; rfl); (apply ol_val; rfl; apply stp_pur; apply s_slice; rfl; exact el_22; exact sz_5; exact (show bnd _ _ _ 1 from Exists.intro _ rfl); rfl; rfl; (intro h; first | rfl | cases h); exact qO; exact qO; exact qO); (apply ol_as; rfl; rfl); (apply ol_nil))
        | (refine cw_region_id 5 ?_; (apply ol_mv; rfl; rfl); (apply ol_val; rfl; apply stp_cmp; apply s_lss; rfl; rfl; all_goals (intro hc26; try (exfalso; (first | exact hc26 rfl | omega)))); all_goals (apply ol_mv; rfl; rfl); all_goals (first | (apply ol_gskip; rfl; rfl; exact qA; rfl) | (apply ol_gval; rfl; rfl; rfl; exact qA; apply stp_pur; apply s_move; rfl)); all_goals (first | (apply ol_gskip; rfl; rfl; exact qA; rfl) | (apply ol_gval; rfl; rfl; rfl; exact qA; apply stp_cmp; apply s_gtr; rfl; rfl; all_goals (intro hc29; try (exfalso; (first | exact hc29 rfl | omega))))); all_goals (apply ol_val; rfl; apply stp_pur; first | (apply s_pick_t; rfl; exact qA; rfl) | (apply s_pick_f; rfl; exact qA; rfl)); all_goals (apply ol_mv; rfl; rfl); all_goals (first | (apply ol_gskip; rfl; rfl; exact qA; rfl) | (apply ol_gval; rfl; rfl; rfl; exact qA; apply stp_pur; apply s_move; rfl)); all_goals (first | (apply ol_gskip; rfl; rfl; exact qA; rfl) | (apply ol_gval; rfl; rfl; rfl; exact qA; apply stp_cmp; apply s_eql; rfl; rfl; all_goals (intro hc33; try (exfalso; (first | exact hc33 rfl | omega))))); all_goals (first | (apply ol_gskip; rfl; rfl; exact qA; rfl) | (apply ol_gval; rfl; rfl; rfl; exact qA; apply stp_pur; apply s_move; rfl)); all_goals (first | (apply ol_gskip; rfl; rfl; exact qA; rfl) | (apply ol_gskipu; rfl; rfl; rfl) | (apply ol_gval; rfl; rfl; rfl; exact qA; apply stp_pur; apply s_move; rfl)); all_goals (first | (apply ol_gskip; rfl; rfl; exact qA; rfl) | (apply ol_gskipu; rfl; rfl; rfl) | (apply ol_gval; rfl; rfl; rfl; exact qA; apply stp_cmp; apply s_eql; rfl; rfl; all_goals (intro hc36; try (exfalso; (first | exact hc36 rfl | omega))))); all_goals (first | (apply ol_gskip; rfl; rfl; exact qA; rfl) | (apply ol_gval; rfl; rfl; rfl; exact qA; apply stp_pur; first | (apply s_pick_t; rfl; exact qA; rfl) | (apply s_pick_f; rfl; exact qA; rfl))); all_goals (apply ol_val; rfl; apply stp_pur; first | (apply s_pick_t; rfl; exact qA; rfl) | (apply s_pick_f; rfl; exact qA; rfl)); all_goals (apply ol_as; rfl; rfl); all_goals (apply ol_nil))
        | (refine cw_region_id 7 ?_; (apply ol_mv; rfl; rfl); (apply ol_val; rfl; apply stp_cmp; apply s_eql; rfl; rfl; all_goals (intro hc42; try (exfalso; (first | exact hc42 rfl | omega)))); all_goals (apply ol_mv; rfl; rfl); all_goals (first | (apply ol_gskip; rfl; rfl; exact qA; rfl) | (apply ol_gval; rfl; rfl; rfl; exact qA; apply stp_pur; apply s_move; rfl)); all_goals (first | (apply ol_gskip; rfl; rfl; exact qA; rfl) | (apply ol_gval; rfl; rfl; rfl; exact qA; apply stp_pur; apply s_len; rfl; exact el_22)); all_goals (first | (apply ol_gskip; rfl; rfl; exact qA; rfl) | (apply ol_gval; rfl; rfl; rfl; exact qA; apply stp_cmp; apply s_lss; rfl; rfl; all_goals (intro hc46; try (exfalso; (first | exact hc46 rfl | omega))))); all_goals (apply ol_val; rfl; apply stp_pur; first | (apply s_pick_t; rfl; exact qA; rfl) | (apply s_pick_f; rfl; exact qA; rfl)); all_goals (apply ol_mv; rfl; rfl); all_goals (first | (apply ol_gskip; rfl; rfl; exact qA; rfl) | (apply ol_gval; rfl; rfl; rfl; exact qA; apply stp_pur; apply s_move; rfl)); all_goals (first | (apply ol_gskip; rfl; rfl; exact qA; rfl) | (apply ol_gval; rfl; rfl; rfl; exact qA; apply stp_pur; apply s_len; rfl; exact el_22)); all_goals (first | (apply ol_gskip; rfl; rfl; exact qA; rfl) | (apply ol_gval; rfl; rfl; rfl; exact qA; apply stp_cmp; apply s_lss; rfl; rfl; all_goals (intro hc51; try (exfalso; (first | exact hc51 rfl | omega))))); all_goals (apply ol_val; rfl; apply stp_pur; first | (apply s_pick_t; rfl; exact qA; rfl) | (apply s_pick_f; rfl; exact qA; rfl)); all_goals (apply ol_as; rfl; rfl); all_goals (apply ol_nil))
        | (refine cw_region_id 9 ?_; (apply ol_mv; rfl; rfl); (apply ol_val; rfl; apply stp_cmp; apply s_eql; rfl; rfl; all_goals (intro hc56; try (exfalso; (first | exact hc56 rfl | omega)))); all_goals (apply ol_as; rfl; rfl); all_goals (apply ol_nil))
        | (refine cw_region_id 11 ?_; (apply ol_mv; rfl; rfl); (apply ol_val; rfl; apply stp_pur; apply s_slice; rfl; exact el_22; exact sz_5; rfl; exact (show bnd _ _ _ 4 from Exists.intro _ rfl); rfl; (intro h; first | rfl | cases h); exact qO; exact qO; exact qO); (apply ol_val; rfl; apply s_callv; rfl; exact gf_50; (intro w' hw'; exact k4 w' hw'.le)); (apply ol_val; rfl; apply stp_pur; first | (apply s_conv; rfl; rfl; exact ti_3; (focus (apply wrap_i64; omega))) | (apply s_conv; rfl; rfl; exact ti_3; exact wrap_i64 (by omega)) | (apply s_conv; rfl; rfl; exact ti_3; rfl)); (apply ol_as; rfl; rfl); (apply ol_nil))
        | (refine cw_region_id 12 ?_; (apply ol_mv; rfl; rfl); (apply ol_val; rfl; apply stp_pur; apply s_slice; rfl; exact el_22; exact sz_5; exact (show bnd _ _ _ 4 from Exists.intro _ rfl); rfl; rfl; (intro h; first | rfl | cases h); exact qO; exact qO; exact qO); (apply ol_as; rfl; rfl); (apply ol_nil))
        | (refine cw_region_id 13 ?_; (apply ol_mv; rfl; rfl); (apply ol_val; rfl; apply stp_cmp; apply s_eql; rfl; rfl; all_goals (intro hc72; try (exfalso; (first | exact hc72 rfl | omega)))); all_goals (apply ol_nil))
        | (refine cw_region_id 17 ?_; (apply ol_mv; rfl; rfl); (apply ol_val; rfl; apply stp_cmp; apply s_gtr; rfl; rfl; all_goals (intro hc89; try (exfalso; (first | exact hc89 rfl | omega)))); all_goals (apply ol_nil))
        | (refine cw_region_id 18 ?_; (apply ol_val; rfl; apply stp_pur; apply s_buildS; rfl; exact fs_25; exact zb_25; exact qR); (apply ol_eff; apply s_storeN; rfl; rfl; exact sz_25; rfl; rfl; exact qN; exact qN); (apply ol_as; rfl; rfl); (apply ol_as; rfl; rfl); (apply ol_nil))
        | (apply cw_cond_true; rfl; exact qA)
        | (apply cw_cond_false; rfl; exact qA)
        | apply cw_skip
        | apply cw_ret
        | apply cw_block
        | apply cw_exit
      all_goals
        refine endsW [] [] View.nil (RVal.cellN rfl rfl rfl (RdN.own (by (repeat (first | exact Has.here | apply Has.there))) (by focus ((repeat (first | rfl | constructor)); done))) (RVal.tmp rfl (RVal.tmp rfl RVal.nil))) Pick.nil (View.nil_le _) (View.freshM_nil _ _) (fun F _ _ => ?_)
        exact RdR.err (e := 3) hre (by decide)
    · have hre : rdE (d + 1) (3 :: r) = rdN (rdE d) N (r.drop 4) := by
        rw [rdE, if_neg (by omega), if_neg (by omega), if_neg (by omega), if_neg (by omega), hN, if_neg hN2]
      have hrs : r = r.take 4 ++ r.drop 4 := (List.take_append_drop 4 r).symm
      generalize r.drop 4 = r' at *
      repeat' first
        | apply cw_seq
        | (refine cw_region_id 0 ?_; (apply ol_val; rfl; apply s_alloc; exact zb_25; exact qN; intro bk4); (apply ol_as; rfl; rfl); (apply ol_as; rfl; rfl); (apply ol_nil))
        | (refine cw_region_id 1 ?_; (apply ol_mv; rfl; rfl); (apply ol_val; rfl; apply stp_pur; apply s_len; rfl; exact el_22); (apply ol_val; rfl; apply stp_cmp; apply s_eql; rfl; rfl; all_goals (intro hc16; try (exfalso; (first | exact hc16 rfl | omega)))); all_goals (apply ol_nil))
        | (refine cw_region_id 3 ?_; (apply ol_mv; rfl; rfl); (apply ol_val; rfl; apply stp_pur; first | (apply s_indexK; rfl; rfl; exact el_22; exact sz_5; (first | rfl | exact s0.at_ (by rw [List.length_cons]; omega)); omega) | (apply s_indexO; rfl; rfl; exact el_22; exact sz_5; (first | rfl | exact s0.at_ (by rw [List.length_cons]; omega)); omega)); (apply ol_ld; rfl; rfl; rfl; (first | exact qP | (apply RdN.view; exact hc0))); (apply ol_val; rfl; apply stp_pur; first | (apply s_conv; rfl; rfl; exact ti_3; (focus (apply wrap_i64; omega))) | (apply s_conv; rfl; rfl; exact ti_3; exact wrap_i64 (by omega)) | (apply s_conv; rfl; rfl; exact ti_3; rfl)); (apply ol_as; rfl; rfl); (apply ol_nil))
        | (refine cw_region_id 4 ?_; (apply ol_mv; rfl; rfl); (apply ol_val; rfl; apply stp_pur; apply s_slice; rfl; exact el_22; exact sz_5; exact (show bnd _ _ _ 1 from Exists.intro _ rfl); rfl; rfl; (intro h; first | rfl | cases h); exact qO; exact qO; exact qO); (apply ol_as; rfl; rfl); (apply ol_nil))
        | (refine cw_region_id 5 ?_; (apply ol_mv; rfl; rfl); (apply ol_val; rfl; apply stp_cmp; apply s_lss; rfl; rfl; all_goals (intro hc26; try (exfalso; (first | exact hc26 rfl | omega)))); all_goals (apply ol_mv; rfl; rfl); all_goals (first | (apply ol_gskip; rfl; rfl; exact qA; rfl) | (apply ol_gval; rfl; rfl; rfl; exact qA; apply stp_pur; apply s_move; rfl)); all_goals (first | (apply ol_gskip; rfl; rfl; exact qA; rfl) | (apply ol_gval; rfl; rfl; rfl; exact qA; apply stp_cmp; apply s_gtr; rfl; rfl; all_goals (intro hc29; try (exfalso; (first | exact hc29 rfl | omega))))); all_goals (apply ol_val; rfl; apply stp_pur; first | (apply s_pick_t; rfl; exact qA; rfl) | (apply s_pick_f; rfl; exact qA; rfl)); all_goals (apply ol_mv; rfl; rfl); all_goals (first | (apply ol_gskip; rfl; rfl; exact qA; rfl) | (apply ol_gval; rfl; rfl; rfl; exact qA; apply stp_pur; apply s_move; rfl)); all_goals (first | (apply ol_gskip; rfl; rfl; exact qA; rfl) | (apply ol_gval; rfl; rfl; rfl; exact qA; apply stp_cmp; apply s_eql; rfl; rfl; all_goals (intro hc33; try (exfalso; (first | exact hc33 rfl | omega))))); all_goals (first | (apply ol_gskip; rfl; rfl; exact qA; rfl) | (apply ol_gval; rfl; rfl; rfl; exact qA; apply stp_pur; apply s_move; rfl)); all_goals (first | (apply ol_gskip; rfl; rfl; exact qA; rfl) | (apply ol_gskipu; rfl; rfl; rfl) | (apply ol_gval; rfl; rfl; rfl; exact qA; apply stp_pur; apply s_move; rfl)); all_goals (first | (apply ol_gskip; rfl; rfl; exact qA; rfl) | (apply ol_gskipu; rfl; rfl; rfl) | (apply ol_gval; rfl; rfl; rfl; exact qA; apply stp_cmp; apply s_eql; rfl; rfl; all_goals (intro hc36; try (exfalso; (first | exact hc36 rfl | omega))))); all_goals (first | (apply ol_gskip; rfl; rfl; exact qA; rfl) | (apply ol_gval; rfl; rfl; rfl; exact qA; apply stp_pur; first | (apply s_pick_t; rfl; exact qA; rfl) | (apply s_pick_f; rfl; exact qA; rfl))); all_goals (apply ol_val; rfl; apply stp_pur; first | (apply s_pick_t; rfl; exact qA; rfl) | (apply s_pick_f; rfl; exact qA; rfl)); all_goals (apply ol_as; rfl; rfl); all_goals (apply ol_nil))
        | (refine cw_region_id 7 ?_; (apply ol_mv; rfl; rfl); (apply ol_val; rfl; apply stp_cmp; apply s_eql; rfl; rfl; all_goals (intro hc42; try (exfalso; (first | exact hc42 rfl | omega)))); all_goals (apply ol_mv; rfl; rfl); all_goals (first | (apply ol_gskip; rfl; rfl; exact qA; rfl) | (apply ol_gval; rfl; rfl; rfl; exact qA; apply stp_pur; apply s_move; rfl)); all_goals (first | (apply ol_gskip; rfl; rfl; exact qA; rfl) | (apply ol_gval; rfl; rfl; rfl; exact qA; apply stp_pur; apply s_len; rfl; exact el_22)); all_goals (first | (apply ol_gskip; rfl; rfl; exact qA; rfl) | (apply ol_gval; rfl; rfl; rfl; exact qA; apply stp_cmp; apply s_lss; rfl; rfl; all_goals (intro hc46; try (exfalso; (first | exact hc46 rfl | omega))))); all_goals (apply ol_val; rfl; apply stp_pur; first | (apply s_pick_t; rfl; exact qA; rfl) | (apply s_pick_f; rfl; exact qA; rfl)); all_goals (apply ol_mv; rfl; rfl); all_goals (first | (apply ol_gskip; rfl; rfl; exact qA; rfl) | (apply ol_gval; rfl; rfl; rfl; exact qA; apply stp_pur; apply s_move; rfl)); all_goals (first | (apply ol_gskip; rfl; rfl; exact qA; rfl) | (apply ol_gval; rfl; rfl; rfl; exact qA; apply stp_pur; apply s_len; rfl; exact el_22)); all_goals (first | (apply ol_gskip; rfl; rfl; exact qA; rfl) | (apply ol_gval; rfl; rfl; rfl; exact qA; apply stp_cmp; apply s_lss; rfl; rfl; all_goals (intro hc51; try (exfalso; (first | exact hc51 rfl | omega))))); all_goals (apply ol_val; rfl; apply stp_pur; first | (apply s_pick_t; rfl; exact qA; rfl) | (apply s_pick_f; rfl; exact qA; rfl)); all_goals (apply ol_as; rfl; rfl); all_goals (apply ol_nil))
        | (refine cw_region_id 9 ?_; (apply ol_mv; rfl; rfl); (apply ol_val; rfl; apply stp_cmp; apply s_eql; rfl; rfl; all_goals (intro hc56; try (exfalso; (first | exact hc56 rfl | omega)))); all_goals (apply ol_as; rfl; rfl); all_goals (apply ol_nil))
        | (refine cw_region_id 11 ?_; (apply ol_mv; rfl; rfl); (apply ol_val; rfl; apply stp_pur; apply s_slice; rfl; exact el_22; exact sz_5; rfl; exact (show bnd _ _ _ 4 from Exists.intro _ rfl); rfl; (intro h; first | rfl | cases h); exact qO; exact qO; exact qO); (apply ol_val; rfl; apply s_callv; rfl; exact gf_50; (intro w' hw'; exact k4 w' hw'.le)); (apply ol_val; rfl; apply stp_pur; first | (apply s_conv; rfl; rfl; exact ti_3; (focus (apply wrap_i64; omega))) | (apply s_conv; rfl; rfl; exact ti_3; exact wrap_i64 (by omega)) | (apply s_conv; rfl; rfl; exact ti_3; rfl)); (apply ol_as; rfl; rfl); (apply ol_nil))
        | (refine cw_region_id 12 ?_; (apply ol_mv; rfl; rfl); (apply ol_val; rfl; apply stp_pur; apply s_slice; rfl; exact el_22; exact sz_5; exact (show bnd _ _ _ 4 from Exists.intro _ rfl); rfl; rfl; (intro h; first | rfl | cases h); exact qO; exact qO; exact qO); (apply ol_as; rfl; rfl); (apply ol_nil))
        | (refine cw_region_id 13 ?_; (apply ol_mv; rfl; rfl); (apply ol_val; rfl; apply stp_cmp; apply s_eql; rfl; rfl; all_goals (intro hc72; try (exfalso; (first | exact hc72 rfl | omega)))); all_goals (apply ol_nil))
        | (refine cw_region_id 17 ?_; (apply ol_mv; rfl; rfl); (apply ol_val; rfl; apply stp_cmp; apply s_gtr; rfl; rfl; all_goals (intro hc89; try (exfalso; (first | exact hc89 rfl | omega)))); all_goals (apply ol_nil))
        | (refine cw_region_id 19 ?_; (apply ol_mv; rfl; rfl); (apply ol_val; rfl; apply stp_pur; apply s_buildS; rfl; exact fs_25; exact zb_25; exact qR); (apply ol_val; rfl; apply s_alloc; exact zb_25; exact qN; intro bk9); (apply ol_eff; apply s_storeN; rfl; rfl; exact sz_25; rfl; rfl; exact qN; exact qN); (apply ol_nil))
        | (refine cw_region_id 20 ?_; (apply ol_as; rfl; rfl); (apply ol_nil))
        | (apply cw_cond_true; rfl; exact qA)
        | (apply cw_cond_false; rfl; exact qA)
        | apply cw_skip
        | apply cw_ret
        | apply cw_block
        | apply cw_exit
      all_goals
        refine cw_loopK (σ := RlSt d) [1, 4, 8, 9] (by (repeat (first | exact Keep.nil | (apply Keep.cons; rfl)))) (fun s => [(0, .slice s.a s.n s.c), (10, .int .i64 s.j)]) (fun s => View.join s.F M) (fun s => [⟨some bk9, [.int .i64 3, .int .i64 0, .slice none 0 0, .slice (base s.r s.A) s.L.length s.cap], 25⟩, ⟨s.r, flat It.enc s.L ++ s.sp, 25⟩, ⟨some bk4, [.int .i64 0, .int .i64 0, .slice none 0 0, .slice none 0 0], 25⟩])
          (fun s => (s.j ≤ N ∧ s.L.length = s.j) ∧ SO s.r s.L.length s.cap (flat It.enc s.L) s.sp 4 ∧ (View.freshM s.F w mu ∧ View.le M (View.join s.F M)) ∧ (BV (View.join s.F M) s.rest s.a s.n s.c ∧ s.n ≤ 16384) ∧ (∀ x ∈ s.L, ItV (View.join s.F M) d x ∧ okR d x) ∧ r' = s.L.flatMap (encI d) ++ s.rest ∧ rdN (rdE d) (N - s.j) s.rest = rdN (rdE d) N r') (fun s => N - s.j)
          ⟨0, slicedA (slicedA a 1 c 1) 4 (c - 1) 1, n - 1 - 4, c - 1 - 4, r', none, none, 0, [], [], View.nil⟩ (by (repeat (first | exact trivial | refine And.intro rfl ?_))) (View.nil_join M) (by exact qK) ⟨⟨Nat.zero_le _, rfl⟩, SO.nil 4, ⟨View.freshM_nil _ _, View.join_nil _⟩, ⟨hv5.mono (View.join_nil _), by dsimp only; omega⟩, (fun _ h => by cases h), rfl, rfl⟩ ?_
        clear hv5 k4
        rintro ⟨j, a1, n1, c1, rest, rr, A, cap, sp, L, F⟩ ⟨⟨hj, hLj⟩, so, ⟨hF, hFM⟩, ⟨hvr, hnr⟩, hLi, hrr, hrN⟩
        dsimp only at hj hLj so hF hFM hvr hnr hLi hrr hrN ⊢
        by_cases hjN : j < N
        · have hI := fun (w' : World) (h : View.le (View.join F M) (View.of w')) => ih (l := rest) (a := a1) (n := n1) (c := c1) h hvr hnr
          have hst := fun {e2 : Nat} {rest2 : List Int} (h : rdE d rest = (e2, rest2)) => rdN_step (k := N - (j + 1)) h
          rw [show N - (j + 1) + 1 = N - j by omega, hrN] at hst
          have hrl2 : rest.length = n1 := hvr.hn
          repeat' first
            | apply cw_seq
            | (refine cw_region_id 21 ?_; (apply ol_mv; rfl; rfl); (apply ol_mv; rfl; rfl); (apply ol_val; rfl; apply stp_cmp; apply s_lss; rfl; rfl; all_goals (intro hc95; try (exfalso; (first | exact hc95 rfl | omega)))); all_goals (apply ol_nil))
            | (refine cw_region_id 23 ?_; (apply ol_mv; rfl; rfl); (apply ol_mv; rfl; rfl); (apply ol_val; rfl; apply stp_pur; apply s_add64; rfl; rfl; omega); (apply ol_val; rfl; apply s_callM (xs := []); rfl; exact gf_41; (focus ((repeat (first | exact Pk.nil | (apply Pk.cons; (repeat (first | exact Spl.here | apply Spl.there))))); done)); (intro w' M2 hw' hrd; exact hI w' hw'.le); (intro v F102 ys M102 h hl102 hL102 hF102; obtain ⟨rfl, a2, n2, c2, e2, rest2, x, rfl, hre2, hx2⟩ := h; have vj := VJ.mk' hFM hl102 hL102; have hFX := hF102; obtain ⟨xk, xn, xa, xl, xc, ya, yl, yc, hxe⟩ : ∃ xk xn xa xl xc ya yl yc, x.enc = [.int .i64 xk, .int .i64 xn, .slice xa xl xc, .slice ya yl yc] := ⟨_, _, _, _, _, _, _, _, rfl⟩; rw [hxe])); (apply ol_mv; rfl; rfl); (apply ol_ex; rfl; rfl; rfl); (apply ol_ex; rfl; rfl; rfl); (apply ol_ex; rfl; rfl; rfl); (apply ol_val; rfl; apply s_alloc; exact zb_25; exact qN; intro bk11); (apply ol_eff; apply s_storeN; rfl; rfl; exact sz_25; rfl; rfl; exact qN; exact qN); (apply ol_as; rfl; rfl); (apply ol_as; rfl; rfl); (apply ol_nil))
            | (apply cw_cond_true; rfl; exact qA)
            | (apply cw_cond_false; rfl; exact qA)
            | apply cw_skip
            | apply cw_ret
            | apply cw_block
            | apply cw_exit
          by_cases he : e2 = 0
          · subst he
            obtain ⟨g1, g2, g3, g4⟩ := hx2 rfl _ vj.fm vj.g
            have hst2 := hst hre2
            rw [if_pos rfl] at hst2
            repeat' first
              | apply cw_seq
              | (refine cw_region_id 24 ?_; (apply ol_mv; rfl; rfl); (apply ol_val; rfl; apply stp_cmp; apply s_neq; rfl; rfl; all_goals (intro hc107; try (exfalso; (first | exact hc107 rfl | omega)))); all_goals (apply ol_nil))
              | (refine cw_region_id 26 ?_; (apply ol_fa; rfl; rfl; exact fd_25_3; exact qZ); (apply ol_ld; rfl; rfl; rfl; exact qP); (apply ol_ldN; rfl; rfl; rfl; exact sz_25; exact qQ); (apply ol_val; rfl; apply s_buildSl; rfl; exact el_23; exact sz_25; exact zb_25; exact qN; rfl; rfl; (exact Nat.le_of_ble_eq_true rfl); exact qN; (focus ((repeat (first | exact Fil.nil | (apply Fil.one; rfl; rfl; (repeat (first | exact SetAt.zero | apply SetAt.succ))) | (apply Fil.agg; rfl; rfl; (repeat (first | exact SetN.nil | (apply SetN.cons; (repeat (first | exact SetAt.zero | apply SetAt.succ))))); (exact Nat.le_of_ble_eq_true rfl)))); done)); intro bk113); (apply ol_val; rfl; first | (apply s_append_e; rfl; rfl; exact qN; exact el_23; exact sz_25; exact zb_25; rfl; exact by_25; (first | exact (fun _ => rfl)); (first | exact qQ); (first | rfl); exact qO; exact qO; intro rk114 sk114 ck114 ok114) | (apply s_append_r; rfl; rfl; exact qN; (first | rfl | exact (List.append_nil _).symm); exact el_23; exact sz_25; exact zb_25; rfl; exact by_25; (first | exact SO.nil _ | assumption | (exact ⟨by simp, by simp, Nat.le_refl _, by simp⟩)); (first | exact (fun _ => rfl)); (first | exact qQ); (first | rfl); exact qO; exact qO; intro rk114 sk114 ck114 ok114) | (apply s_append_b; rfl; rfl; exact qN; (first | rfl | exact (List.append_nil _).symm); exact el_23; exact sz_25; exact zb_25; rfl; exact by_25; (first | exact SO.nil _ | assumption | (exact ⟨by simp, by simp, Nat.le_refl _, by simp⟩)); (first | exact (fun _ => rfl)); (first | exact qQ); (first | rfl); exact qO; exact qO; intro rk114 sk114 ck114 ok114) | (apply s_append_n; rfl; rfl; exact qN; exact el_23; exact sz_25; exact zb_25; rfl; exact by_25; (first | exact (fun _ => rfl)); (first | exact qQ); (first | rfl); exact qO; exact qO; intro rk114 sk114 ck114 ok114)); (apply ol_fa; rfl; rfl; exact fd_25_3; exact qZ); (apply ol_eff; apply s_store1; rfl; rfl; exact sz_23; rfl; exact qN; exact qT); (apply ol_nil))
              | (refine cw_region_id 27 ?_; (apply ol_mv; rfl; rfl); (apply ol_as; rfl; rfl); (apply ol_nil))
              | (refine cw_region_id 22 ?_; (apply ol_mv; rfl; rfl); (apply ol_val; rfl; apply stp_pur; apply s_add64; rfl; rfl; omega); (apply ol_as; rfl; rfl); (apply ol_nil))
              | (apply cw_cond_true; rfl; exact qA)
              | (apply cw_cond_false; rfl; exact qA)
              | apply cw_skip
              | apply cw_ret
              | apply cw_block
              | apply cw_exit
            refine ⟨⟨j + 1, a2, n2, c2, rest2, rk114, A, ck114, sk114, L ++ [x], View.join F F102⟩, ⟨by (repeat (first | exact trivial | refine And.intro rfl ?_)), vj.x, ?_, ⟨⟨hjN, by dsimp only; rw [List.length_append, hLj]; rfl⟩, ?_, ⟨View.freshM_join hF hFX, vj.m⟩, ⟨g1, ?_⟩, fun y hy => ?_, ?_, ?_⟩, by dsimp only; omega⟩⟩
            · dsimp only; rw [flat_snoc', List.length_append, hxe]; exact qK
            · dsimp only; rw [flat_snoc', List.length_append, hxe]; exact ok114
            · have := congrArg List.length g4
              rw [List.length_append] at this
              have := g1.hn
              dsimp only; omega
            · rcases List.mem_append.1 hy with hy | hy
              · exact ⟨(hLi y hy).1.mono vj.fm, (hLi y hy).2⟩
              · rw [List.mem_singleton.1 hy]; exact ⟨g2, g3⟩
            · dsimp only; rw [hrr, g4, List.flatMap_append, List.flatMap_singleton, List.append_assoc]
            · dsimp only; exact hst2.symm
          · have hst2 := hst hre2
            rw [if_neg he] at hst2
            rw [hst2] at hre
            repeat' first
              | apply cw_seq
              | (refine cw_region_id 24 ?_; (apply ol_mv; rfl; rfl); (apply ol_val; rfl; apply stp_cmp; apply s_neq; rfl; rfl; all_goals (intro hc107; try (exfalso; (first | exact hc107 rfl | omega)))); all_goals (apply ol_nil))
              | (refine cw_region_id 25 ?_; (apply ol_val; rfl; apply stp_pur; apply s_buildS; rfl; exact fs_25; exact zb_25; exact qR); (apply ol_mv; rfl; rfl); (apply ol_eff; apply s_storeN; rfl; rfl; exact sz_25; rfl; rfl; exact qN; exact qN); (apply ol_as; rfl; rfl); (apply ol_as; rfl; rfl); (apply ol_nil))
              | (apply cw_cond_true; rfl; exact qA)
              | (apply cw_cond_false; rfl; exact qA)
              | apply cw_skip
              | apply cw_ret
              | apply cw_block
              | apply cw_exit
            all_goals
              refine endsW [] [] View.nil (RVal.cellN rfl rfl rfl (RdN.own (by (repeat (first | exact Has.here | apply Has.there))) (by focus ((repeat (first | rfl | constructor)); done))) (RVal.tmp rfl (RVal.tmp rfl RVal.nil))) Pick.nil (View.nil_le _) (View.freshM_nil _ _) (fun F _ _ => ?_)
              exact RdR.err (e := e2) hre he
        · have hjN' : j = N := by omega
          rw [hjN', Nat.sub_self] at hrN
          rw [show rdN (rdE d) 0 rest = (0, rest) from by rw [rdN]] at hrN
          rw [← hrN] at hre
          repeat' first
            | apply cw_seq
            | (refine cw_region_id 21 ?_; (apply ol_mv; rfl; rfl); (apply ol_mv; rfl; rfl); (apply ol_val; rfl; apply stp_cmp; apply s_lss; rfl; rfl; all_goals (intro hc95; try (exfalso; (first | exact hc95 rfl | omega)))); all_goals (apply ol_nil))
            | (refine cw_region_id 28 ?_; (apply ol_ldN; rfl; rfl; rfl; exact sz_25; exact qQ); (apply ol_mv; rfl; rfl); (apply ol_eff; apply s_storeN; rfl; rfl; exact sz_25; rfl; rfl; exact qN; exact qN); (apply ol_as; rfl; rfl); (apply ol_as; rfl; rfl); (apply ol_nil))
            | (apply cw_cond_true; rfl; exact qA)
            | (apply cw_cond_false; rfl; exact qA)
            | apply cw_skip
            | apply cw_ret
            | apply cw_block
            | apply cw_exit
          refine endsW [] [⟨rr, flat It.enc L ++ sp, 25⟩] F (RVal.cellN rfl rfl rfl (RdN.own (by (repeat (first | exact Has.here | apply Has.there))) (by focus ((repeat (first | rfl | constructor)); done))) (RVal.tmp rfl (RVal.tmp rfl RVal.nil))) (by exact qK) (View.join_l F M) hF (fun F' hF' hz => ?_)
          have hLe : ∀ N', View.le M N' → View.le F' N' → View.le (View.join F M) N' := fun N' h1 h2 => View.join_le (hF'.trans h2) h1
          refine ⟨rfl, a1, n1, c1, 0, rest, ((⟨3, 0, ⟨[], none, 0, 0, 0⟩, base rr A, rr.getD 0, 0, cap, L.length⟩, L) : It (d + 1)), rfl, hre, fun _ N' hM' hFN => ⟨hvr.mono (hLe N' hM' hFN), ⟨⟨SlA.none', fun x hx => by simp at hx, Nat.zero_le _, by dsimp only; omega⟩, rfl, (SlA.inV It.enc_length (hz _ (List.Mem.head _)) (fun h => SO.emp so h)).mono hFN, fun x hx => (hLi x hx).1.mono (hLe N' hM' hFN)⟩, ?_, ?_⟩⟩
          · refine ⟨?_, ⟨by dsimp only; omega, fun x hx => (hLi x hx).2.2⟩⟩
            rw [okI_list rfl, Bool.and_eq_true, decide_eq_true_iff, List.all_eq_true]
            exact ⟨⟨rfl, rfl, by dsimp only; omega⟩, fun x hx => (hLi x hx).2.1⟩
          · rw [encI_list rfl]
            dsimp only
            rw [hLj, hjN', hbi]
            conv => lhs; rw [hrs, hrr]
            simp [List.append_assoc]
theorem read_spec : ∀ (d : Nat) {wn : Nat}, wn + d = 8 → ∀ {M : View} {w : World}, View.le M (View.of w) → ∀ {l : List Int} {a : Option Addr} {n c : Nat}, BV M l a n c → n ≤ 16384 →
    FnM Tryd.prog 41 [.slice a n c, .int .i64 (wn : Nat)] w [] (RdR d l M) := by
  intro d
  induction d with
  | zero =>
    intro wn hw M w hM l a n c hv hn
    match l, hv with
    | [], hv => exact read_bad hM hw hv (.inl rfl)
    | k :: r, hv =>
      by_cases hb : k < 1 ∨ 3 < k ∨ k = 3 ∧ (0 : Nat) = 0
      · exact read_bad hM hw hv (.inr ⟨k, r, rfl, hb⟩)
      · have hk : k = 1 ∨ k = 2 := by omega
        rcases hk with rfl | rfl
        · exact read_int hM hw hv
        · exact read_bytes hM hw hv hn
  | succ d ih =>
    intro wn hw M w hM l a n c hv hn
    match l, hv with
    | [], hv => exact read_bad hM hw hv (.inl rfl)
    | k :: r, hv =>
      by_cases hb : k < 1 ∨ 3 < k ∨ k = 3 ∧ d + 1 = 0
      · exact read_bad hM hw hv (.inr ⟨k, r, rfl, hb⟩)
      · have hk : k = 1 ∨ k = 2 ∨ k = 3 := by omega
        rcases hk with rfl | rfl | rfl
        · exact read_int hM hw hv
        · exact read_bytes hM hw hv hn
        · exact read_list hM hw hv hn (fun {_ _} hM' {_ _ _ _} hv' hn' => ih (wn := wn + 1) (by omega) hM' hv' hn')
theorem rdecode_spec {M : View} {w : World} (hM : View.le M (View.of w)) {l : List Int} {a : Option Addr} {n c : Nat} (hv : BV M l a n c) :
    FnM Tryd.prog 18 [.slice a n c] w [] (DecR l M) := by
  have hln := hv.hn
  refine enterW (M := M) Tryd.func18 rfl rfl rfl rfl hM (fun _ h => by cases h) (fun _ h => by cases h) List.nodup_nil ?_
  by_cases hl : 16384 < n
  · have he : decE l = 5 := by unfold decE; rw [if_pos (by omega)]
    repeat' first
      | apply cw_seq
      | (refine cw_region_id 0 ?_; (apply ol_val; rfl; apply s_alloc; exact zb_25; exact qN; intro bk2); (apply ol_as; rfl; rfl); (apply ol_nil))
      | (refine cw_region_id 1 ?_; (apply ol_mv; rfl; rfl); (apply ol_val; rfl; apply stp_pur; apply s_len; rfl; exact el_22); (apply ol_val; rfl; apply stp_cmp; apply s_gtr; rfl; rfl; all_goals (intro hc9; try (exfalso; (first | exact hc9 rfl | omega)))); all_goals (apply ol_nil))
      | (refine cw_region_id 2 ?_; (apply ol_val; rfl; apply stp_pur; apply s_buildS; rfl; exact fs_25; exact zb_25; exact qR); (apply ol_eff; apply s_storeN; rfl; rfl; exact sz_25; rfl; rfl; exact qN; exact qN); (apply ol_as; rfl; rfl); (apply ol_nil))
      | (apply cw_cond_true; rfl; exact qA)
      | (apply cw_cond_false; rfl; exact qA)
      | apply cw_skip
      | apply cw_ret
      | apply cw_block
      | apply cw_exit
    refine endsW [] [] View.nil (RVal.cellN rfl rfl rfl (RdN.own (by (repeat (first | exact Has.here | apply Has.there))) (by focus ((repeat (first | rfl | constructor)); done))) (RVal.tmp rfl RVal.nil)) Pick.nil (View.nil_le _) (View.freshM_nil _ _) (fun F _ _ => ?_)
    exact ⟨rfl, zItem, by rw [zItem_enc, he]; rfl, fun h => by omega, fun _ => rfl⟩
  · have hd0 : decE l = if (rdE 8 l).1 ≠ 0 then (rdE 8 l).1 else if 0 < (rdE 8 l).2.length then 3 else 0 := by unfold decE; rw [if_neg (by omega)]
    have kI := fun (w' : World) (h : View.le M (View.of w')) => read_spec 8 (wn := 0) (by decide) h hv (by omega)
    repeat' first
      | apply cw_seq
      | (refine cw_region_id 0 ?_; (apply ol_val; rfl; apply s_alloc; exact zb_25; exact qN; intro bk2); (apply ol_as; rfl; rfl); (apply ol_nil))
      | (refine cw_region_id 1 ?_; (apply ol_mv; rfl; rfl); (apply ol_val; rfl; apply stp_pur; apply s_len; rfl; exact el_22); (apply ol_val; rfl; apply stp_cmp; apply s_gtr; rfl; rfl; all_goals (intro hc9; try (exfalso; (first | exact hc9 rfl | omega)))); all_goals (apply ol_nil))
      | (refine cw_region_id 3 ?_; (apply ol_mv; rfl; rfl); (apply ol_val; rfl; apply s_callM (xs := []); rfl; exact gf_41; (focus ((repeat (first | exact Pk.nil | (apply Pk.cons; (repeat (first | exact Spl.here | apply Spl.there))))); done)); (intro w' M2 hw' hrd; exact kI w' hw'.le); (intro v F13 ys M13 h hl13 hL13 hF13; obtain ⟨rfl, a2, n2, c2, e2, rest2, x, rfl, hre2, hx2⟩ := h; obtain ⟨xk, xn, xa, xl, xc, ya, yl, yc, hxe⟩ : ∃ xk xn xa xl xc ya yl yc, x.enc = [.int .i64 xk, .int .i64 xn, .slice xa xl xc, .slice ya yl yc] := ⟨_, _, _, _, _, _, _, _, rfl⟩; rw [hxe])); (apply ol_mv; rfl; rfl); (apply ol_ex; rfl; rfl; rfl); (apply ol_ex; rfl; rfl; rfl); (apply ol_ex; rfl; rfl; rfl); (apply ol_val; rfl; apply s_alloc; exact zb_25; exact qN; intro bk4); (apply ol_eff; apply s_storeN; rfl; rfl; exact sz_25; rfl; rfl; exact qN; exact qN); (apply ol_as; rfl; rfl); (apply ol_as; rfl; rfl); (apply ol_nil))
      | (apply cw_cond_true; rfl; exact qA)
      | (apply cw_cond_false; rfl; exact qA)
      | apply cw_skip
      | apply cw_ret
      | apply cw_block
      | apply cw_exit
    rw [hre2] at hd0
    dsimp only at hd0
    by_cases he : e2 = 0
    · subst he
      rw [if_neg (by omega)] at hd0
      have hx3 := hx2 rfl
      have hn2 : rest2.length = n2 := (hx3 M13 hl13 hL13).1.hn
      by_cases h0 : 0 < n2
      · rw [if_pos (by omega)] at hd0
        repeat' first
          | apply cw_seq
          | (refine cw_region_id 4 ?_; (apply ol_mv; rfl; rfl); (apply ol_val; rfl; apply stp_cmp; apply s_neq; rfl; rfl; all_goals (intro hc18; try (exfalso; (first | exact hc18 rfl | omega)))); all_goals (apply ol_nil))
          | (refine cw_region_id 6 ?_; (apply ol_mv; rfl; rfl); (apply ol_val; rfl; apply stp_pur; apply s_len; rfl; exact el_22); (apply ol_val; rfl; apply stp_cmp; apply s_gtr; rfl; rfl; all_goals (intro hc23; try (exfalso; (first | exact hc23 rfl | omega)))); all_goals (apply ol_nil))
          | (refine cw_region_id 7 ?_; (apply ol_val; rfl; apply stp_pur; apply s_buildS; rfl; exact fs_25; exact zb_25; exact qR); (apply ol_eff; apply s_storeN; rfl; rfl; exact sz_25; rfl; rfl; exact qN; exact qN); (apply ol_as; rfl; rfl); (apply ol_nil))
          | (apply cw_cond_true; rfl; exact qA)
          | (apply cw_cond_false; rfl; exact qA)
          | apply cw_skip
          | apply cw_ret
          | apply cw_block
          | apply cw_exit
        refine endsW [] [] View.nil (RVal.cellN rfl rfl rfl (RdN.own (by (repeat (first | exact Has.here | apply Has.there))) (by focus ((repeat (first | rfl | constructor)); done))) (RVal.tmp rfl RVal.nil)) Pick.nil (View.nil_le _) (View.freshM_nil _ _) (fun F _ _ => ?_)
        exact ⟨rfl, zItem, by rw [zItem_enc, hd0]; rfl, fun h => by omega, fun _ => rfl⟩
      · rw [if_neg (by omega)] at hd0
        repeat' first
          | apply cw_seq
          | (refine cw_region_id 4 ?_; (apply ol_mv; rfl; rfl); (apply ol_val; rfl; apply stp_cmp; apply s_neq; rfl; rfl; all_goals (intro hc18; try (exfalso; (first | exact hc18 rfl | omega)))); all_goals (apply ol_nil))
          | (refine cw_region_id 6 ?_; (apply ol_mv; rfl; rfl); (apply ol_val; rfl; apply stp_pur; apply s_len; rfl; exact el_22); (apply ol_val; rfl; apply stp_cmp; apply s_gtr; rfl; rfl; all_goals (intro hc23; try (exfalso; (first | exact hc23 rfl | omega)))); all_goals (apply ol_nil))
          | (refine cw_region_id 8 ?_; (apply ol_ldN; rfl; rfl; rfl; exact sz_25; exact qQ); (apply ol_eff; apply s_storeN; rfl; rfl; exact sz_25; rfl; rfl; exact qN; exact qN); (apply ol_as; rfl; rfl); (apply ol_nil))
          | (apply cw_cond_true; rfl; exact qA)
          | (apply cw_cond_false; rfl; exact qA)
          | apply cw_skip
          | apply cw_ret
          | apply cw_block
          | apply cw_exit
        refine endsW [] [] F13 (RVal.cellN rfl rfl rfl (RdN.own (by (repeat (first | exact Has.here | apply Has.there))) (by focus ((repeat (first | rfl | constructor)); done))) (RVal.tmp rfl RVal.nil)) Pick.nil hL13 hF13 (fun F hF _ => ?_)
        refine ⟨rfl, x, by rw [hxe, hd0]; rfl, fun _ N hMN hFN => ?_, fun h => absurd hd0 h⟩
        obtain ⟨g1, g2, g3, g4⟩ := hx3 N hMN (hF.trans hFN)
        have hr0 : rest2 = [] := List.length_eq_zero_iff.1 (by omega)
        rw [hr0, List.append_nil] at g4
        exact ⟨g2, g3, g4.symm⟩
    · rw [if_pos he] at hd0
      repeat' first
        | apply cw_seq
        | (refine cw_region_id 4 ?_; (apply ol_mv; rfl; rfl); (apply ol_val; rfl; apply stp_cmp; apply s_neq; rfl; rfl; all_goals (intro hc18; try (exfalso; (first | exact hc18 rfl | omega)))); all_goals (apply ol_nil))
        | (refine cw_region_id 5 ?_; (apply ol_val; rfl; apply stp_pur; apply s_buildS; rfl; exact fs_25; exact zb_25; exact qR); (apply ol_mv; rfl; rfl); (apply ol_eff; apply s_storeN; rfl; rfl; exact sz_25; rfl; rfl; exact qN; exact qN); (apply ol_as; rfl; rfl); (apply ol_nil))
        | (apply cw_cond_true; rfl; exact qA)
        | (apply cw_cond_false; rfl; exact qA)
        | apply cw_skip
        | apply cw_ret
        | apply cw_block
        | apply cw_exit
      refine endsW [] [] View.nil (RVal.cellN rfl rfl rfl (RdN.own (by (repeat (first | exact Has.here | apply Has.there))) (by focus ((repeat (first | rfl | constructor)); done))) (RVal.tmp rfl RVal.nil)) Pick.nil (View.nil_le _) (View.freshM_nil _ _) (fun F _ _ => ?_)
      exact ⟨rfl, zItem, by rw [zItem_enc, hd0]; rfl, fun h => by omega, fun _ => rfl⟩
end Go.Proofs.YtkkfgeekdaalmaaDoor
namespace Go.Proofs.YtkkfgeekdaalmaaDoor
set_option maxRecDepth 20000
set_option linter.unusedSimpArgs false
set_option linter.unusedVariables false
open Go Go.Fw
def sameH (a b : Hd) : Bool := decide (a.k = b.k ∧ a.n = b.n ∧ a.B.xs = b.B.xs ∧ a.m = b.m)
/-- The same item. -/
def sameI : (d : Nat) → It d → It d → Bool
  | 0, a, b => sameH a b
  | d + 1, a, b => sameH a.1 b.1 && (a.2.zip b.2).all fun p => sameI d p.1 p.2
/-- All of the item is read. -/
def fullI : (d : Nat) → It d → Prop
  | 0, h => h.m = 0
  | d + 1, p => ∀ y ∈ p.2, fullI d y
theorem full_of_ok {M : View} : ∀ {d : Nat} {x : It d}, ItV M d x → okI d x = true → fullI d x
  | 0, h, _, hk => by
    unfold okI okH at hk
    have := of_decide_eq_true hk
    show h.m = 0
    omega
  | d + 1, p, ⟨_, h2, _, h4⟩, hk => by
    intro y hy
    unfold okI at hk
    split at hk
    · rw [Bool.and_eq_true, List.all_eq_true] at hk
      exact full_of_ok (h4 y hy) (hk.2 y hy)
    · unfold okH at hk
      have := of_decide_eq_true hk
      have : p.2.length = 0 := by omega
      rw [List.length_eq_zero_iff.1 this] at hy
      cases hy
theorem sameI_head {d : Nat} {x y : It d} (h : sameH x.hd y.hd = false) : sameI d x y = false := by
  cases d with
  | zero => exact h
  | succ d => unfold sameI; rw [show sameH x.1 y.1 = false from h]; rfl
theorem sameH_iff {a b : Hd} : sameH a b = true ↔ a.k = b.k ∧ a.n = b.n ∧ a.B.xs = b.B.xs ∧ a.m = b.m := decide_eq_true_iff
/-- Valid items with the same encoding are the same. -/
theorem sameH_enc {a b : Hd} (ha : okH a = true) (hb : okH b = true) (hl1 : a.B.xs.length < 4294967296) (hl2 : b.B.xs.length < 4294967296) (na : -9223372036854775808 ≤ a.n ∧ a.n ≤ 9223372036854775807) (nb : -9223372036854775808 ≤ b.n ∧ b.n ≤ 9223372036854775807) (h : encH a = encH b) : sameH a b = true := by
  unfold okH at ha hb
  have ha := of_decide_eq_true ha
  have hb := of_decide_eq_true hb
  unfold encH at h
  rw [sameH_iff]
  by_cases k1 : a.k = 1
  · rw [if_pos k1] at h
    by_cases k2 : b.k = 1
    · rw [if_pos k2] at h
      injection h with _ h
      have h := congrArg numB h
      rw [numB_bI, numB_bI] at h
      have h8 : (256 : Nat) ^ 8 = 18446744073709551616 := by decide
      have u1 := u64_lt a.n
      have u2 := u64_lt b.n
      rw [h8, Nat.mod_eq_of_lt u1, Nat.mod_eq_of_lt u2] at h
      have e1 := i64_u64 na
      have e2 := i64_u64 nb
      rw [h] at e1
      refine ⟨by omega, by omega, ?_, by omega⟩
      rw [List.length_eq_zero_iff.1 (by omega : a.B.xs.length = 0), List.length_eq_zero_iff.1 (by omega : b.B.xs.length = 0)]
    · rw [if_neg k2] at h
      injection h with h _
      cases h
  · rw [if_neg k1] at h
    by_cases k2 : b.k = 1
    · rw [if_pos k2] at h
      injection h with h _
      cases h
    · rw [if_neg k2] at h
      injection h with _ h
      obtain ⟨_, h2⟩ := List.append_inj h (by rw [bI_length, bI_length])
      exact ⟨by omega, by omega, h2, by omega⟩
theorem encI_k {d : Nat} {x y : It d} (hx : okI d x = true) (hy : okI d y = true) {r s : List Int} (h : encI d x ++ r = encI d y ++ s) : x.hd.k = y.hd.k := by
  have key : ∀ {z : It d}, okI d z = true → ∀ t, (encI d z ++ t).head? = some z.hd.k := by
    intro z hz t
    cases d with
    | zero =>
      have hz : okH z = true := hz
      unfold okH at hz
      have hz := of_decide_eq_true hz
      show (encH z ++ t).head? = some z.k
      unfold encH
      split
      · rename_i h; rw [h]; rfl
      · rw [show z.k = 2 by omega]; rfl
    | succ d =>
      by_cases h3 : z.1.k = 3
      · unfold encI; rw [if_pos h3]
        show some 3 = some z.1.k
        rw [h3]
      · have hz' : okH z.1 = true := by have := hz; unfold okI at this; rw [if_neg h3] at this; exact this
        unfold okH at hz'
        have hz' := of_decide_eq_true hz'
        unfold encI; rw [if_neg h3]
        show (encH z.1 ++ t).head? = some z.1.k
        unfold encH
        split
        · rename_i h; rw [h]; rfl
        · rw [show z.1.k = 2 by omega]; rfl
  have h1 := key hx r
  rw [h, key hy s] at h1
  injection h1 with h1
  exact h1.symm
theorem sameI_enc : ∀ {d : Nat} {x y : It d}, okI d x = true → okI d y = true → shI d x → shI d y → rgI d x → rgI d y → encI d x = encI d y → sameI d x y = true
  | 0, x, y, hx, hy, sx, sy, rx, ry, h => sameH_enc hx hy sx sy rx ry h
  | d + 1, x, y, hx, hy, ⟨sx1, sx2, sx3⟩, ⟨sy1, sy2, sy3⟩, ⟨rx1, rx2⟩, ⟨ry1, ry2⟩, h => by
    have hk := encI_k hx hy (r := []) (s := []) (by rw [h])
    have hk : x.1.k = y.1.k := hk
    by_cases h3 : x.1.k = 3
    · have h3' : y.1.k = 3 := by omega
      unfold okI at hx hy
      rw [if_pos h3, Bool.and_eq_true, decide_eq_true_iff, List.all_eq_true] at hx
      rw [if_pos h3', Bool.and_eq_true, decide_eq_true_iff, List.all_eq_true] at hy
      unfold encI at h
      rw [if_pos h3, if_pos h3'] at h
      injection h with _ h
      obtain ⟨h1, h2⟩ := List.append_inj h (by rw [bI_length, bI_length])
      have h1 := congrArg numB h1
      have h44 : (256 : Nat) ^ 4 = 4294967296 := by decide
      rw [numB_bI, numB_bI, h44, Nat.mod_eq_of_lt (by omega), Nat.mod_eq_of_lt (by omega)] at h1
      have key : ∀ (L L' : List (It d)), (∀ z ∈ L, okI d z = true ∧ shI d z ∧ rgI d z) → (∀ z ∈ L', okI d z = true ∧ shI d z ∧ rgI d z) → L.length = L'.length → L.flatMap (encI d) = L'.flatMap (encI d) → ((L.zip L').all fun p => sameI d p.1 p.2) = true := by
        intro L
        induction L with
        | nil => intro L' _ _ hl _; rfl
        | cons z L ihL =>
          intro L' hL hL' hl he
          match L', hL', hl, he with
          | z' :: L', hL', hl, he =>
            rw [List.flatMap_cons, List.flatMap_cons] at he
            obtain ⟨a1, a2, a3⟩ := hL z (List.mem_cons_self ..)
            obtain ⟨b1, b2, b3⟩ := hL' z' (List.mem_cons_self ..)
            have g1 := rdE_enc a1 a2 (L.flatMap (encI d))
            have g2 := rdE_enc b1 b2 (L'.flatMap (encI d))
            rw [he, g2] at g1
            injection g1 with _ g1
            rw [← g1] at he
            have he := List.append_cancel_right he
            rw [List.zip_cons_cons, List.all_cons, sameI_enc a1 b1 a2 b2 a3 b3 he, Bool.true_and]
            exact ihL L' (fun z hz => hL z (List.mem_cons_of_mem _ hz)) (fun z hz => hL' z (List.mem_cons_of_mem _ hz)) (by simpa using hl) g1.symm
      unfold sameI
      rw [Bool.and_eq_true]
      refine ⟨sameH_iff.2 ⟨hk, by omega, ?_, h1⟩, key _ _ (fun z hz => ⟨hx.2 z hz, sx3 z hz, rx2 z hz⟩) (fun z hz => ⟨hy.2 z hz, sy3 z hz, ry2 z hz⟩) (by omega) h2⟩
      rw [List.length_eq_zero_iff.1 hx.1.2.1, List.length_eq_zero_iff.1 hy.1.2.1]
    · have hx' : okH x.1 = true := by have := hx; unfold okI at this; rw [if_neg h3] at this; exact this
      have hy' : okH y.1 = true := by have := hy; unfold okI at this; rw [if_neg (by omega)] at this; exact this
      have he : encH x.1 = encH y.1 := by have := h; unfold encI at this; rw [if_neg h3, if_neg (by omega)] at this; exact this
      have hm : x.2 = [] := by
        unfold okH at hx'
        have := of_decide_eq_true hx'
        exact List.length_eq_zero_iff.1 (by omega)
      unfold sameI
      rw [sameH_enc hx' hy' sx1 sy1 rx1 ry1 he, hm]
      rfl
end Go.Proofs.YtkkfgeekdaalmaaDoor
namespace Go.Proofs.YtkkfgeekdaalmaaDoor
set_option maxRecDepth 20000
set_option linter.unusedSimpArgs false
set_option linter.unusedVariables false
open Go Go.Fw
theorem sameH_cases (k k2 n n2 : Int) (xs ys : List Int) (m m2 : Nat) (h : ¬ (k = k2 ∧ n = n2 ∧ xs = ys ∧ m = m2)) : k ≠ k2 ∨ (k = k2 ∧ n ≠ n2) ∨ (k = k2 ∧ n = n2 ∧ xs ≠ ys) ∨ (k = k2 ∧ n = n2 ∧ xs = ys ∧ m ≠ m2) := by
  by_cases h1 : k = k2
  · by_cases h2 : n = n2
    · by_cases h3 : xs = ys
      · exact .inr (.inr (.inr ⟨h1, h2, h3, fun h4 => h ⟨h1, h2, h3, h4⟩⟩))
      · exact .inr (.inr (.inl ⟨h1, h2, h3⟩))
    · exact .inr (.inl ⟨h1, h2⟩)
  · exact .inl h1
end Go.Proofs.YtkkfgeekdaalmaaDoor
namespace Go.Proofs.YtkkfgeekdaalmaaDoor
set_option maxRecDepth 20000
set_option linter.unusedSimpArgs false
set_option linter.unusedVariables false
open Go Go.Fw
attribute [local irreducible] CW OL OD FX Stp FnC FnV FnA FnM Ret bI encI okI numB rdE rdN strOf
set_option maxHeartbeats 3200000
theorem bequal_spec {M : View} {w : World} (hM : View.le M (View.of w)) {l l' : List Int} {n n' c c' : Nat} (hn : l.length = n) (hn' : l'.length = n') (hl : ∀ x ∈ l, 0 ≤ x ∧ x ≤ 255) (hl' : ∀ x ∈ l', 0 ≤ x ∧ x ≤ 255) {a a' : Option Addr} {b o b' o' : Nat} (s : SlA M (eK .u8) 1 a l b o) (s' : SlA M (eK .u8) 1 a' l' b' o') :
    FnC Tryd.prog 16 [.slice a n c, .slice a' n' c'] w (fun v _ => v = .bool (decide (l = l'))) := by
  refine enterF (M := M) Tryd.func16 rfl rfl rfl rfl hM ?_
  have hbe := strOf_beq hl hl'
  repeat' first
    | apply cw_seq
    | (refine cw_region_id 0 ?_; (apply ol_as; rfl; rfl); (apply ol_nil))
    | (refine cw_region_id 1 ?_; (apply ol_mv; rfl; rfl); (apply ol_val; rfl; apply stp_pur; apply s_convBS; rfl; exact el_22; exact tdInt_eq ti_5; exact us_9; (first | exact s.atn hn | exact s'.atn hn'); (first | exact hn | exact hn'); (first | exact s.rd hn | exact s'.rd hn')); (apply ol_mv; rfl; rfl); (apply ol_val; rfl; apply stp_pur; apply s_convBS; rfl; exact el_22; exact tdInt_eq ti_5; exact us_9; (first | exact s.atn hn | exact s'.atn hn'); (first | exact hn | exact hn'); (first | exact s.rd hn | exact s'.rd hn')); (apply ol_val; rfl; apply stp_pur; apply s_eqlStr; rfl; rfl); (apply ol_as; rfl; rfl); (apply ol_nil))
    | (apply cw_cond_true; rfl; exact qA)
    | (apply cw_cond_false; rfl; exact qA)
    | apply cw_skip
    | apply cw_ret
    | apply cw_block
    | apply cw_exit
  refine ends [] (RVal.tmp rfl RVal.nil) Pick.nil ?_
  exact congrArg Value.bool hbe
theorem rsame_no {M : View} {w : World} (hM : View.le M (View.of w)) {d : Nat} {x y : It d} (hx : HdV M x.hd) (hy : HdV M y.hd) (h : sameH x.hd y.hd = false) :
    FnC Tryd.prog 19 [.agg x.enc.toArray, .agg y.enc.toArray] w (fun v _ => v = .bool false) := by
  unfold It.enc
  generalize x.hd = a at *
  generalize y.hd = b at *
  obtain ⟨k, n, ⟨xs, Ba, Bb, Bo, Bc⟩, La, Lb, Lo, Lc, m⟩ := a
  obtain ⟨k2, n2, ⟨ys, Ba2, Bb2, Bo2, Bc2⟩, La2, Lb2, Lo2, Lc2, m2⟩ := b
  have hcs := sameH_cases k k2 n n2 xs ys m m2 (of_decide_eq_false h)
  clear h
  obtain ⟨sB, hb, _, _⟩ := hx
  obtain ⟨sB2, hb2, _, _⟩ := hy
  dsimp only at sB sB2 hb hb2 ⊢
  have hbe := strOf_beq hb hb2
  refine enterF (M := M) Tryd.func19 rfl rfl rfl rfl hM ?_
  rcases hcs with h | ⟨rfl, h⟩ | ⟨rfl, rfl, h⟩ | ⟨rfl, rfl, rfl, h⟩
  ·
    repeat' first
      | apply cw_seq
      | (refine cw_region_id 0 ?_; (apply ol_val; rfl; first | (apply s_boxN; rfl; intro bk2) | (apply s_box1; rfl; rfl; intro bk2)); (apply ol_val; rfl; first | (apply s_boxN; rfl; intro bk3) | (apply s_box1; rfl; rfl; intro bk3)); (apply ol_as; rfl; rfl); (apply ol_nil))
      | (refine cw_region_id 1 ?_; (apply ol_fa; rfl; rfl; exact fd_25_0; exact qZ); (apply ol_ld; rfl; rfl; rfl; exact qP); (apply ol_fa; rfl; rfl; exact fd_25_0; exact qZ); (apply ol_ld; rfl; rfl; rfl; exact qP); (apply ol_val; rfl; apply stp_cmp; apply s_neq; rfl; rfl; all_goals (intro hc10; try (exfalso; (first | exact hc10 rfl | omega)))); all_goals (apply ol_mv; rfl; rfl); all_goals (first | (apply ol_gskip; rfl; rfl; exact qA; rfl) | (apply ol_gval; rfl; rfl; rfl; exact qA; apply stp_pur; apply s_fieldAddr'; rfl; exact fd_25_1; exact qZ)); all_goals (first | (apply ol_gskip; rfl; rfl; exact qA; rfl) | (apply ol_gval; rfl; rfl; rfl; exact qA; apply stp_pur; apply s_load1; rfl; rfl; exact qP)); all_goals (first | (apply ol_gskip; rfl; rfl; exact qA; rfl) | (apply ol_gval; rfl; rfl; rfl; exact qA; apply stp_pur; apply s_fieldAddr'; rfl; exact fd_25_1; exact qZ)); all_goals (first | (apply ol_gskip; rfl; rfl; exact qA; rfl) | (apply ol_gval; rfl; rfl; rfl; exact qA; apply stp_pur; apply s_load1; rfl; rfl; exact qP)); all_goals (first | (apply ol_gskip; rfl; rfl; exact qA; rfl) | (apply ol_gval; rfl; rfl; rfl; exact qA; apply stp_cmp; apply s_neq; rfl; rfl; all_goals (intro hc16; try (exfalso; (first | exact hc16 rfl | omega))))); all_goals (apply ol_val; rfl; apply stp_pur; first | (apply s_pick_t; rfl; exact qA; rfl) | (apply s_pick_f; rfl; exact qA; rfl)); all_goals (apply ol_mv; rfl; rfl); all_goals (first | (apply ol_gskip; rfl; rfl; exact qA; rfl) | (apply ol_gval; rfl; rfl; rfl; exact qA; apply stp_pur; apply s_fieldAddr'; rfl; exact fd_25_2; exact qZ)); all_goals (first | (apply ol_gskip; rfl; rfl; exact qA; rfl) | (apply ol_gval; rfl; rfl; rfl; exact qA; apply stp_pur; apply s_load1; rfl; rfl; exact qP)); all_goals (apply ol_gskip; rfl; rfl; exact qA; rfl); all_goals (first | (apply ol_gskip; rfl; rfl; exact qA; rfl) | (apply ol_gval; rfl; rfl; rfl; exact qA; apply stp_pur; apply s_fieldAddr'; rfl; exact fd_25_2; exact qZ)); all_goals (first | (apply ol_gskip; rfl; rfl; exact qA; rfl) | (apply ol_gval; rfl; rfl; rfl; exact qA; apply stp_pur; apply s_load1; rfl; rfl; exact qP)); all_goals (apply ol_gskip; rfl; rfl; exact qA; rfl); all_goals (first | (apply ol_gskip; rfl; rfl; exact qA; rfl) | (apply ol_gval; rfl; rfl; rfl; exact qA; apply stp_pur; apply s_neqStr; rfl; rfl)); all_goals (apply ol_val; rfl; apply stp_pur; first | (apply s_pick_t; rfl; exact qA; rfl) | (apply s_pick_f; rfl; exact qA; rfl)); all_goals (apply ol_mv; rfl; rfl); all_goals (first | (apply ol_gskip; rfl; rfl; exact qA; rfl) | (apply ol_gval; rfl; rfl; rfl; exact qA; apply stp_pur; apply s_fieldAddr'; rfl; exact fd_25_3; exact qZ)); all_goals (first | (apply ol_gskip; rfl; rfl; exact qA; rfl) | (apply ol_gval; rfl; rfl; rfl; exact qA; apply stp_pur; apply s_load1; rfl; rfl; exact qP)); all_goals (first | (apply ol_gskip; rfl; rfl; exact qA; rfl) | (apply ol_gval; rfl; rfl; rfl; exact qA; apply stp_pur; apply s_len; rfl; exact el_23)); all_goals (first | (apply ol_gskip; rfl; rfl; exact qA; rfl) | (apply ol_gval; rfl; rfl; rfl; exact qA; apply stp_pur; apply s_fieldAddr'; rfl; exact fd_25_3; exact qZ)); all_goals (first | (apply ol_gskip; rfl; rfl; exact qA; rfl) | (apply ol_gval; rfl; rfl; rfl; exact qA; apply stp_pur; apply s_load1; rfl; rfl; exact qP)); all_goals (first | (apply ol_gskip; rfl; rfl; exact qA; rfl) | (apply ol_gval; rfl; rfl; rfl; exact qA; apply stp_pur; apply s_len; rfl; exact el_23)); all_goals (first | (apply ol_gskip; rfl; rfl; exact qA; rfl) | (apply ol_gval; rfl; rfl; rfl; exact qA; apply stp_cmp; apply s_neq; rfl; rfl; all_goals (intro hc34; try (exfalso; (first | exact hc34 rfl | omega))))); all_goals (apply ol_val; rfl; apply stp_pur; first | (apply s_pick_t; rfl; exact qA; rfl) | (apply s_pick_f; rfl; exact qA; rfl)); all_goals (apply ol_nil))
      | (refine cw_region_id 2 ?_; (apply ol_as; rfl; rfl); (apply ol_nil))
      | (apply cw_cond_true; rfl; exact qA)
      | (apply cw_cond_false; rfl; exact qA)
      | apply cw_skip
      | apply cw_ret
      | apply cw_block
      | apply cw_exit
    all_goals (refine ends [] (RVal.tmp rfl RVal.nil) Pick.nil ?_; rfl)
  ·
    repeat' first
      | apply cw_seq
      | (refine cw_region_id 0 ?_; (apply ol_val; rfl; first | (apply s_boxN; rfl; intro bk2) | (apply s_box1; rfl; rfl; intro bk2)); (apply ol_val; rfl; first | (apply s_boxN; rfl; intro bk3) | (apply s_box1; rfl; rfl; intro bk3)); (apply ol_as; rfl; rfl); (apply ol_nil))
      | (refine cw_region_id 1 ?_; (apply ol_fa; rfl; rfl; exact fd_25_0; exact qZ); (apply ol_ld; rfl; rfl; rfl; exact qP); (apply ol_fa; rfl; rfl; exact fd_25_0; exact qZ); (apply ol_ld; rfl; rfl; rfl; exact qP); (apply ol_val; rfl; apply stp_cmp; apply s_neq; rfl; rfl; all_goals (intro hc10; try (exfalso; (first | exact hc10 rfl | omega)))); all_goals (apply ol_mv; rfl; rfl); all_goals (first | (apply ol_gskip; rfl; rfl; exact qA; rfl) | (apply ol_gval; rfl; rfl; rfl; exact qA; apply stp_pur; apply s_fieldAddr'; rfl; exact fd_25_1; exact qZ)); all_goals (first | (apply ol_gskip; rfl; rfl; exact qA; rfl) | (apply ol_gval; rfl; rfl; rfl; exact qA; apply stp_pur; apply s_load1; rfl; rfl; exact qP)); all_goals (first | (apply ol_gskip; rfl; rfl; exact qA; rfl) | (apply ol_gval; rfl; rfl; rfl; exact qA; apply stp_pur; apply s_fieldAddr'; rfl; exact fd_25_1; exact qZ)); all_goals (first | (apply ol_gskip; rfl; rfl; exact qA; rfl) | (apply ol_gval; rfl; rfl; rfl; exact qA; apply stp_pur; apply s_load1; rfl; rfl; exact qP)); all_goals (first | (apply ol_gskip; rfl; rfl; exact qA; rfl) | (apply ol_gval; rfl; rfl; rfl; exact qA; apply stp_cmp; apply s_neq; rfl; rfl; all_goals (intro hc16; try (exfalso; (first | exact hc16 rfl | omega))))); all_goals (apply ol_val; rfl; apply stp_pur; first | (apply s_pick_t; rfl; exact qA; rfl) | (apply s_pick_f; rfl; exact qA; rfl)); all_goals (apply ol_mv; rfl; rfl); all_goals (first | (apply ol_gskip; rfl; rfl; exact qA; rfl) | (apply ol_gval; rfl; rfl; rfl; exact qA; apply stp_pur; apply s_fieldAddr'; rfl; exact fd_25_2; exact qZ)); all_goals (first | (apply ol_gskip; rfl; rfl; exact qA; rfl) | (apply ol_gval; rfl; rfl; rfl; exact qA; apply stp_pur; apply s_load1; rfl; rfl; exact qP)); all_goals (apply ol_gskip; rfl; rfl; exact qA; rfl); all_goals (first | (apply ol_gskip; rfl; rfl; exact qA; rfl) | (apply ol_gval; rfl; rfl; rfl; exact qA; apply stp_pur; apply s_fieldAddr'; rfl; exact fd_25_2; exact qZ)); all_goals (first | (apply ol_gskip; rfl; rfl; exact qA; rfl) | (apply ol_gval; rfl; rfl; rfl; exact qA; apply stp_pur; apply s_load1; rfl; rfl; exact qP)); all_goals (apply ol_gskip; rfl; rfl; exact qA; rfl); all_goals (first | (apply ol_gskip; rfl; rfl; exact qA; rfl) | (apply ol_gval; rfl; rfl; rfl; exact qA; apply stp_pur; apply s_neqStr; rfl; rfl)); all_goals (apply ol_val; rfl; apply stp_pur; first | (apply s_pick_t; rfl; exact qA; rfl) | (apply s_pick_f; rfl; exact qA; rfl)); all_goals (apply ol_mv; rfl; rfl); all_goals (first | (apply ol_gskip; rfl; rfl; exact qA; rfl) | (apply ol_gval; rfl; rfl; rfl; exact qA; apply stp_pur; apply s_fieldAddr'; rfl; exact fd_25_3; exact qZ)); all_goals (first | (apply ol_gskip; rfl; rfl; exact qA; rfl) | (apply ol_gval; rfl; rfl; rfl; exact qA; apply stp_pur; apply s_load1; rfl; rfl; exact qP)); all_goals (first | (apply ol_gskip; rfl; rfl; exact qA; rfl) | (apply ol_gval; rfl; rfl; rfl; exact qA; apply stp_pur; apply s_len; rfl; exact el_23)); all_goals (first | (apply ol_gskip; rfl; rfl; exact qA; rfl) | (apply ol_gval; rfl; rfl; rfl; exact qA; apply stp_pur; apply s_fieldAddr'; rfl; exact fd_25_3; exact qZ)); all_goals (first | (apply ol_gskip; rfl; rfl; exact qA; rfl) | (apply ol_gval; rfl; rfl; rfl; exact qA; apply stp_pur; apply s_load1; rfl; rfl; exact qP)); all_goals (first | (apply ol_gskip; rfl; rfl; exact qA; rfl) | (apply ol_gval; rfl; rfl; rfl; exact qA; apply stp_pur; apply s_len; rfl; exact el_23)); all_goals (first | (apply ol_gskip; rfl; rfl; exact qA; rfl) | (apply ol_gval; rfl; rfl; rfl; exact qA; apply stp_cmp; apply s_neq; rfl; rfl; all_goals (intro hc34; try (exfalso; (first | exact hc34 rfl | omega))))); all_goals (apply ol_val; rfl; apply stp_pur; first | (apply s_pick_t; rfl; exact qA; rfl) | (apply s_pick_f; rfl; exact qA; rfl)); all_goals (apply ol_nil))
      | (refine cw_region_id 2 ?_; (apply ol_as; rfl; rfl); (apply ol_nil))
      | (apply cw_cond_true; rfl; exact qA)
      | (apply cw_cond_false; rfl; exact qA)
      | apply cw_skip
      | apply cw_ret
      | apply cw_block
      | apply cw_exit
    all_goals (refine ends [] (RVal.tmp rfl RVal.nil) Pick.nil ?_; rfl)
  · rw [decide_eq_false h] at hbe
    have hbn : (!((strOf xs).toList == (strOf ys).toList)) = true := by rw [hbe]; rfl
    repeat' first
      | apply cw_seq
      | (refine cw_region_id 0 ?_; (apply ol_val; rfl; first | (apply s_boxN; rfl; intro bk2) | (apply s_box1; rfl; rfl; intro bk2)); (apply ol_val; rfl; first | (apply s_boxN; rfl; intro bk3) | (apply s_box1; rfl; rfl; intro bk3)); (apply ol_as; rfl; rfl); (apply ol_nil))
      | (refine cw_region_id 1 ?_; (apply ol_fa; rfl; rfl; exact fd_25_0; exact qZ); (apply ol_ld; rfl; rfl; rfl; exact qP); (apply ol_fa; rfl; rfl; exact fd_25_0; exact qZ); (apply ol_ld; rfl; rfl; rfl; exact qP); (apply ol_val; rfl; apply stp_cmp; apply s_neq; rfl; rfl; all_goals (intro hc10; try (exfalso; (first | exact hc10 rfl | omega)))); all_goals (apply ol_mv; rfl; rfl); all_goals (first | (apply ol_gskip; rfl; rfl; exact qA; rfl) | (apply ol_gval; rfl; rfl; rfl; exact qA; apply stp_pur; apply s_fieldAddr'; rfl; exact fd_25_1; exact qZ)); all_goals (first | (apply ol_gskip; rfl; rfl; exact qA; rfl) | (apply ol_gval; rfl; rfl; rfl; exact qA; apply stp_pur; apply s_load1; rfl; rfl; exact qP)); all_goals (first | (apply ol_gskip; rfl; rfl; exact qA; rfl) | (apply ol_gval; rfl; rfl; rfl; exact qA; apply stp_pur; apply s_fieldAddr'; rfl; exact fd_25_1; exact qZ)); all_goals (first | (apply ol_gskip; rfl; rfl; exact qA; rfl) | (apply ol_gval; rfl; rfl; rfl; exact qA; apply stp_pur; apply s_load1; rfl; rfl; exact qP)); all_goals (first | (apply ol_gskip; rfl; rfl; exact qA; rfl) | (apply ol_gval; rfl; rfl; rfl; exact qA; apply stp_cmp; apply s_neq; rfl; rfl; all_goals (intro hc16; try (exfalso; (first | exact hc16 rfl | omega))))); all_goals (apply ol_val; rfl; apply stp_pur; first | (apply s_pick_t; rfl; exact qA; rfl) | (apply s_pick_f; rfl; exact qA; rfl)); all_goals (apply ol_mv; rfl; rfl); all_goals (first | (apply ol_gskip; rfl; rfl; exact qA; rfl) | (apply ol_gval; rfl; rfl; rfl; exact qA; apply stp_pur; apply s_fieldAddr'; rfl; exact fd_25_2; exact qZ)); all_goals (first | (apply ol_gskip; rfl; rfl; exact qA; rfl) | (apply ol_gval; rfl; rfl; rfl; exact qA; apply stp_pur; apply s_load1; rfl; rfl; exact qP)); all_goals (first | (apply ol_gskip; rfl; rfl; exact qA; rfl) | (apply ol_gval; rfl; rfl; rfl; exact qA; apply stp_pur; first | (apply s_convBS; rfl; exact el_22; exact tdInt_eq ti_5; exact us_9; exact sB.atn rfl; rfl; exact sB.rd rfl) | (apply s_convBS; rfl; exact el_22; exact tdInt_eq ti_5; exact us_9; exact sB2.atn rfl; rfl; exact sB2.rd rfl))); all_goals (first | (apply ol_gskip; rfl; rfl; exact qA; rfl) | (apply ol_gval; rfl; rfl; rfl; exact qA; apply stp_pur; apply s_fieldAddr'; rfl; exact fd_25_2; exact qZ)); all_goals (first | (apply ol_gskip; rfl; rfl; exact qA; rfl) | (apply ol_gval; rfl; rfl; rfl; exact qA; apply stp_pur; apply s_load1; rfl; rfl; exact qP)); all_goals (first | (apply ol_gskip; rfl; rfl; exact qA; rfl) | (apply ol_gval; rfl; rfl; rfl; exact qA; apply stp_pur; first | (apply s_convBS; rfl; exact el_22; exact tdInt_eq ti_5; exact us_9; exact sB.atn rfl; rfl; exact sB.rd rfl) | (apply s_convBS; rfl; exact el_22; exact tdInt_eq ti_5; exact us_9; exact sB2.atn rfl; rfl; exact sB2.rd rfl))); all_goals (first | (apply ol_gskip; rfl; rfl; exact qA; rfl) | (apply ol_gval; rfl; rfl; rfl; exact qA; apply stp_pur; apply s_neqStr; rfl; rfl)); all_goals (apply ol_val; rfl; apply stp_pur; first | (apply s_pick_t; rfl; exact qA; rfl) | (apply s_pick_f; rfl; exact qA; rfl)); all_goals (apply ol_mv; rfl; rfl); all_goals (first | (apply ol_gskip; rfl; rfl; exact qA; rfl) | (apply ol_gval; rfl; rfl; rfl; exact qA; apply stp_pur; apply s_fieldAddr'; rfl; exact fd_25_3; exact qZ)); all_goals (first | (apply ol_gskip; rfl; rfl; exact qA; rfl) | (apply ol_gval; rfl; rfl; rfl; exact qA; apply stp_pur; apply s_load1; rfl; rfl; exact qP)); all_goals (first | (apply ol_gskip; rfl; rfl; exact qA; rfl) | (apply ol_gval; rfl; rfl; rfl; exact qA; apply stp_pur; apply s_len; rfl; exact el_23)); all_goals (first | (apply ol_gskip; rfl; rfl; exact qA; rfl) | (apply ol_gval; rfl; rfl; rfl; exact qA; apply stp_pur; apply s_fieldAddr'; rfl; exact fd_25_3; exact qZ)); all_goals (first | (apply ol_gskip; rfl; rfl; exact qA; rfl) | (apply ol_gval; rfl; rfl; rfl; exact qA; apply stp_pur; apply s_load1; rfl; rfl; exact qP)); all_goals (first | (apply ol_gskip; rfl; rfl; exact qA; rfl) | (apply ol_gval; rfl; rfl; rfl; exact qA; apply stp_pur; apply s_len; rfl; exact el_23)); all_goals (first | (apply ol_gskip; rfl; rfl; exact qA; rfl) | (apply ol_gval; rfl; rfl; rfl; exact qA; apply stp_cmp; apply s_neq; rfl; rfl; all_goals (intro hc34; try (exfalso; (first | exact hc34 rfl | omega))))); all_goals (apply ol_val; rfl; apply stp_pur; first | (apply s_pick_t; rfl; exact qA; rfl) | (apply s_pick_f; rfl; exact qA; rfl)); all_goals (apply ol_nil))
      | (refine cw_region_id 2 ?_; (apply ol_as; rfl; rfl); (apply ol_nil))
      | (apply cw_cond_true; rfl; exact qA)
      | (apply cw_cond_false; rfl; exact qA)
      | apply cw_skip
      | apply cw_ret
      | apply cw_block
      | apply cw_exit
    all_goals (refine ends [] (RVal.tmp rfl RVal.nil) Pick.nil ?_; rfl)
  · rw [decide_eq_true rfl] at hbe
    have hbn : (!((strOf xs).toList == (strOf xs).toList)) = false := by rw [hbe]; rfl
    repeat' first
      | apply cw_seq
      | (refine cw_region_id 0 ?_; (apply ol_val; rfl; first | (apply s_boxN; rfl; intro bk2) | (apply s_box1; rfl; rfl; intro bk2)); (apply ol_val; rfl; first | (apply s_boxN; rfl; intro bk3) | (apply s_box1; rfl; rfl; intro bk3)); (apply ol_as; rfl; rfl); (apply ol_nil))
      | (refine cw_region_id 1 ?_; (apply ol_fa; rfl; rfl; exact fd_25_0; exact qZ); (apply ol_ld; rfl; rfl; rfl; exact qP); (apply ol_fa; rfl; rfl; exact fd_25_0; exact qZ); (apply ol_ld; rfl; rfl; rfl; exact qP); (apply ol_val; rfl; apply stp_cmp; apply s_neq; rfl; rfl; all_goals (intro hc10; try (exfalso; (first | exact hc10 rfl | omega)))); all_goals (apply ol_mv; rfl; rfl); all_goals (first | (apply ol_gskip; rfl; rfl; exact qA; rfl) | (apply ol_gval; rfl; rfl; rfl; exact qA; apply stp_pur; apply s_fieldAddr'; rfl; exact fd_25_1; exact qZ)); all_goals (first | (apply ol_gskip; rfl; rfl; exact qA; rfl) | (apply ol_gval; rfl; rfl; rfl; exact qA; apply stp_pur; apply s_load1; rfl; rfl; exact qP)); all_goals (first | (apply ol_gskip; rfl; rfl; exact qA; rfl) | (apply ol_gval; rfl; rfl; rfl; exact qA; apply stp_pur; apply s_fieldAddr'; rfl; exact fd_25_1; exact qZ)); all_goals (first | (apply ol_gskip; rfl; rfl; exact qA; rfl) | (apply ol_gval; rfl; rfl; rfl; exact qA; apply stp_pur; apply s_load1; rfl; rfl; exact qP)); all_goals (first | (apply ol_gskip; rfl; rfl; exact qA; rfl) | (apply ol_gval; rfl; rfl; rfl; exact qA; apply stp_cmp; apply s_neq; rfl; rfl; all_goals (intro hc16; try (exfalso; (first | exact hc16 rfl | omega))))); all_goals (apply ol_val; rfl; apply stp_pur; first | (apply s_pick_t; rfl; exact qA; rfl) | (apply s_pick_f; rfl; exact qA; rfl)); all_goals (apply ol_mv; rfl; rfl); all_goals (first | (apply ol_gskip; rfl; rfl; exact qA; rfl) | (apply ol_gval; rfl; rfl; rfl; exact qA; apply stp_pur; apply s_fieldAddr'; rfl; exact fd_25_2; exact qZ)); all_goals (first | (apply ol_gskip; rfl; rfl; exact qA; rfl) | (apply ol_gval; rfl; rfl; rfl; exact qA; apply stp_pur; apply s_load1; rfl; rfl; exact qP)); all_goals (first | (apply ol_gskip; rfl; rfl; exact qA; rfl) | (apply ol_gval; rfl; rfl; rfl; exact qA; apply stp_pur; first | (apply s_convBS; rfl; exact el_22; exact tdInt_eq ti_5; exact us_9; exact sB.atn rfl; rfl; exact sB.rd rfl) | (apply s_convBS; rfl; exact el_22; exact tdInt_eq ti_5; exact us_9; exact sB2.atn rfl; rfl; exact sB2.rd rfl))); all_goals (first | (apply ol_gskip; rfl; rfl; exact qA; rfl) | (apply ol_gval; rfl; rfl; rfl; exact qA; apply stp_pur; apply s_fieldAddr'; rfl; exact fd_25_2; exact qZ)); all_goals (first | (apply ol_gskip; rfl; rfl; exact qA; rfl) | (apply ol_gval; rfl; rfl; rfl; exact qA; apply stp_pur; apply s_load1; rfl; rfl; exact qP)); all_goals (first | (apply ol_gskip; rfl; rfl; exact qA; rfl) | (apply ol_gval; rfl; rfl; rfl; exact qA; apply stp_pur; first | (apply s_convBS; rfl; exact el_22; exact tdInt_eq ti_5; exact us_9; exact sB.atn rfl; rfl; exact sB.rd rfl) | (apply s_convBS; rfl; exact el_22; exact tdInt_eq ti_5; exact us_9; exact sB2.atn rfl; rfl; exact sB2.rd rfl))); all_goals (first | (apply ol_gskip; rfl; rfl; exact qA; rfl) | (apply ol_gval; rfl; rfl; rfl; exact qA; apply stp_pur; apply s_neqStr; rfl; rfl)); all_goals (apply ol_val; rfl; apply stp_pur; first | (apply s_pick_t; rfl; exact qA; rfl) | (apply s_pick_f; rfl; exact qA; rfl)); all_goals (apply ol_mv; rfl; rfl); all_goals (first | (apply ol_gskip; rfl; rfl; exact qA; rfl) | (apply ol_gval; rfl; rfl; rfl; exact qA; apply stp_pur; apply s_fieldAddr'; rfl; exact fd_25_3; exact qZ)); all_goals (first | (apply ol_gskip; rfl; rfl; exact qA; rfl) | (apply ol_gval; rfl; rfl; rfl; exact qA; apply stp_pur; apply s_load1; rfl; rfl; exact qP)); all_goals (first | (apply ol_gskip; rfl; rfl; exact qA; rfl) | (apply ol_gval; rfl; rfl; rfl; exact qA; apply stp_pur; apply s_len; rfl; exact el_23)); all_goals (first | (apply ol_gskip; rfl; rfl; exact qA; rfl) | (apply ol_gval; rfl; rfl; rfl; exact qA; apply stp_pur; apply s_fieldAddr'; rfl; exact fd_25_3; exact qZ)); all_goals (first | (apply ol_gskip; rfl; rfl; exact qA; rfl) | (apply ol_gval; rfl; rfl; rfl; exact qA; apply stp_pur; apply s_load1; rfl; rfl; exact qP)); all_goals (first | (apply ol_gskip; rfl; rfl; exact qA; rfl) | (apply ol_gval; rfl; rfl; rfl; exact qA; apply stp_pur; apply s_len; rfl; exact el_23)); all_goals (first | (apply ol_gskip; rfl; rfl; exact qA; rfl) | (apply ol_gval; rfl; rfl; rfl; exact qA; apply stp_cmp; apply s_neq; rfl; rfl; all_goals (intro hc34; try (exfalso; (first | exact hc34 rfl | omega))))); all_goals (apply ol_val; rfl; apply stp_pur; first | (apply s_pick_t; rfl; exact qA; rfl) | (apply s_pick_f; rfl; exact qA; rfl)); all_goals (apply ol_nil))
      | (refine cw_region_id 2 ?_; (apply ol_as; rfl; rfl); (apply ol_nil))
      | (apply cw_cond_true; rfl; exact qA)
      | (apply cw_cond_false; rfl; exact qA)
      | apply cw_skip
      | apply cw_ret
      | apply cw_block
      | apply cw_exit
    all_goals (refine ends [] (RVal.tmp rfl RVal.nil) Pick.nil ?_; rfl)
theorem rsame_spec : ∀ (d : Nat) {M : View} {w : World}, View.le M (View.of w) → ∀ {x y : It d}, ItV M d x → ItV M d y → fullI d x → fullI d y →
    FnC Tryd.prog 19 [.agg x.enc.toArray, .agg y.enc.toArray] w (fun v _ => v = .bool (sameI d x y)) := by
  intro d
  induction d with
  | zero =>
    intro M w hM x y hx hy fx fy
    cases h : sameH x.hd y.hd with
    | false =>
      rw [sameI_head h]
      exact rsame_no hM hx.head hy.head h
    | true =>
      have e : sameI 0 x y = true := h
      rw [e]
      clear e
      have fx : x.hd.m = 0 := fx
      have fy : y.hd.m = 0 := fy
      have hx := hx.head
      have hy := hy.head
      unfold It.enc
      generalize x.hd = a at *
      generalize y.hd = b at *
      obtain ⟨k, n, ⟨xs, Ba, Bb, Bo, Bc⟩, La, Lb, Lo, Lc, m⟩ := a
      obtain ⟨k2, n2, ⟨ys, Ba2, Bb2, Bo2, Bc2⟩, La2, Lb2, Lo2, Lc2, m2⟩ := b
      obtain ⟨rfl, rfl, rfl, rfl⟩ : k = k2 ∧ n = n2 ∧ xs = ys ∧ m = m2 := sameH_iff.1 h
      obtain ⟨sB, hb, _, _⟩ := hx
      obtain ⟨sB2, hb2, _, _⟩ := hy
      dsimp only at sB sB2 hb hb2 fx fy ⊢
      have hbe := strOf_beq hb hb
      rw [decide_eq_true rfl] at hbe
      have hbn : (!((strOf xs).toList == (strOf xs).toList)) = false := by rw [hbe]; rfl
      refine enterF (M := M) Tryd.func19 rfl rfl rfl rfl hM ?_
      repeat' first
        | apply cw_seq
        | (refine cw_region_id 0 ?_; (apply ol_val; rfl; first | (apply s_boxN; rfl; intro bk2) | (apply s_box1; rfl; rfl; intro bk2)); (apply ol_val; rfl; first | (apply s_boxN; rfl; intro bk3) | (apply s_box1; rfl; rfl; intro bk3)); (apply ol_as; rfl; rfl); (apply ol_nil))
        | (refine cw_region_id 1 ?_; (apply ol_fa; rfl; rfl; exact fd_25_0; exact qZ); (apply ol_ld; rfl; rfl; rfl; exact qP); (apply ol_fa; rfl; rfl; exact fd_25_0; exact qZ); (apply ol_ld; rfl; rfl; rfl; exact qP); (apply ol_val; rfl; apply stp_cmp; apply s_neq; rfl; rfl; all_goals (intro hc10; try (exfalso; (first | exact hc10 rfl | omega)))); all_goals (apply ol_mv; rfl; rfl); all_goals (first | (apply ol_gskip; rfl; rfl; exact qA; rfl) | (apply ol_gval; rfl; rfl; rfl; exact qA; apply stp_pur; apply s_fieldAddr'; rfl; exact fd_25_1; exact qZ)); all_goals (first | (apply ol_gskip; rfl; rfl; exact qA; rfl) | (apply ol_gval; rfl; rfl; rfl; exact qA; apply stp_pur; apply s_load1; rfl; rfl; exact qP)); all_goals (first | (apply ol_gskip; rfl; rfl; exact qA; rfl) | (apply ol_gval; rfl; rfl; rfl; exact qA; apply stp_pur; apply s_fieldAddr'; rfl; exact fd_25_1; exact qZ)); all_goals (first | (apply ol_gskip; rfl; rfl; exact qA; rfl) | (apply ol_gval; rfl; rfl; rfl; exact qA; apply stp_pur; apply s_load1; rfl; rfl; exact qP)); all_goals (first | (apply ol_gskip; rfl; rfl; exact qA; rfl) | (apply ol_gval; rfl; rfl; rfl; exact qA; apply stp_cmp; apply s_neq; rfl; rfl; all_goals (intro hc16; try (exfalso; (first | exact hc16 rfl | omega))))); all_goals (apply ol_val; rfl; apply stp_pur; first | (apply s_pick_t; rfl; exact qA; rfl) | (apply s_pick_f; rfl; exact qA; rfl)); all_goals (apply ol_mv; rfl; rfl); all_goals (first | (apply ol_gskip; rfl; rfl; exact qA; rfl) | (apply ol_gval; rfl; rfl; rfl; exact qA; apply stp_pur; apply s_fieldAddr'; rfl; exact fd_25_2; exact qZ)); all_goals (first | (apply ol_gskip; rfl; rfl; exact qA; rfl) | (apply ol_gval; rfl; rfl; rfl; exact qA; apply stp_pur; apply s_load1; rfl; rfl; exact qP)); all_goals (first | (apply ol_gskip; rfl; rfl; exact qA; rfl) | (apply ol_gval; rfl; rfl; rfl; exact qA; apply stp_pur; first | (apply s_convBS; rfl; exact el_22; exact tdInt_eq ti_5; exact us_9; exact sB.atn rfl; rfl; exact sB.rd rfl) | (apply s_convBS; rfl; exact el_22; exact tdInt_eq ti_5; exact us_9; exact sB2.atn rfl; rfl; exact sB2.rd rfl))); all_goals (first | (apply ol_gskip; rfl; rfl; exact qA; rfl) | (apply ol_gval; rfl; rfl; rfl; exact qA; apply stp_pur; apply s_fieldAddr'; rfl; exact fd_25_2; exact qZ)); all_goals (first | (apply ol_gskip; rfl; rfl; exact qA; rfl) | (apply ol_gval; rfl; rfl; rfl; exact qA; apply stp_pur; apply s_load1; rfl; rfl; exact qP)); all_goals (first | (apply ol_gskip; rfl; rfl; exact qA; rfl) | (apply ol_gval; rfl; rfl; rfl; exact qA; apply stp_pur; first | (apply s_convBS; rfl; exact el_22; exact tdInt_eq ti_5; exact us_9; exact sB.atn rfl; rfl; exact sB.rd rfl) | (apply s_convBS; rfl; exact el_22; exact tdInt_eq ti_5; exact us_9; exact sB2.atn rfl; rfl; exact sB2.rd rfl))); all_goals (first | (apply ol_gskip; rfl; rfl; exact qA; rfl) | (apply ol_gval; rfl; rfl; rfl; exact qA; apply stp_pur; apply s_neqStr; rfl; rfl)); all_goals (apply ol_val; rfl; apply stp_pur; first | (apply s_pick_t; rfl; exact qA; rfl) | (apply s_pick_f; rfl; exact qA; rfl)); all_goals (apply ol_mv; rfl; rfl); all_goals (first | (apply ol_gskip; rfl; rfl; exact qA; rfl) | (apply ol_gval; rfl; rfl; rfl; exact qA; apply stp_pur; apply s_fieldAddr'; rfl; exact fd_25_3; exact qZ)); all_goals (first | (apply ol_gskip; rfl; rfl; exact qA; rfl) | (apply ol_gval; rfl; rfl; rfl; exact qA; apply stp_pur; apply s_load1; rfl; rfl; exact qP)); all_goals (first | (apply ol_gskip; rfl; rfl; exact qA; rfl) | (apply ol_gval; rfl; rfl; rfl; exact qA; apply stp_pur; apply s_len; rfl; exact el_23)); all_goals (first | (apply ol_gskip; rfl; rfl; exact qA; rfl) | (apply ol_gval; rfl; rfl; rfl; exact qA; apply stp_pur; apply s_fieldAddr'; rfl; exact fd_25_3; exact qZ)); all_goals (first | (apply ol_gskip; rfl; rfl; exact qA; rfl) | (apply ol_gval; rfl; rfl; rfl; exact qA; apply stp_pur; apply s_load1; rfl; rfl; exact qP)); all_goals (first | (apply ol_gskip; rfl; rfl; exact qA; rfl) | (apply ol_gval; rfl; rfl; rfl; exact qA; apply stp_pur; apply s_len; rfl; exact el_23)); all_goals (first | (apply ol_gskip; rfl; rfl; exact qA; rfl) | (apply ol_gval; rfl; rfl; rfl; exact qA; apply stp_cmp; apply s_neq; rfl; rfl; all_goals (intro hc34; try (exfalso; (first | exact hc34 rfl | omega))))); all_goals (apply ol_val; rfl; apply stp_pur; first | (apply s_pick_t; rfl; exact qA; rfl) | (apply s_pick_f; rfl; exact qA; rfl)); all_goals (apply ol_nil))
        | (refine cw_region_id 3 ?_; (apply ol_as; rfl; rfl); (apply ol_nil))
        | (apply cw_cond_true; rfl; exact qA)
        | (apply cw_cond_false; rfl; exact qA)
        | apply cw_skip
        | apply cw_ret
        | apply cw_block
        | apply cw_exit
      refine cw_loopK (σ := Nat) [2, 3] (by (repeat (first | exact Keep.nil | (apply Keep.cons; rfl)))) (fun i => [(5, .int .i64 i)]) (fun _ => M) (fun _ => [⟨some bk2, [.int .i64 k, .int .i64 n, .slice Ba xs.length Bc, .slice La m Lc], 25⟩]) (fun i => i = 0) (fun i => 1 - i) 0 (by (repeat (first | exact trivial | refine And.intro rfl ?_))) (View.le.refl _) (by exact qK) rfl ?_
      rintro i rfl
      repeat' first
        | apply cw_seq
        | (refine cw_region_id 4 ?_; (apply ol_mv; rfl; rfl); (apply ol_fa; rfl; rfl; exact fd_25_3; exact qZ); (apply ol_ld; rfl; rfl; rfl; exact qP); (apply ol_val; rfl; apply stp_pur; apply s_len; rfl; exact el_23); (apply ol_val; rfl; apply stp_cmp; apply s_lss; rfl; rfl; all_goals (intro hc40; try (exfalso; (first | exact hc40 rfl | omega)))); all_goals (apply ol_nil))
        | (refine cw_region_id 8 ?_; (apply ol_as; rfl; rfl); (apply ol_nil))
        | (apply cw_cond_true; rfl; exact qA)
        | (apply cw_cond_false; rfl; exact qA)
        | apply cw_skip
        | apply cw_ret
        | apply cw_block
        | apply cw_exit
      all_goals (refine ends [] (RVal.tmp rfl RVal.nil) Pick.nil ?_; rfl)
  | succ d ih =>
    intro M w hM x y hx hy fx fy
    cases h : sameH x.hd y.hd with
    | false =>
      rw [sameI_head h]
      exact rsame_no hM hx.head hy.head h
    | true =>
      obtain ⟨a, L⟩ := x
      obtain ⟨b, L'⟩ := y
      have e : sameI (d + 1) (a, L) (b, L') = (L.zip L').all fun p => sameI d p.1 p.2 := by
        show (sameH a b && (L.zip L').all fun p => sameI d p.1 p.2) = _
        rw [show sameH a b = true from h, Bool.true_and]
      rw [e]
      clear e
      obtain ⟨⟨sB, hb, _, hmb⟩, hl, sL, hLi⟩ := hx
      obtain ⟨⟨sB2, hb2, _, _⟩, hl', sL', hLi'⟩ := hy
      unfold It.enc
      have fx : ∀ z ∈ L, fullI d z := fx
      have fy : ∀ z ∈ L', fullI d z := fy
      simp only [It.hd] at h hl hl' sL sL' sB sB2 hb hb2 hLi hLi' hmb ⊢
      obtain ⟨k, n, ⟨xs, Ba, Bb, Bo, Bc⟩, La, Lb, Lo, Lc, m⟩ := a
      obtain ⟨k2, n2, ⟨ys, Ba2, Bb2, Bo2, Bc2⟩, La2, Lb2, Lo2, Lc2, m2⟩ := b
      obtain ⟨rfl, rfl, rfl, rfl⟩ : k = k2 ∧ n = n2 ∧ xs = ys ∧ m = m2 := sameH_iff.1 h
      dsimp only at sB sB2 hb hb2 hl hl' sL sL' hmb ⊢
      have hbe := strOf_beq hb hb
      rw [decide_eq_true rfl] at hbe
      have hbn : (!((strOf xs).toList == (strOf xs).toList)) = false := by rw [hbe]; rfl
      refine enterF (M := M) Tryd.func19 rfl rfl rfl rfl hM ?_
      repeat' first
        | apply cw_seq
        | (refine cw_region_id 0 ?_; (apply ol_val; rfl; first | (apply s_boxN; rfl; intro bk2) | (apply s_box1; rfl; rfl; intro bk2)); (apply ol_val; rfl; first | (apply s_boxN; rfl; intro bk3) | (apply s_box1; rfl; rfl; intro bk3)); (apply ol_as; rfl; rfl); (apply ol_nil))
        | (refine cw_region_id 1 ?_; (apply ol_fa; rfl; rfl; exact fd_25_0; exact qZ); (apply ol_ld; rfl; rfl; rfl; exact qP); (apply ol_fa; rfl; rfl; exact fd_25_0; exact qZ); (apply ol_ld; rfl; rfl; rfl; exact qP); (apply ol_val; rfl; apply stp_cmp; apply s_neq; rfl; rfl; all_goals (intro hc10; try (exfalso; (first | exact hc10 rfl | omega)))); all_goals (apply ol_mv; rfl; rfl); all_goals (first | (apply ol_gskip; rfl; rfl; exact qA; rfl) | (apply ol_gval; rfl; rfl; rfl; exact qA; apply stp_pur; apply s_fieldAddr'; rfl; exact fd_25_1; exact qZ)); all_goals (first | (apply ol_gskip; rfl; rfl; exact qA; rfl) | (apply ol_gval; rfl; rfl; rfl; exact qA; apply stp_pur; apply s_load1; rfl; rfl; exact qP)); all_goals (first | (apply ol_gskip; rfl; rfl; exact qA; rfl) | (apply ol_gval; rfl; rfl; rfl; exact qA; apply stp_pur; apply s_fieldAddr'; rfl; exact fd_25_1; exact qZ)); all_goals (first | (apply ol_gskip; rfl; rfl; exact qA; rfl) | (apply ol_gval; rfl; rfl; rfl; exact qA; apply stp_pur; apply s_load1; rfl; rfl; exact qP)); all_goals (first | (apply ol_gskip; rfl; rfl; exact qA; rfl) | (apply ol_gval; rfl; rfl; rfl; exact qA; apply stp_cmp; apply s_neq; rfl; rfl; all_goals (intro hc16; try (exfalso; (first | exact hc16 rfl | omega))))); all_goals (apply ol_val; rfl; apply stp_pur; first | (apply s_pick_t; rfl; exact qA; rfl) | (apply s_pick_f; rfl; exact qA; rfl)); all_goals (apply ol_mv; rfl; rfl); all_goals (first | (apply ol_gskip; rfl; rfl; exact qA; rfl) | (apply ol_gval; rfl; rfl; rfl; exact qA; apply stp_pur; apply s_fieldAddr'; rfl; exact fd_25_2; exact qZ)); all_goals (first | (apply ol_gskip; rfl; rfl; exact qA; rfl) | (apply ol_gval; rfl; rfl; rfl; exact qA; apply stp_pur; apply s_load1; rfl; rfl; exact qP)); all_goals (first | (apply ol_gskip; rfl; rfl; exact qA; rfl) | (apply ol_gval; rfl; rfl; rfl; exact qA; apply stp_pur; first | (apply s_convBS; rfl; exact el_22; exact tdInt_eq ti_5; exact us_9; exact sB.atn rfl; rfl; exact sB.rd rfl) | (apply s_convBS; rfl; exact el_22; exact tdInt_eq ti_5; exact us_9; exact sB2.atn rfl; rfl; exact sB2.rd rfl))); all_goals (first | (apply ol_gskip; rfl; rfl; exact qA; rfl) | (apply ol_gval; rfl; rfl; rfl; exact qA; apply stp_pur; apply s_fieldAddr'; rfl; exact fd_25_2; exact qZ)); all_goals (first | (apply ol_gskip; rfl; rfl; exact qA; rfl) | (apply ol_gval; rfl; rfl; rfl; exact qA; apply stp_pur; apply s_load1; rfl; rfl; exact qP)); all_goals (first | (apply ol_gskip; rfl; rfl; exact qA; rfl) | (apply ol_gval; rfl; rfl; rfl; exact qA; apply stp_pur; first | (apply s_convBS; rfl; exact el_22; exact tdInt_eq ti_5; exact us_9; exact sB.atn rfl; rfl; exact sB.rd rfl) | (apply s_convBS; rfl; exact el_22; exact tdInt_eq ti_5; exact us_9; exact sB2.atn rfl; rfl; exact sB2.rd rfl))); all_goals (first | (apply ol_gskip; rfl; rfl; exact qA; rfl) | (apply ol_gval; rfl; rfl; rfl; exact qA; apply stp_pur; apply s_neqStr; rfl; rfl)); all_goals (apply ol_val; rfl; apply stp_pur; first | (apply s_pick_t; rfl; exact qA; rfl) | (apply s_pick_f; rfl; exact qA; rfl)); all_goals (apply ol_mv; rfl; rfl); all_goals (first | (apply ol_gskip; rfl; rfl; exact qA; rfl) | (apply ol_gval; rfl; rfl; rfl; exact qA; apply stp_pur; apply s_fieldAddr'; rfl; exact fd_25_3; exact qZ)); all_goals (first | (apply ol_gskip; rfl; rfl; exact qA; rfl) | (apply ol_gval; rfl; rfl; rfl; exact qA; apply stp_pur; apply s_load1; rfl; rfl; exact qP)); all_goals (first | (apply ol_gskip; rfl; rfl; exact qA; rfl) | (apply ol_gval; rfl; rfl; rfl; exact qA; apply stp_pur; apply s_len; rfl; exact el_23)); all_goals (first | (apply ol_gskip; rfl; rfl; exact qA; rfl) | (apply ol_gval; rfl; rfl; rfl; exact qA; apply stp_pur; apply s_fieldAddr'; rfl; exact fd_25_3; exact qZ)); all_goals (first | (apply ol_gskip; rfl; rfl; exact qA; rfl) | (apply ol_gval; rfl; rfl; rfl; exact qA; apply stp_pur; apply s_load1; rfl; rfl; exact qP)); all_goals (first | (apply ol_gskip; rfl; rfl; exact qA; rfl) | (apply ol_gval; rfl; rfl; rfl; exact qA; apply stp_pur; apply s_len; rfl; exact el_23)); all_goals (first | (apply ol_gskip; rfl; rfl; exact qA; rfl) | (apply ol_gval; rfl; rfl; rfl; exact qA; apply stp_cmp; apply s_neq; rfl; rfl; all_goals (intro hc34; try (exfalso; (first | exact hc34 rfl | omega))))); all_goals (apply ol_val; rfl; apply stp_pur; first | (apply s_pick_t; rfl; exact qA; rfl) | (apply s_pick_f; rfl; exact qA; rfl)); all_goals (apply ol_nil))
        | (refine cw_region_id 3 ?_; (apply ol_as; rfl; rfl); (apply ol_nil))
        | (apply cw_cond_true; rfl; exact qA)
        | (apply cw_cond_false; rfl; exact qA)
        | apply cw_skip
        | apply cw_ret
        | apply cw_block
        | apply cw_exit
      refine cw_loopK (σ := Nat) [2, 3] (by (repeat (first | exact Keep.nil | (apply Keep.cons; rfl)))) (fun i => [(5, .int .i64 i)]) (fun _ => M) (fun _ => [⟨some bk2, [.int .i64 k, .int .i64 n, .slice Ba xs.length Bc, .slice La m Lc], 25⟩, ⟨some bk3, [.int .i64 k, .int .i64 n, .slice Ba2 xs.length Bc2, .slice La2 m Lc2], 25⟩]) (fun i => i ≤ m ∧ ((L.zip L').take i).all (fun p => sameI d p.1 p.2) = true) (fun i => m - i) 0 (by (repeat (first | exact trivial | refine And.intro rfl ?_))) (View.le.refl _) (by exact qK) ⟨Nat.zero_le _, rfl⟩ ?_
      rintro i ⟨hi, hall⟩
      have hzl : (L.zip L').length = m := by rw [List.length_zip]; omega
      by_cases him : i < m
      · have h1 : i < L.length := by omega
        have h2 : i < L'.length := by omega
        have h3 : i < (L.zip L').length := by omega
        have hz : (L.zip L')[i] = (L[i], L'[i]) := List.getElem_zip
        have c1 := sL.cells i h1
        have c2 := sL'.cells i h2
        have kS := fun (w' : World) (h : View.le M (View.of w')) => ih h (hLi L[i] (List.getElem_mem h1)) (hLi' L'[i] (List.getElem_mem h2)) (fx L[i] (List.getElem_mem h1)) (fy L'[i] (List.getElem_mem h2))
        have htk : ((L.zip L').take (i + 1)).all (fun p => sameI d p.1 p.2) = sameI d L[i] L'[i] := by rw [List.take_succ_eq_append_getElem h3, List.all_append, hall, hz]; simp
        have hbad : sameI d L[i] L'[i] = false → ((L.zip L').all fun p => sameI d p.1 p.2) = false := fun h => by
          rw [List.all_eq_false]
          exact ⟨_, List.getElem_mem h3, by rw [hz, h]; simp⟩
        clear hz hLi hLi'
        generalize L[i] = z at *
        generalize L'[i] = z' at *
        cases hq : sameI d z z' with
        | true =>
          rw [hq] at kS htk
          repeat' first
            | apply cw_seq
            | (refine cw_region_id 4 ?_; (apply ol_mv; rfl; rfl); (apply ol_fa; rfl; rfl; exact fd_25_3; exact qZ); (apply ol_ld; rfl; rfl; rfl; (first | exact qP | (apply RdN.view; first | exact c1 | exact c2))); (apply ol_val; rfl; apply stp_pur; apply s_len; rfl; exact el_23); (apply ol_val; rfl; apply stp_cmp; apply s_lss; rfl; rfl; all_goals (intro hc40; try (exfalso; (first | exact hc40 rfl | omega)))); all_goals (apply ol_nil))
            | (refine cw_isreg 6 ?_; refine cw_draw (id := 6) 12 (.mv 0 (.mv 1 (.mv 2 (.mv 3 (.mv 4 (.mv 5 (.mv 6 (.mv 7 (.mv 8 (.mv 9 (.fx 10 (.mv 11 (PT.nil))))))))))))) mixed (by kernel_rfl) ?_; (apply od_mv; rfl; rfl; apply s_fieldAddr'; rfl; exact fd_25_3; exact qZ); (apply od_mv; rfl; rfl; apply s_load1; rfl; rfl; (first | exact qP | (apply RdN.view; first | exact c1 | exact c2))); (apply od_mv; rfl; rfl; apply s_move; rfl); (apply od_mv; rfl; rfl; first | (apply s_indexK; rfl; rfl; exact el_23; exact sz_25; (first | rfl | (first | exact sL.at_ (by omega) | exact sL'.at_ (by omega))); omega) | (apply s_indexO; rfl; rfl; exact el_23; exact sz_25; (first | rfl | (first | exact sL.at_ (by omega) | exact sL'.at_ (by omega))); omega)); (apply od_mv; rfl; rfl; apply s_loadN; rfl; rfl; exact sz_25; (first | exact qQ | (apply RdN.view; first | exact c1 | exact c2))); (apply od_mv; rfl; rfl; apply s_fieldAddr'; rfl; exact fd_25_3; exact qZ); (apply od_mv; rfl; rfl; apply s_load1; rfl; rfl; (first | exact qP | (apply RdN.view; first | exact c1 | exact c2))); (apply od_mv; rfl; rfl; apply s_move; rfl); (apply od_mv; rfl; rfl; first | (apply s_indexK; rfl; rfl; exact el_23; exact sz_25; (first | rfl | (first | exact sL.at_ (by omega) | exact sL'.at_ (by omega))); omega) | (apply s_indexO; rfl; rfl; exact el_23; exact sz_25; (first | rfl | (first | exact sL.at_ (by omega) | exact sL'.at_ (by omega))); omega)); (apply od_mv; rfl; rfl; apply s_loadN; rfl; rfl; exact sz_25; (first | exact qQ | (apply RdN.view; first | exact c1 | exact c2))); (apply od_fx; (first | exact Wk.refl _ _ | exact qW); (apply fx_val; rfl; rfl; apply s_callv; rfl; exact gf_19; (intro w' hw'; exact kS w' hw'.le))); (apply od_mv; rfl; rfl; first | (apply s_not_t; rfl; exact qA) | (apply s_not_f; rfl; exact qA) | (apply s_not; rfl)); (apply od_nil; (first | exact Wk.refl _ _ | exact qW)); (apply ol_nil))
            | (refine cw_region_id 5 ?_; (apply ol_mv; rfl; rfl); (apply ol_val; rfl; apply stp_pur; apply s_add64; rfl; rfl; omega); (apply ol_as; rfl; rfl); (apply ol_nil))
            | (apply cw_cond_true; rfl; exact qA)
            | (apply cw_cond_false; rfl; exact qA)
            | apply cw_skip
            | apply cw_ret
            | apply cw_block
            | apply cw_exit
          all_goals (exact ⟨i + 1, ⟨by (repeat (first | exact trivial | refine And.intro rfl ?_)), View.le.refl _, by exact qK, ⟨him, htk⟩, by omega⟩⟩)
        | false =>
          rw [hq] at kS
          rw [hbad hq]
          repeat' first
            | apply cw_seq
            | (refine cw_region_id 4 ?_; (apply ol_mv; rfl; rfl); (apply ol_fa; rfl; rfl; exact fd_25_3; exact qZ); (apply ol_ld; rfl; rfl; rfl; (first | exact qP | (apply RdN.view; first | exact c1 | exact c2))); (apply ol_val; rfl; apply stp_pur; apply s_len; rfl; exact el_23); (apply ol_val; rfl; apply stp_cmp; apply s_lss; rfl; rfl; all_goals (intro hc40; try (exfalso; (first | exact hc40 rfl | omega)))); all_goals (apply ol_nil))
            | (refine cw_isreg 6 ?_; refine cw_draw (id := 6) 12 (.mv 0 (.mv 1 (.mv 2 (.mv 3 (.mv 4 (.mv 5 (.mv 6 (.mv 7 (.mv 8 (.mv 9 (.fx 10 (.mv 11 (PT.nil))))))))))))) mixed (by kernel_rfl) ?_; (apply od_mv; rfl; rfl; apply s_fieldAddr'; rfl; exact fd_25_3; exact qZ); (apply od_mv; rfl; rfl; apply s_load1; rfl; rfl; (first | exact qP | (apply RdN.view; first | exact c1 | exact c2))); (apply od_mv; rfl; rfl; apply s_move; rfl); (apply od_mv; rfl; rfl; first | (apply s_indexK; rfl; rfl; exact el_23; exact sz_25; (first | rfl | (first | exact sL.at_ (by omega) | exact sL'.at_ (by omega))); omega) | (apply s_indexO; rfl; rfl; exact el_23; exact sz_25; (first | rfl | (first | exact sL.at_ (by omega) | exact sL'.at_ (by omega))); omega)); (apply od_mv; rfl; rfl; apply s_loadN; rfl; rfl; exact sz_25; (first | exact qQ | (apply RdN.view; first | exact c1 | exact c2))); (apply od_mv; rfl; rfl; apply s_fieldAddr'; rfl; exact fd_25_3; exact qZ); (apply od_mv; rfl; rfl; apply s_load1; rfl; rfl; (first | exact qP | (apply RdN.view; first | exact c1 | exact c2))); (apply od_mv; rfl; rfl; apply s_move; rfl); (apply od_mv; rfl; rfl; first | (apply s_indexK; rfl; rfl; exact el_23; exact sz_25; (first | rfl | (first | exact sL.at_ (by omega) | exact sL'.at_ (by omega))); omega) | (apply s_indexO; rfl; rfl; exact el_23; exact sz_25; (first | rfl | (first | exact sL.at_ (by omega) | exact sL'.at_ (by omega))); omega)); (apply od_mv; rfl; rfl; apply s_loadN; rfl; rfl; exact sz_25; (first | exact qQ | (apply RdN.view; first | exact c1 | exact c2))); (apply od_fx; (first | exact Wk.refl _ _ | exact qW); (apply fx_val; rfl; rfl; apply s_callv; rfl; exact gf_19; (intro w' hw'; exact kS w' hw'.le))); (apply od_mv; rfl; rfl; first | (apply s_not_t; rfl; exact qA) | (apply s_not_f; rfl; exact qA) | (apply s_not; rfl)); (apply od_nil; (first | exact Wk.refl _ _ | exact qW)); (apply ol_nil))
            | (refine cw_region_id 7 ?_; (apply ol_as; rfl; rfl); (apply ol_nil))
            | (apply cw_cond_true; rfl; exact qA)
            | (apply cw_cond_false; rfl; exact qA)
            | apply cw_skip
            | apply cw_ret
            | apply cw_block
            | apply cw_exit
          all_goals (refine ends [] (RVal.tmp rfl RVal.nil) Pick.nil ?_; rfl)
      · rw [List.take_of_length_le (by omega)] at hall
        rw [hall]
        repeat' first
          | apply cw_seq
          | (refine cw_region_id 4 ?_; (apply ol_mv; rfl; rfl); (apply ol_fa; rfl; rfl; exact fd_25_3; exact qZ); (apply ol_ld; rfl; rfl; rfl; exact qP); (apply ol_val; rfl; apply stp_pur; apply s_len; rfl; exact el_23); (apply ol_val; rfl; apply stp_cmp; apply s_lss; rfl; rfl; all_goals (intro hc40; try (exfalso; (first | exact hc40 rfl | omega)))); all_goals (apply ol_nil))
          | (refine cw_region_id 8 ?_; (apply ol_as; rfl; rfl); (apply ol_nil))
          | (apply cw_cond_true; rfl; exact qA)
          | (apply cw_cond_false; rfl; exact qA)
          | apply cw_skip
          | apply cw_ret
          | apply cw_block
          | apply cw_exit
        all_goals (refine ends [] (RVal.tmp rfl RVal.nil) Pick.nil ?_; rfl)
end Go.Proofs.YtkkfgeekdaalmaaDoor
namespace Go.Proofs.YtkkfgeekdaalmaaDoor
set_option maxRecDepth 20000
set_option linter.unusedSimpArgs false
set_option linter.unusedVariables false
open Go Go.Fw
attribute [local irreducible] CW OL OD FX Stp FnC FnV FnA FnM Ret bI encI okI numB rdE rdN strOf
set_option maxHeartbeats 3200000
/-- Equal. -/
def eqP (x y : It 8) : Bool := okI 8 x && (okI 8 y && sameI 8 x y)
end Go.Proofs.YtkkfgeekdaalmaaDoor
namespace Go.Proofs.YtkkfgeekdaalmaaDoor
set_option maxRecDepth 20000
set_option linter.unusedSimpArgs false
set_option linter.unusedVariables false
open Go Go.Fw
/-- One more item is counted. -/
def cntS (f : Nat → Nat) (most n : Nat) : Nat := if n < most then n + f (most - n) else n
/-- How many items an item has, but at most so many. -/
def cntI : (d : Nat) → It d → Nat → Nat
  | 0, _, _ => 1
  | d + 1, p, most => p.2.foldl (fun n x => cntS (cntI d x) most n) 1
end Go.Proofs.YtkkfgeekdaalmaaDoor
namespace Go.Proofs.YtkkfgeekdaalmaaDoor
set_option maxRecDepth 20000
set_option linter.unusedSimpArgs false
set_option linter.unusedVariables false
open Go Go.Fw
attribute [local irreducible] CW OL OD FX Stp FnC FnV FnA FnM Ret cntI cntS
set_option maxHeartbeats 3200000
/-- Few items? -/
def fewI (l : List (It 3000)) : Bool := !l.any fun x => decide (3000 < cntI 3000 x 3001)
end Go.Proofs.YtkkfgeekdaalmaaDoor
namespace Go.Proofs.YtkkfgeekdaalmaaDoor
set_option maxRecDepth 20000
set_option linter.unusedSimpArgs false
set_option linter.unusedVariables false
theorem nd_add {b A m r : Nat} (hb : 2 ≤ b) (hA : 0 < A) (hr : r < b ^ m) : nd b (b ^ m * A + r) = m + nd b A := by
  have hp : 0 < b ^ m := Nat.pow_pos (by omega)
  have hd : (b ^ m * A + r) / b ^ m = A := by rw [Nat.mul_add_div hp, Nat.div_eq_of_lt hr, Nat.add_zero]
  have hnd : 0 < nd b A := by
    rcases Nat.eq_zero_or_pos (nd b A) with h | h
    · rw [nd_zero_iff hb] at h; omega
    · exact h
  refine nd_eq hb ?_ fun _ => ?_
  · rw [Nat.pow_add]
    have h1 := nd_lt hb A
    have h2 : b ^ m * (A + 1) ≤ b ^ m * b ^ nd b A := Nat.mul_le_mul_left _ h1
    rw [Nat.mul_add, Nat.mul_one] at h2
    omega
  · rw [show m + nd b A - 1 = m + (nd b A - 1) by omega, Nat.pow_add, ← Nat.div_div_eq_div_mul, hd]
    exact nd_top hb hA
theorem dg_add {b A m r : Nat} (hb : 2 ≤ b) (hA : 0 < A) (hr : r < b ^ m) : dg b (b ^ m * A + r) = lw b m r ++ dg b A := by
  have hp : 0 < b ^ m := Nat.pow_pos (by omega)
  unfold dg
  rw [nd_add hb hA hr, lw_add, Nat.mul_add_div hp, Nat.div_eq_of_lt hr, Nat.add_zero, ← lw_mod (b := b) (j := m) (b ^ m * A + r) (Nat.le_refl _), Nat.mul_add_mod, Nat.mod_eq_of_lt hr]
/-- So many digits, the highest first. -/
def fixT (b m r : Nat) : List Int := (lw b m r).reverse.map chr
theorem fixT_length (b m r : Nat) : (fixT b m r).length = m := by unfold fixT; rw [List.length_map, List.length_reverse, lw_length]
theorem txt_pos {b n : Nat} (h : 0 < n) : txt b n = (dg b n).reverse.map chr := by unfold txt; rw [if_neg (by omega)]
theorem txt_add {b A m r : Nat} (hb : 2 ≤ b) (hA : 0 < A) (hr : r < b ^ m) : txt b (b ^ m * A + r) = txt b A ++ fixT b m r := by
  have hp : 0 < b ^ m := Nat.pow_pos (by omega)
  have h : 0 < b ^ m * A := Nat.mul_pos hp hA
  rw [txt_pos (by omega), txt_pos hA, dg_add hb hA hr, List.reverse_append, List.map_append]
  rfl
theorem lw_zeros (b k : Nat) : lw b k 0 = List.replicate k 0 := by
  induction k with
  | zero => rfl
  | succ k ih => rw [lw_succ, ih, List.replicate_succ']; simp
theorem pad_txt {b m r : Nat} (hb : 2 ≤ b) (hm : 1 ≤ m) (hr : r < b ^ m) : (txt b r).length ≤ m ∧ List.replicate (m - (txt b r).length) 48 ++ txt b r = fixT b m r := by
  rcases Nat.eq_zero_or_pos r with h | h
  · subst h
    unfold txt fixT
    rw [if_pos rfl, lw_zeros, List.reverse_replicate, List.map_replicate]
    refine ⟨hm, ?_⟩
    obtain ⟨j, rfl⟩ : ∃ j, m = j + 1 := ⟨m - 1, by omega⟩
    rw [List.replicate_succ']
    rfl
  · have hl := nd_le hb hr
    rw [txt_pos h]
    have e : ((dg b r).reverse.map chr).length = nd b r := by rw [List.length_map, List.length_reverse, lw_length]
    rw [e]
    refine ⟨hl, ?_⟩
    obtain ⟨j, rfl⟩ : ∃ j, m = nd b r + j := ⟨m - nd b r, by omega⟩
    unfold fixT
    rw [lw_add, Nat.div_eq_of_lt (nd_lt hb r), lw_zeros, List.reverse_append, List.map_append, List.reverse_replicate, List.map_replicate, Nat.add_sub_cancel_left]
    rfl
theorem txt_b {b : Nat} (hb : 2 ≤ b) (hb2 : b ≤ 16) (n : Nat) : ∀ x ∈ txt b n, 0 ≤ x ∧ x ≤ 255 := by
  intro x hx
  unfold txt at hx
  split at hx
  · obtain rfl : x = 48 := by simpa using hx
    omega
  · obtain ⟨d, hd, rfl⟩ := List.mem_map.1 hx
    have := lw_lt (by omega) _ _ d (List.mem_reverse.1 hd)
    have := chr_b (d := d) (by omega)
    omega
theorem txt_len_pos (b n : Nat) (hb : 2 ≤ b) : 0 < (txt b n).length := by
  unfold txt
  split
  · simp
  · rename_i h
    rw [List.length_map, List.length_reverse, lw_length]
    rcases Nat.eq_zero_or_pos (nd b n) with h2 | h2
    · exact absurd ((nd_zero_iff hb).1 h2) h
    · exact h2
theorem txt_len_le {b n k : Nat} (hb : 2 ≤ b) (hk : 1 ≤ k) (h : n < b ^ k) : (txt b n).length ≤ k := (pad_txt hb hk h).1
end Go.Proofs.YtkkfgeekdaalmaaDoor
