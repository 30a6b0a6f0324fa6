/-
  The walk of rewriting.
-/
import Derived.Test.YtelidojkpbaofaaDoorJ13
namespace Go.Proofs.YtelidojkpbaofaaDoor
set_option maxRecDepth 20000
set_option linter.unusedSimpArgs false
set_option linter.unusedVariables false
open Go Go.Fw
structure RwSt where
  k : Nat
  r : Option Nat
  c : Nat
  sp : List Value
theorem framesB_take {R : List (Sl Int)} (h : R.length ≤ 30 ∧ ∀ x ∈ R, x.xs.length ≤ 300) (k : Nat) : (framesB ((R.map Sl.xs).take k)).length ≤ 10080 := by
  have h1 : ∀ b ∈ (R.map Sl.xs).take k, b.length ≤ 300 := fun b hb => by
    obtain ⟨x, hx, rfl⟩ := List.mem_map.1 (List.mem_of_mem_take hb)
    exact h.2 x hx
  have := framesB_le h1
  have h2 : ((R.map Sl.xs).take k).length ≤ 30 := by rw [List.length_take, List.length_map]; omega
  omega
end Go.Proofs.YtelidojkpbaofaaDoor
namespace Go.Proofs.YtelidojkpbaofaaDoor
set_option maxRecDepth 20000
set_option linter.unusedSimpArgs false
set_option linter.unusedVariables false
open Go Go.Fw
attribute [local irreducible] CW OL OD FX Stp FnC FnV Ret sha strOf be8 be4 frB num4 appJ syncJ crashJ readJ framesB wrN wrA
set_option maxHeartbeats 800000
theorem jrew_spec {M : View} {w : World} (hM : View.le M (View.of w)) (hL : Laid M) {j : JV} {n c m cl : Nat} {a A : Option Addr} {bj oj b o : Nat} (hn : j.by_.length = n) (s : SlA M (eK .u8) 1 a j.by_ bj oj) {R : List (Sl Int)} (hm : R.length = m) (sR : SlA M Sl.enc 1 A R b o) (hR : ∀ x ∈ R, SlA M (eK .u8) 1 x.a x.xs x.b x.o ∧ isB x.xs) (hs : shortP R) :
    FnC Tryd.prog 27 [.agg [.slice a n c, .int .i64 j.du, .int .i64 j.af].toArray, .slice A m cl] w (JRE (rewS j (R.map Sl.xs))) := by
  obtain ⟨p, du, af⟩ := j
  dsimp only at hn s
  refine enterF (M := M) Tryd.func27 rfl rfl rfl rfl hM ?_
  have kv := fun (w' : World) => jvalid_spec w' (n := n) (c := c) (a := a) du af
  unfold rewS validJ
  dsimp only
  rw [hn]
  refine cw_none 5 ?_
  by_cases hv : validN n du af
  · rw [if_neg (fun h => h hv)]
    rw [decide_eq_true hv] at kv
    have hv' := hv
    unfold validN at hv'
    unfold shortP at hs
    have hfb := framesB_take hs
    have hsucc := fun (k : Nat) (h : k < R.length) => take_map_succ h
    have hall : (R.map Sl.xs).take m = R.map Sl.xs := List.take_of_length_le (by rw [List.length_map]; omega)
    have hz : framesB ((R.map Sl.xs).take 0) = [] := by rw [List.take_zero]; exact framesB_nil
    have hwn := fun (k : Nat) => wrN_le (n := k) hv'.2.2.2.1
    generalize R.map Sl.xs = L at *
    repeat' first
      | apply cw_seq
      | (refine cw_region_id 0 ?_; (apply ol_val; exact rfl; first | (apply s_boxN; exact rfl; intro bk2) | (apply s_box1; exact rfl; exact rfl; intro bk2)); (apply ol_val; exact rfl; apply s_alloc; exact zb_24; (focus ((repeat constructor); done)); intro bk4); (apply ol_as; exact rfl; exact rfl); (apply ol_nil))
      | (refine cw_region_id 1 ?_; (apply ol_ldN; exact rfl; exact rfl; exact rfl; exact sz_24; (apply RdN.own; (focus ((repeat constructor); done)); (focus ((repeat (first | exact rfl | constructor)); done)))); (apply ol_val; exact rfl; apply s_callv; exact rfl; exact gf_14; (intro w' hw'; exact kv w')); (apply ol_val; exact rfl; apply stp_pur; first | (apply s_not_t; exact rfl; (first | exact rfl | assumption)) | (apply s_not_f; exact rfl; (first | exact rfl | assumption)) | (apply s_not; exact rfl)); (apply ol_nil))
      | (refine cw_region_id 3 ?_; (apply ol_as; exact rfl; exact rfl); (apply ol_nil))
      | (refine cw_region_id 4 ?_; (apply ol_mv; exact rfl; exact rfl); (apply ol_val; exact rfl; apply stp_pur; apply s_len; exact rfl; exact el_36); (apply ol_mv; exact rfl; exact rfl); (apply ol_nil))
      | (apply cw_cond_true; exact rfl; (first | exact rfl | assumption))
      | (apply cw_cond_false; exact rfl; (first | exact rfl | assumption))
      | apply cw_skip
      | apply cw_ret
      | apply cw_block
      | apply cw_exit
    refine cw_loopK (σ := RwSt) [2, 4, 14, 15] (by (repeat (first | exact Keep.nil | (apply Keep.cons; exact rfl)))) (fun s => [(6, .slice (base s.r none) (framesB (L.take s.k)).length s.c), (16, .int .i64 s.k)]) (fun _ => M) (fun s => [⟨s.r, flat (eK .u8) (framesB (L.take s.k)) ++ s.sp, 5⟩, ⟨some bk2, [.slice a n c, .int .i64 du, .int .i64 af], 24⟩, ⟨some bk4, [.slice none 0 0, .int .i64 0, .int .i64 0], 24⟩]) (fun s => s.k ≤ m ∧ SO s.r (framesB (L.take s.k)).length s.c (flat (eK .u8) (framesB (L.take s.k))) s.sp 1) (fun s => m - s.k) ⟨0, none, 0, []⟩ (by dsimp only; rw [hz]; (repeat (first | exact trivial | refine And.intro rfl ?_))) (View.le.refl _) (by dsimp only; rw [hz]; (repeat (first | exact Pick.nil | (apply Pick.cons; (focus ((repeat (first | exact Spl.here | apply Spl.there)); done))) | exact Pick.refl))) ⟨Nat.zero_le _, by dsimp only; rw [hz]; exact SO.nil 1⟩ ?_
    rintro ⟨k, r, cp, sp⟩ ⟨hk, so⟩
    dsimp only at hk so
    dsimp only
    by_cases hk' : k < m
    · have g1 := sR.cells k (by omega)
      have hst := hsucc k (by omega)
      have hfk := hfb k
      have hm1 : R[k]'(by omega) ∈ R := List.getElem_mem _
      obtain ⟨sX, bX⟩ := hR _ hm1
      have hXl := hs.2 _ hm1
      generalize R[k]'(by omega) = X at *
      have hfl : framesB (L.take (k + 1)) = framesB (L.take k) ++ frB X.xs := by rw [hst, framesB_snoc]
      have hfll : (framesB (L.take (k + 1))).length = (framesB (L.take k)).length + 36 + X.xs.length := by rw [hfl, List.length_append, frB_length]; omega
      clear hst hall hz
      generalize framesB (L.take k) = P at *
      repeat' first
        | apply cw_seq
        | (refine cw_region_id 5 ?_; (apply ol_val; exact rfl; apply stp_cmp; apply s_lss; exact rfl; exact rfl; all_goals (intro hc17; try (exfalso; (first | exact hc17 rfl | omega)))); all_goals (apply ol_nil))
        | (refine cw_region_id 6 ?_; (apply ol_val; exact rfl; apply stp_pur; first | (apply s_indexK; exact rfl; exact rfl; exact el_36; exact sz_22; (first | exact rfl | exact sR.at_ (by omega)); omega) | (apply s_indexO; exact rfl; exact rfl; exact el_36; exact sz_22; (first | exact rfl | exact sR.at_ (by omega)); omega)); (apply ol_ld; exact rfl; exact rfl; exact rfl; (first | (apply RdN.own; (focus ((repeat constructor); done)); exact GetN.cons rfl GetN.nil) | (apply RdN.view; exact g1))); (apply ol_as; exact rfl; exact rfl); (apply ol_nil))
        | (refine cw_region_id 7 ?_; (apply ol_mv; exact rfl; exact rfl); (apply ol_val; exact rfl; apply stp_pur; apply s_len; exact rfl; exact el_22); (apply ol_val; exact rfl; apply stp_cmp; apply s_gtr; exact rfl; exact rfl; all_goals (intro hc22; try (exfalso; (first | exact hc22 rfl | omega)))); all_goals (apply ol_nil))
        | (refine cw_region_id 8 ?_; (apply ol_val; exact rfl; apply stp_pur; apply s_buildS; exact rfl; exact fs_24; exact zb_24; (focus ((repeat (first | exact rfl | constructor)); done))); (apply ol_eff; apply s_storeN; exact rfl; exact rfl; exact sz_24; exact rfl; exact rfl; (focus ((repeat constructor); done)); (focus ((repeat constructor); done))); (apply ol_as; exact rfl; exact rfl); (apply ol_nil))
        | (refine cw_region_id 9 ?_; (apply ol_mv; exact rfl; exact rfl); (apply ol_mv; exact rfl; exact rfl); (apply ol_val; exact rfl; (refine frame_step (P := P) (sp := sp) (r := r) (m := P.length) (cap := cp) hL rfl rfl rfl (by omega) bX sX so (by omega) ?_; intro r1 s1 c1 so1)); all_goals (apply ol_as; exact rfl; exact rfl); all_goals (apply ol_nil))
        | (refine cw_region_id 10 ?_; (apply ol_mv; exact rfl; exact rfl); (apply ol_val; exact rfl; apply stp_pur; apply s_len; exact rfl; exact el_22); (apply ol_val; exact rfl; apply stp_cmp; apply s_gtr; exact rfl; exact rfl; all_goals (intro hc29; try (exfalso; (first | exact hc29 rfl | omega)))); all_goals (apply ol_nil))
        | (refine cw_region_id 11 ?_; (apply ol_val; exact rfl; apply stp_pur; apply s_buildS; exact rfl; exact fs_24; exact zb_24; (focus ((repeat (first | exact rfl | constructor)); done))); (apply ol_eff; apply s_storeN; exact rfl; exact rfl; exact sz_24; exact rfl; exact rfl; (focus ((repeat constructor); done)); (focus ((repeat constructor); done))); (apply ol_as; exact rfl; exact rfl); (apply ol_nil))
        | (refine cw_region_id 12 ?_; (apply ol_val; exact rfl; apply stp_pur; apply s_add64; exact rfl; exact rfl; omega); (apply ol_mv; exact rfl; exact rfl); (apply ol_nil))
        | (refine cw_region_id 13 ?_; (apply ol_fa; exact rfl; exact rfl; exact fd_24_2; (first | exact Nat.zero_add _ | exact Nat.add_zero _ | exact rfl)); (apply ol_ld; exact rfl; exact rfl; exact rfl; (first | (apply RdN.own; (focus ((repeat constructor); done)); (first | exact GetN.cons rfl GetN.nil | (apply getN_ints_app; (first | omega | (simp; omega) | (simp; done))) | (apply getN_ints; (first | omega | (simp; omega) | (simp; done))))) | (apply RdN.view; exact g1))); (apply ol_val; exact rfl; apply stp_pur; apply s_buildS; exact rfl; exact fs_24; exact zb_24; (focus ((repeat (first | exact rfl | constructor)); done))); (apply ol_val; exact rfl; apply stp_pur; apply s_buildS; exact rfl; exact fs_58; exact zb_58; (focus ((repeat (first | exact Fil.nil | (apply Fil.one; exact rfl; exact rfl; (repeat (first | exact SetAt.zero | apply SetAt.succ))) | (apply Fil.agg; exact rfl; exact rfl; (repeat (first | exact SetN.nil | (apply SetN.cons; (repeat (first | exact SetAt.zero | apply SetAt.succ))))); (exact Nat.le_of_ble_eq_true rfl)))); done))); (apply ol_val; exact rfl; first | (apply s_boxN; exact rfl; intro bk36) | (apply s_box1; exact rfl; exact rfl; intro bk36)); (apply ol_as; exact rfl; exact rfl); (apply ol_nil))
        | (refine cw_region_id 14 ?_; (apply ol_mv; exact rfl; exact rfl); (apply ol_mv; exact rfl; exact rfl))
        | (refine cw_region_id 15 ?_; (apply ol_fa; exact rfl; exact rfl; exact fd_24_2; (first | exact Nat.zero_add _ | exact Nat.add_zero _ | exact rfl)); (apply ol_eff; apply s_store1; exact rfl; exact rfl; exact sz_3; exact rfl; (focus ((repeat constructor); done)); (first | (focus ((repeat constructor); done)) | (apply setAt_ints_app; (first | omega | (simp; omega) | (simp; done))) | (apply setAt_ints; (first | omega | (simp; omega) | (simp; done))) | (apply SetAt.set; (first | omega | (simp; omega) | (simp; done))))); (apply ol_nil))
        | (refine cw_region_id 16 ?_; (apply ol_ldN; exact rfl; exact rfl; exact rfl; exact sz_24; (first | (apply RdN.own; (focus ((repeat constructor); done)); (focus ((repeat (first | exact rfl | constructor)); done))) | (apply RdN.view; exact g1))))
        | (refine cw_region_id 17 ?_; (apply ol_mv; exact rfl; exact rfl); (apply ol_mv; exact rfl; exact rfl); (apply ol_val; exact rfl; apply stp_pur; apply s_nilCheck; exact rfl); (apply ol_fa; exact rfl; exact rfl; exact fd_58_0; (first | exact Nat.zero_add _ | exact Nat.add_zero _ | exact rfl)); (apply ol_fa; exact rfl; exact rfl; exact fd_24_0; (first | exact Nat.zero_add _ | exact Nat.add_zero _ | exact rfl)); (apply ol_ld; exact rfl; exact rfl; exact rfl; (first | (apply RdN.own; (focus ((repeat constructor); done)); exact GetN.cons rfl GetN.nil) | (apply RdN.view; exact g1))); (apply ol_val; exact rfl; apply stp_pur; apply s_len; exact rfl; exact el_22); (apply ol_val; exact rfl; apply stp_pur; apply s_nilCheck; exact rfl); (apply ol_fa; exact rfl; exact rfl; exact fd_58_0; (first | exact Nat.zero_add _ | exact Nat.add_zero _ | exact rfl)); (apply ol_fa; exact rfl; exact rfl; exact fd_24_1; (first | exact Nat.zero_add _ | exact Nat.add_zero _ | exact rfl)); (apply ol_eff; apply s_store1; exact rfl; exact rfl; exact sz_3; exact rfl; (focus ((repeat constructor); done)); (first | (focus ((repeat constructor); done)) | (apply setAt_ints_app; (first | omega | (simp; omega) | (simp; done))) | (apply setAt_ints; (first | omega | (simp; omega) | (simp; done))) | (apply SetAt.set; (first | omega | (simp; omega) | (simp; done))))); (apply ol_nil))
        | (refine cw_region_id 18 ?_; (apply ol_mv; exact rfl; exact rfl); (apply ol_val; exact rfl; apply stp_pur; apply s_nilCheck; exact rfl); (apply ol_fa; exact rfl; exact rfl; exact fd_58_0; (first | exact Nat.zero_add _ | exact Nat.add_zero _ | exact rfl)); (apply ol_ldN; exact rfl; exact rfl; exact rfl; exact sz_24; (first | (apply RdN.own; (focus ((repeat constructor); done)); (focus ((repeat (first | exact rfl | constructor)); done))) | (apply RdN.view; exact g1))); (apply ol_eff; apply s_storeN; exact rfl; exact rfl; exact sz_24; exact rfl; exact rfl; (focus ((repeat constructor); done)); (focus ((repeat constructor); done))); (apply ol_as; exact rfl; exact rfl); (apply ol_nil))
        | (apply cw_cond_true; exact rfl; (first | exact rfl | assumption))
        | (apply cw_cond_false; exact rfl; (first | exact rfl | assumption))
        | apply cw_skip
        | apply cw_ret
        | apply cw_block
        | apply cw_exit
      refine ⟨⟨k + 1, r1, c1, s1⟩, ⟨?_, View.le.refl _, ?_, ⟨hk', ?_⟩, by dsimp only; omega⟩⟩
      · dsimp only
        rw [hfll]
        (repeat (first | exact trivial | refine And.intro rfl ?_))
      · dsimp only
        rw [hfl]
        (repeat (first | exact Pick.nil | (apply Pick.cons; (focus ((repeat (first | exact Spl.here | apply Spl.there)); done))) | exact Pick.refl))
      · dsimp only
        rw [hfll, hfl]
        exact so1
    · obtain rfl : k = m := by omega
      have hfk := hfb k
      have hwT := hwn (framesB L).length
      rw [hall] at hfk so ⊢
      clear hfb hsucc hall hz hwn
      generalize framesB L = T at *
      by_cases hw : wrN af T.length < T.length
      · rw [if_pos hw]
        have hw0 : decide (wrN af T.length = T.length) = false := decide_eq_false (by omega)
        have kc := fun (w' : World) (hw' : View.le M (View.of w')) => copied_spec (j := ⟨p, du, 0⟩) (c := c) hw' hn (by omega) s
        repeat' first
          | apply cw_seq
          | (refine cw_region_id 5 ?_; (apply ol_val; exact rfl; apply stp_cmp; apply s_lss; exact rfl; exact rfl; all_goals (intro hc17; try (exfalso; (first | exact hc17 rfl | omega)))); all_goals (apply ol_nil))
          | (refine cw_region_id 13 ?_; (apply ol_fa; exact rfl; exact rfl; exact fd_24_2; (first | exact Nat.zero_add _ | exact Nat.add_zero _ | exact rfl)); (apply ol_ld; exact rfl; exact rfl; exact rfl; (apply RdN.own; (focus ((repeat constructor); done)); (first | exact GetN.cons rfl GetN.nil | (apply getN_ints_app; (first | omega | (simp; omega) | (simp; done))) | (apply getN_ints; (first | omega | (simp; omega) | (simp; done)))))); (apply ol_val; exact rfl; apply stp_pur; apply s_buildS; exact rfl; exact fs_24; exact zb_24; (focus ((repeat (first | exact rfl | constructor)); done))); (apply ol_val; exact rfl; apply stp_pur; apply s_buildS; exact rfl; exact fs_58; exact zb_58; (focus ((repeat (first | exact Fil.nil | (apply Fil.one; exact rfl; exact rfl; (repeat (first | exact SetAt.zero | apply SetAt.succ))) | (apply Fil.agg; exact rfl; exact rfl; (repeat (first | exact SetN.nil | (apply SetN.cons; (repeat (first | exact SetAt.zero | apply SetAt.succ))))); (exact Nat.le_of_ble_eq_true rfl)))); done))); (apply ol_val; exact rfl; first | (apply s_boxN; exact rfl; intro bk36) | (apply s_box1; exact rfl; exact rfl; intro bk36)); (apply ol_as; exact rfl; exact rfl); (apply ol_nil))
          | (apply cw_cond_true; exact rfl; (first | exact rfl | assumption))
          | (apply cw_cond_false; exact rfl; (first | exact rfl | assumption))
          | apply cw_skip
          | apply cw_ret
          | apply cw_block
          | apply cw_exit
        refine cw_pick (own' := [⟨r, flat (eK .u8) T ++ sp, 5⟩, ⟨some bk36, [.slice none 0 0, .int .i64 0, .int .i64 af], 58⟩, ⟨some bk2, [.slice a n c, .int .i64 du, .int .i64 af], 24⟩, ⟨some bk4, [.slice none 0 0, .int .i64 0, .int .i64 0], 24⟩]) (by (repeat (first | exact Pick.nil | (apply Pick.cons; (focus ((repeat (first | exact Spl.here | apply Spl.there)); done))) | exact Pick.refl))) ?_
        repeat' first
          | apply cw_seq
          | (refine cw_region_id 14 ?_; (apply ol_mv; exact rfl; exact rfl); (apply ol_mv; exact rfl; exact rfl); (apply ol_val; exact rfl; (refine write_step (p := T) (b := []) (nB := 0) rfl rfl rfl (by decide) SlA.zilch rfl so.hle (by omega) (fun h => so.emp h) ⟨hv'.2.2.2.1, hv'.2.2.2.2⟩ ?_; intro r2 A2 c2 s2 so2; rw [hw0])); all_goals (apply ol_val; exact rfl; apply stp_pur; first | (apply s_not_t; exact rfl; (first | exact rfl | assumption)) | (apply s_not_f; exact rfl; (first | exact rfl | assumption)) | (apply s_not; exact rfl)); all_goals (apply ol_nil))
          | (refine cw_region_id 15 ?_; (apply ol_fa; exact rfl; exact rfl; exact fd_24_2; (first | exact Nat.zero_add _ | exact Nat.add_zero _ | exact rfl)); (apply ol_eff; apply s_store1; exact rfl; exact rfl; exact sz_3; exact rfl; (focus ((repeat constructor); done)); (first | (focus ((repeat constructor); done)) | (apply setAt_ints_app; (first | omega | (simp; omega) | (simp; done))) | (apply setAt_ints; (first | omega | (simp; omega) | (simp; done))) | (apply SetAt.set; (first | omega | (simp; omega) | (simp; done))))); (apply ol_nil))
          | (refine cw_region_id 16 ?_; (apply ol_ldN; exact rfl; exact rfl; exact rfl; exact sz_24; (apply RdN.own; (focus ((repeat constructor); done)); (focus ((repeat (first | exact rfl | constructor)); done)))); (apply ol_val; exact rfl; apply s_call; exact rfl; exact gf_41; (intro w' hw'; exact kc w' hw'.le); ((intro v new h; obtain ⟨r1, A1, c1, s1, rfl, rfl, hr1, hc1⟩ := h))); (apply ol_eff; apply s_storeN; exact rfl; exact rfl; exact sz_24; exact rfl; exact rfl; (focus ((repeat constructor); done)); (focus ((repeat constructor); done))); (apply ol_as; exact rfl; exact rfl); (apply ol_nil))
          | (apply cw_cond_true; exact rfl; (first | exact rfl | assumption))
          | (apply cw_cond_false; exact rfl; (first | exact rfl | assumption))
          | apply cw_skip
          | apply cw_ret
          | apply cw_block
          | apply cw_exit
        refine ends [⟨r1, flat (eK .u8) p ++ s1, 5⟩] (RVal.cellN rfl rfl rfl (RdN.own (by (repeat (first | exact Has.here | apply Has.there))) (GetN.cons rfl (GetN.cons rfl (GetN.cons rfl GetN.nil)))) (RVal.tmp rfl RVal.nil)) (by (repeat (first | exact Pick.nil | (apply Pick.cons; (focus ((repeat (first | exact Spl.here | apply Spl.there)); done))) | exact Pick.refl))) ?_
        exact ⟨_, rfl, r1, A1, c1, s1, rfl, rfl, hr1, hc1⟩
      · rw [if_neg hw]
        have hWe : wrN af T.length = T.length := by omega
        have hw0 : decide (wrN af T.length = T.length) = true := decide_eq_true hWe
        repeat' first
          | apply cw_seq
          | (refine cw_region_id 5 ?_; (apply ol_val; exact rfl; apply stp_cmp; apply s_lss; exact rfl; exact rfl; all_goals (intro hc17; try (exfalso; (first | exact hc17 rfl | omega)))); all_goals (apply ol_nil))
          | (refine cw_region_id 13 ?_; (apply ol_fa; exact rfl; exact rfl; exact fd_24_2; (first | exact Nat.zero_add _ | exact Nat.add_zero _ | exact rfl)); (apply ol_ld; exact rfl; exact rfl; exact rfl; (apply RdN.own; (focus ((repeat constructor); done)); (first | exact GetN.cons rfl GetN.nil | (apply getN_ints_app; (first | omega | (simp; omega) | (simp; done))) | (apply getN_ints; (first | omega | (simp; omega) | (simp; done)))))); (apply ol_val; exact rfl; apply stp_pur; apply s_buildS; exact rfl; exact fs_24; exact zb_24; (focus ((repeat (first | exact rfl | constructor)); done))); (apply ol_val; exact rfl; apply stp_pur; apply s_buildS; exact rfl; exact fs_58; exact zb_58; (focus ((repeat (first | exact Fil.nil | (apply Fil.one; exact rfl; exact rfl; (repeat (first | exact SetAt.zero | apply SetAt.succ))) | (apply Fil.agg; exact rfl; exact rfl; (repeat (first | exact SetN.nil | (apply SetN.cons; (repeat (first | exact SetAt.zero | apply SetAt.succ))))); (exact Nat.le_of_ble_eq_true rfl)))); done))); (apply ol_val; exact rfl; first | (apply s_boxN; exact rfl; intro bk36) | (apply s_box1; exact rfl; exact rfl; intro bk36)); (apply ol_as; exact rfl; exact rfl); (apply ol_nil))
          | (apply cw_cond_true; exact rfl; (first | exact rfl | assumption))
          | (apply cw_cond_false; exact rfl; (first | exact rfl | assumption))
          | apply cw_skip
          | apply cw_ret
          | apply cw_block
          | apply cw_exit
        refine cw_pick (own' := [⟨r, flat (eK .u8) T ++ sp, 5⟩, ⟨some bk36, [.slice none 0 0, .int .i64 0, .int .i64 af], 58⟩, ⟨some bk2, [.slice a n c, .int .i64 du, .int .i64 af], 24⟩, ⟨some bk4, [.slice none 0 0, .int .i64 0, .int .i64 0], 24⟩]) (by (repeat (first | exact Pick.nil | (apply Pick.cons; (focus ((repeat (first | exact Spl.here | apply Spl.there)); done))) | exact Pick.refl))) ?_
        repeat' first
          | apply cw_seq
          | (refine cw_region_id 14 ?_; (apply ol_mv; exact rfl; exact rfl); (apply ol_mv; exact rfl; exact rfl); (apply ol_val; exact rfl; (refine write_step (p := T) (b := []) (nB := 0) rfl rfl rfl (by decide) SlA.zilch rfl so.hle (by omega) (fun h => so.emp h) ⟨hv'.2.2.2.1, hv'.2.2.2.2⟩ ?_; intro r2 A2 c2 s2 so2; rw [hw0]; rw [hWe, Nat.zero_add, List.nil_append, take_all (Nat.le_refl _)] at so2 ⊢)); all_goals (apply ol_val; exact rfl; apply stp_pur; first | (apply s_not_t; exact rfl; (first | exact rfl | assumption)) | (apply s_not_f; exact rfl; (first | exact rfl | assumption)) | (apply s_not; exact rfl)); all_goals (apply ol_nil))
          | (refine cw_region_id 17 ?_; (apply ol_mv; exact rfl; exact rfl); (apply ol_mv; exact rfl; exact rfl); (apply ol_val; exact rfl; apply stp_pur; apply s_nilCheck; exact rfl); (apply ol_fa; exact rfl; exact rfl; exact fd_58_0; (first | exact Nat.zero_add _ | exact Nat.add_zero _ | exact rfl)); (apply ol_fa; exact rfl; exact rfl; exact fd_24_0; (first | exact Nat.zero_add _ | exact Nat.add_zero _ | exact rfl)); (apply ol_ld; exact rfl; exact rfl; exact rfl; (apply RdN.own; (focus ((repeat constructor); done)); exact GetN.cons rfl GetN.nil)); (apply ol_val; exact rfl; apply stp_pur; apply s_len; exact rfl; exact el_22); (apply ol_val; exact rfl; apply stp_pur; apply s_nilCheck; exact rfl); (apply ol_fa; exact rfl; exact rfl; exact fd_58_0; (first | exact Nat.zero_add _ | exact Nat.add_zero _ | exact rfl)); (apply ol_fa; exact rfl; exact rfl; exact fd_24_1; (first | exact Nat.zero_add _ | exact Nat.add_zero _ | exact rfl)); (apply ol_eff; apply s_store1; exact rfl; exact rfl; exact sz_3; exact rfl; (focus ((repeat constructor); done)); (first | (focus ((repeat constructor); done)) | (apply setAt_ints_app; (first | omega | (simp; omega) | (simp; done))) | (apply setAt_ints; (first | omega | (simp; omega) | (simp; done))) | (apply SetAt.set; (first | omega | (simp; omega) | (simp; done))))); (apply ol_nil))
          | (refine cw_region_id 18 ?_; (apply ol_mv; exact rfl; exact rfl); (apply ol_val; exact rfl; apply stp_pur; apply s_nilCheck; exact rfl); (apply ol_fa; exact rfl; exact rfl; exact fd_58_0; (first | exact Nat.zero_add _ | exact Nat.add_zero _ | exact rfl)); (apply ol_ldN; exact rfl; exact rfl; exact rfl; exact sz_24; (apply RdN.own; (focus ((repeat constructor); done)); (focus ((repeat (first | exact rfl | constructor)); done)))); (apply ol_eff; apply s_storeN; exact rfl; exact rfl; exact sz_24; exact rfl; exact rfl; (focus ((repeat constructor); done)); (focus ((repeat constructor); done))); (apply ol_as; exact rfl; exact rfl); (apply ol_nil))
          | (apply cw_cond_true; exact rfl; (first | exact rfl | assumption))
          | (apply cw_cond_false; exact rfl; (first | exact rfl | assumption))
          | apply cw_skip
          | apply cw_ret
          | apply cw_block
          | apply cw_exit
        refine ends [⟨r2, flat (eK .u8) T ++ s2, 5⟩] (RVal.cellN rfl rfl rfl (RdN.own (by (repeat (first | exact Has.here | apply Has.there))) (GetN.cons rfl (GetN.cons rfl (GetN.cons rfl GetN.nil)))) (RVal.tmp rfl RVal.nil)) (by (repeat (first | exact Pick.nil | (apply Pick.cons; (focus ((repeat (first | exact Spl.here | apply Spl.there)); done))) | exact Pick.refl))) ?_
        exact ⟨_, rfl, JR.of so2 rfl⟩
  · rw [if_pos hv]
    rw [decide_eq_false hv] at kv
    repeat' first
      | apply cw_seq
      | (refine cw_region_id 0 ?_; (apply ol_val; exact rfl; first | (apply s_boxN; exact rfl; intro bk2) | (apply s_box1; exact rfl; exact rfl; intro bk2)); (apply ol_val; exact rfl; apply s_alloc; exact zb_24; (focus ((repeat constructor); done)); intro bk4); (apply ol_as; exact rfl; exact rfl); (apply ol_nil))
      | (refine cw_region_id 1 ?_; (apply ol_ldN; exact rfl; exact rfl; exact rfl; exact sz_24; (apply RdN.own; (focus ((repeat constructor); done)); (focus ((repeat (first | exact rfl | constructor)); done)))); (apply ol_val; exact rfl; apply s_callv; exact rfl; exact gf_14; (intro w' hw'; exact kv w')); (apply ol_val; exact rfl; apply stp_pur; first | (apply s_not_t; exact rfl; (first | exact rfl | assumption)) | (apply s_not_f; exact rfl; (first | exact rfl | assumption)) | (apply s_not; exact rfl)); (apply ol_nil))
      | (refine cw_region_id 2 ?_; (apply ol_val; exact rfl; apply stp_pur; apply s_buildS; exact rfl; exact fs_24; exact zb_24; (focus ((repeat (first | exact rfl | constructor)); done))); (apply ol_eff; apply s_storeN; exact rfl; exact rfl; exact sz_24; exact rfl; exact rfl; (focus ((repeat constructor); done)); (focus ((repeat constructor); done))); (apply ol_as; exact rfl; exact rfl); (apply ol_nil))
      | (apply cw_cond_true; exact rfl; (first | exact rfl | assumption))
      | (apply cw_cond_false; exact rfl; (first | exact rfl | assumption))
      | apply cw_skip
      | apply cw_ret
      | apply cw_block
      | apply cw_exit
    refine ends [⟨none, [], 5⟩] (RVal.cellN rfl rfl rfl (RdN.own (by (repeat (first | exact Has.here | apply Has.there))) (GetN.cons rfl (GetN.cons rfl (GetN.cons rfl GetN.nil)))) (RVal.tmp rfl RVal.nil)) (by (repeat (first | exact Pick.nil | (apply Pick.cons; (focus ((repeat (first | exact Spl.here | apply Spl.there)); done))) | exact Pick.refl))) (JRE.err 1)
end Go.Proofs.YtelidojkpbaofaaDoor
