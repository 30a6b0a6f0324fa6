/-
  The walk of the reference's rewriting.
-/
import Derived.Test.YtelidojkpbaofaaDoorJ14
namespace Go.Proofs.YtelidojkpbaofaaDoor
set_option maxRecDepth 20000
set_option linter.unusedSimpArgs false
set_option linter.unusedVariables false
open Go Go.Fw
attribute [local irreducible] CW OL OD FX Stp FnC FnV Ret sha strOf be8 be4 frB num4 appJ syncJ crashJ readJ framesB wrN wrA
set_option maxHeartbeats 1600000
theorem rrew_spec {M : View} {w : World} (hM : View.le M (View.of w)) {j : JV} {n c m cl : Nat} {a A : Option Addr} {bj oj b o : Nat} (hn : j.by_.length = n) (s : SlA M (eK .u8) 1 a j.by_ bj oj) {R : List (Sl Int)} (hm : R.length = m) (sR : SlA M Sl.enc 1 A R b o) (hR : ∀ x ∈ R, SlA M (eK .u8) 1 x.a x.xs x.b x.o ∧ isB x.xs) (hs : shortP R) :
    FnC Tryd.prog 28 [.agg [.slice a n c, .int .i64 j.du, .int .i64 j.af].toArray, .slice A m cl] w (JRE (rewS j (R.map Sl.xs))) := by
  obtain ⟨p, du, af⟩ := j
  dsimp only at hn s
  refine enterF (M := M) Tryd.func28 rfl rfl rfl rfl hM ?_
  have kv := fun (w' : World) => rvalid_spec w' (n := n) (c := c) (a := a) du af
  unfold rewS validJ
  dsimp only
  rw [hn]
  refine cw_none 5 ?_
  by_cases hv : validN n du af
  · rw [if_neg (fun h => h hv)]
    rw [decide_eq_true hv] at kv
    have hv' := hv
    unfold validN at hv'
    unfold shortP at hs
    have hfb := framesB_take hs
    have hsucc := fun (k : Nat) (h : k < R.length) => take_map_succ h
    have hall : (R.map Sl.xs).take m = R.map Sl.xs := List.take_of_length_le (by rw [List.length_map]; omega)
    have hz : framesB ((R.map Sl.xs).take 0) = [] := by rw [List.take_zero]; exact framesB_nil
    have hz0 : ((framesB ((R.map Sl.xs).take 0)).length : Int) = 0 := by rw [hz]; rfl
    have k1 := fun (w' : World) (hw' : View.le M (View.of w')) => first_spec hw' (c := c) hn (Nat.le_refl n) (by omega) s
    rw [take_all (by omega)] at k1
    unfold RowRes at k1
    rw [hn] at k1
    generalize R.map Sl.xs = L at *
    repeat' first
      | apply cw_seq
      | (refine cw_region_id 0 ?_; (apply ol_val; exact rfl; first | (apply s_boxN; exact rfl; intro bk2) | (apply s_box1; exact rfl; exact rfl; intro bk2)); (apply ol_val; exact rfl; apply s_alloc; exact zb_24; (focus ((repeat constructor); done)); intro bk4); (apply ol_as; exact rfl; exact rfl); (apply ol_nil))
      | (refine cw_region_id 1 ?_; (apply ol_ldN; exact rfl; exact rfl; exact rfl; exact sz_24; (apply RdN.own; (focus ((repeat constructor); done)); (focus ((repeat (first | exact rfl | constructor)); done)))); (apply ol_val; exact rfl; apply s_callv; exact rfl; exact gf_15; (intro w' hw'; exact kv w')); (apply ol_val; exact rfl; apply stp_pur; first | (apply s_not_t; exact rfl; (first | exact rfl | assumption)) | (apply s_not_f; exact rfl; (first | exact rfl | assumption)) | (apply s_not; exact rfl)); (apply ol_nil))
      | (refine cw_region_id 3 ?_; (apply ol_as; exact rfl; exact rfl); (apply ol_nil))
      | (refine cw_region_id 4 ?_; (apply ol_as; exact rfl; exact rfl); (apply ol_nil))
      | (apply cw_cond_true; exact rfl; (first | exact rfl | assumption))
      | (apply cw_cond_false; exact rfl; (first | exact rfl | assumption))
      | apply cw_skip
      | apply cw_ret
      | apply cw_block
      | apply cw_exit
    refine cw_loopK (σ := Nat) [1, 2, 4] (by (repeat (first | exact Keep.nil | (apply Keep.cons; exact rfl)))) (fun k => [(6, .int .i64 ((framesB (L.take k)).length : Nat)), (7, .int .i64 k)]) (fun _ => M) (fun _ => [⟨none, [], 5⟩, ⟨some bk2, [.slice a n c, .int .i64 du, .int .i64 af], 24⟩, ⟨some bk4, [.slice none 0 0, .int .i64 0, .int .i64 0], 24⟩]) (fun k => k ≤ m) (fun k => m - k) 0 (by rw [hz0]; (repeat (first | exact trivial | refine And.intro rfl ?_))) (View.le.refl _) (by (repeat (first | exact Pick.nil | (apply Pick.cons; (focus ((repeat (first | exact Spl.here | apply Spl.there)); done))) | exact Pick.refl))) (Nat.zero_le _) ?_
    intro k hk
    try dsimp only at hk
    try dsimp only
    by_cases hk' : k < m
    · have g1 := sR.cells k (by omega)
      have hst := hsucc k (by omega)
      have hfk := hfb k
      have hm1 : R[k]'(by omega) ∈ R := List.getElem_mem _
      have hXl := hs.2 _ hm1
      generalize R[k]'(by omega) = X at *
      have hfll : (framesB (L.take (k + 1))).length = (framesB (L.take k)).length + 36 + X.xs.length := by rw [hst, framesB_snoc, List.length_append, frB_length]; omega
      clear hst hall hz hz0
      generalize (framesB (L.take k)).length = P at *
      repeat' first
        | apply cw_seq
        | (refine cw_region_id 5 ?_; (apply ol_mv; exact rfl; exact rfl); (apply ol_mv; exact rfl; exact rfl); (apply ol_val; exact rfl; apply stp_pur; apply s_len; exact rfl; exact el_36); (apply ol_val; exact rfl; apply stp_cmp; apply s_lss; exact rfl; exact rfl; all_goals (intro hc21; try (exfalso; (first | exact hc21 rfl | omega)))); all_goals (apply ol_nil))
        | (refine cw_region_id 7 ?_; (apply ol_mv; exact rfl; exact rfl); (apply ol_val; exact rfl; apply stp_pur; apply s_add64; exact rfl; exact rfl; omega); (apply ol_mv; exact rfl; exact rfl); (apply ol_mv; exact rfl; exact rfl); (apply ol_val; exact rfl; apply stp_pur; first | (apply s_indexK; exact rfl; exact rfl; exact el_36; exact sz_22; (first | exact rfl | exact sR.at_ (by omega)); omega) | (apply s_indexO; exact rfl; exact rfl; exact el_36; exact sz_22; (first | exact rfl | exact sR.at_ (by omega)); omega)); (apply ol_ld; exact rfl; exact rfl; exact rfl; (first | (apply RdN.own; (focus ((repeat constructor); done)); exact GetN.cons rfl GetN.nil) | (apply RdN.view; exact g1))); (apply ol_val; exact rfl; apply stp_pur; apply s_len; exact rfl; exact el_22); (apply ol_val; exact rfl; apply stp_pur; apply s_add64; exact rfl; exact rfl; omega); (apply ol_as; exact rfl; exact rfl); (apply ol_nil))
        | (refine cw_region_id 8 ?_; (apply ol_mv; exact rfl; exact rfl); (apply ol_mv; exact rfl; exact rfl); (apply ol_val; exact rfl; apply stp_pur; first | (apply s_indexK; exact rfl; exact rfl; exact el_36; exact sz_22; (first | exact rfl | exact sR.at_ (by omega)); omega) | (apply s_indexO; exact rfl; exact rfl; exact el_36; exact sz_22; (first | exact rfl | exact sR.at_ (by omega)); omega)); (apply ol_ld; exact rfl; exact rfl; exact rfl; (first | (apply RdN.own; (focus ((repeat constructor); done)); exact GetN.cons rfl GetN.nil) | (apply RdN.view; exact g1))); (apply ol_val; exact rfl; apply stp_pur; apply s_len; exact rfl; exact el_22); (apply ol_val; exact rfl; apply stp_cmp; apply s_gtr; exact rfl; exact rfl; all_goals (intro hc37; try (exfalso; (first | exact hc37 rfl | omega)))); all_goals (apply ol_mv; exact rfl; exact rfl); all_goals (first | (apply ol_gskip; exact rfl; exact rfl; (first | exact rfl | assumption); exact rfl) | (apply ol_gval; exact rfl; exact rfl; exact rfl; (first | exact rfl | assumption); apply stp_pur; apply s_move; exact rfl)); all_goals (first | (apply ol_gskip; exact rfl; exact rfl; (first | exact rfl | assumption); exact rfl) | (apply ol_gval; exact rfl; exact rfl; exact rfl; (first | exact rfl | assumption); apply stp_cmp; apply s_gtr; exact rfl; exact rfl; all_goals (intro hc40; try (exfalso; (first | exact hc40 rfl | omega))))); all_goals (apply ol_val; exact rfl; apply stp_pur; first | (apply s_pick_t; exact rfl; (first | exact rfl | assumption); exact rfl) | (apply s_pick_f; exact rfl; (first | exact rfl | assumption); exact rfl)); all_goals (apply ol_nil))
        | (refine cw_region_id 9 ?_; (apply ol_val; exact rfl; apply stp_pur; apply s_buildS; exact rfl; exact fs_24; exact zb_24; (focus ((repeat (first | exact rfl | constructor)); done))); (apply ol_eff; apply s_storeN; exact rfl; exact rfl; exact sz_24; exact rfl; exact rfl; (focus ((repeat constructor); done)); (focus ((repeat constructor); done))); (apply ol_as; exact rfl; exact rfl); (apply ol_nil))
        | (refine cw_region_id 6 ?_; (apply ol_mv; exact rfl; exact rfl); (apply ol_val; exact rfl; apply stp_pur; apply s_add64; exact rfl; exact rfl; omega); (apply ol_as; exact rfl; exact rfl); (apply ol_nil))
        | (refine cw_region_id 10 ?_; (apply ol_fa; exact rfl; exact rfl; exact fd_24_2; (first | exact Nat.zero_add _ | exact Nat.add_zero _ | exact rfl)); (apply ol_ld; exact rfl; exact rfl; exact rfl; (first | (apply RdN.own; (focus ((repeat constructor); done)); (first | exact GetN.cons rfl GetN.nil | (apply getN_ints_app; (first | omega | (simp; omega) | (simp; done))) | (apply getN_ints; (first | omega | (simp; omega) | (simp; done))))) | (apply RdN.view; exact g1))); (apply ol_mv; exact rfl; exact rfl))
        | (refine cw_region_id 11 ?_; (apply ol_mv; exact rfl; exact rfl); (apply ol_mv; exact rfl; exact rfl); (apply ol_val; exact rfl; apply stp_cmp; apply s_lss; exact rfl; exact rfl; all_goals (intro hc52; try (exfalso; (first | exact hc52 rfl | omega)))); all_goals (apply ol_nil))
        | (refine cw_draw (id := 12) 9 (.mv 0 (.mv 1 (.mv 2 (.mv 3 (.mv 4 (.mv 6 (.mv 7 (.fx 5 (.mv 8 (PT.nil)))))))))) mixed (by kernel_rfl) ?_; (apply od_mv; exact rfl; exact rfl; apply s_fieldAddr'; exact rfl; exact fd_24_0; (first | exact Nat.zero_add _ | exact Nat.add_zero _ | exact rfl)); (apply od_mv; exact rfl; exact rfl; apply s_load1; exact rfl; exact rfl; (first | (apply RdN.own; (focus ((repeat constructor); done)); exact GetN.cons rfl GetN.nil) | (apply RdN.view; exact g1))); (apply od_mv; exact rfl; exact rfl; apply s_fieldAddr'; exact rfl; exact fd_24_0; (first | exact Nat.zero_add _ | exact Nat.add_zero _ | exact rfl)); (apply od_mv; exact rfl; exact rfl; apply s_load1; exact rfl; exact rfl; (first | (apply RdN.own; (focus ((repeat constructor); done)); exact GetN.cons rfl GetN.nil) | (apply RdN.view; exact g1))); (apply od_mv; exact rfl; exact rfl; apply s_len; exact rfl; exact el_22); (apply od_mv; exact rfl; exact rfl; apply s_fieldAddr'; exact rfl; exact fd_24_1; (first | exact Nat.zero_add _ | exact Nat.add_zero _ | exact rfl)); (apply od_mv; exact rfl; exact rfl; apply s_load1; exact rfl; exact rfl; (first | (apply RdN.own; (focus ((repeat constructor); done)); (first | exact GetN.cons rfl GetN.nil | (apply getN_ints_app; (first | omega | (simp; omega) | (simp; done))) | (apply getN_ints; (first | omega | (simp; omega) | (simp; done))))) | (apply RdN.view; exact g1))))
        | (refine cw_region_id 13 ?_; (apply ol_as; exact rfl; exact rfl); (apply ol_nil))
        | (refine cw_region_id 14 ?_; (apply ol_as; exact rfl; exact rfl); (apply ol_nil))
        | (apply cw_cond_true; exact rfl; (first | exact rfl | assumption))
        | (apply cw_cond_false; exact rfl; (first | exact rfl | assumption))
        | apply cw_skip
        | apply cw_ret
        | apply cw_block
        | apply cw_exit
      refine ⟨k + 1, ⟨?_, View.le.refl _, by (repeat (first | exact Pick.nil | (apply Pick.cons; (focus ((repeat (first | exact Spl.here | apply Spl.there)); done))) | exact Pick.refl)), hk', by omega⟩⟩
      try dsimp only
      rw [hfll]
      (repeat (first | exact trivial | refine And.intro rfl ?_))
    · obtain rfl : k = m := by omega
      have hfk := hfb k
      rw [hall] at hfk ⊢
      have kw := fun (w' : World) => rwrite_spec w' (n := (framesB L).length) ⟨hv'.2.2.2.1, hv'.2.2.2.2⟩ (by omega)
      have hwn := wrN_le (n := (framesB L).length) hv'.2.2.2.1
      by_cases hw : wrN af (framesB L).length < (framesB L).length
      · rw [if_pos hw]
        clear hfb hsucc hall hz hz0
        generalize framesB L = T at *
        generalize wrN af T.length = W at *
        generalize wrA af T.length = WA at *
        generalize T.length = N at *
        repeat' first
          | apply cw_seq
          | (refine cw_region_id 5 ?_; (apply ol_mv; exact rfl; exact rfl); (apply ol_mv; exact rfl; exact rfl); (apply ol_val; exact rfl; apply stp_pur; apply s_len; exact rfl; exact el_36); (apply ol_val; exact rfl; apply stp_cmp; apply s_lss; exact rfl; exact rfl; all_goals (intro hc21; try (exfalso; (first | exact hc21 rfl | omega)))); all_goals (apply ol_nil))
          | (refine cw_region_id 10 ?_; (apply ol_fa; exact rfl; exact rfl; exact fd_24_2; (first | exact Nat.zero_add _ | exact Nat.add_zero _ | exact rfl)); (apply ol_ld; exact rfl; exact rfl; exact rfl; (apply RdN.own; (focus ((repeat constructor); done)); (first | exact GetN.cons rfl GetN.nil | (apply getN_ints_app; (first | omega | (simp; omega) | (simp; done))) | (apply getN_ints; (first | omega | (simp; omega) | (simp; done)))))); (apply ol_mv; exact rfl; exact rfl); (apply ol_val; exact rfl; apply s_callv; exact rfl; exact gf_35; (intro w' hw'; exact kw w')); (apply ol_mv; exact rfl; exact rfl); (apply ol_ex; exact rfl; exact rfl; exact rfl); (apply ol_ex; exact rfl; exact rfl; exact rfl); (apply ol_as; exact rfl; exact rfl); (apply ol_as; exact rfl; exact rfl); (apply ol_nil))
          | (refine cw_region_id 11 ?_; (apply ol_mv; exact rfl; exact rfl); (apply ol_mv; exact rfl; exact rfl); (apply ol_val; exact rfl; apply stp_cmp; apply s_lss; exact rfl; exact rfl; all_goals (intro hc52; try (exfalso; (first | exact hc52 rfl | omega)))); all_goals (apply ol_nil))
          | (refine cw_draw (id := 12) 9 (.mv 0 (.mv 1 (.mv 2 (.mv 3 (.mv 4 (.mv 6 (.mv 7 (.fx 5 (.mv 8 (PT.nil)))))))))) mixed (by kernel_rfl) ?_; (apply od_mv; exact rfl; exact rfl; apply s_fieldAddr'; exact rfl; exact fd_24_0; (first | exact Nat.zero_add _ | exact Nat.add_zero _ | exact rfl)); (apply od_mv; exact rfl; exact rfl; apply s_load1; exact rfl; exact rfl; (apply RdN.own; (focus ((repeat constructor); done)); exact GetN.cons rfl GetN.nil)); (apply od_mv; exact rfl; exact rfl; apply s_fieldAddr'; exact rfl; exact fd_24_0; (first | exact Nat.zero_add _ | exact Nat.add_zero _ | exact rfl)); (apply od_mv; exact rfl; exact rfl; apply s_load1; exact rfl; exact rfl; (apply RdN.own; (focus ((repeat constructor); done)); exact GetN.cons rfl GetN.nil)); (apply od_mv; exact rfl; exact rfl; apply s_len; exact rfl; exact el_22); (apply od_mv; exact rfl; exact rfl; apply s_fieldAddr'; exact rfl; exact fd_24_1; (first | exact Nat.zero_add _ | exact Nat.add_zero _ | exact rfl)); (apply od_mv; exact rfl; exact rfl; apply s_load1; exact rfl; exact rfl; (apply RdN.own; (focus ((repeat constructor); done)); (first | exact GetN.cons rfl GetN.nil | (apply getN_ints_app; (first | omega | (simp; omega) | (simp; done))) | (apply getN_ints; (first | omega | (simp; omega) | (simp; done)))))); (apply od_fx; (first | exact Wk.refl _ _ | (focus (apply Wk.mk; (first | exact View.le.refl _ | assumption | exact View.le.trans (by assumption) (by assumption)); (repeat constructor); done))); (apply fx_val; exact rfl; exact rfl; apply s_call; exact rfl; exact gf_36; (intro w' hw'; exact k1 w' hw'.le); ((intro v new h; obtain ⟨r1, A1, c1, s1, rfl, rfl, so1⟩ := h)))); (apply od_mv; exact rfl; exact rfl; apply s_buildS; exact rfl; exact fs_24; exact zb_24; (focus ((repeat (first | exact rfl | constructor)); done))); (apply od_nil; (first | exact Wk.refl _ _ | (focus (apply Wk.mk; (first | exact View.le.refl _ | assumption | exact View.le.trans (by assumption) (by assumption)); (repeat constructor); done)))); (apply ol_eff; apply s_storeN; exact rfl; exact rfl; exact sz_24; exact rfl; exact rfl; (focus ((repeat constructor); done)); (focus ((repeat constructor); done))); (apply ol_as; exact rfl; exact rfl); (apply ol_nil))
          | (apply cw_cond_true; exact rfl; (first | exact rfl | assumption))
          | (apply cw_cond_false; exact rfl; (first | exact rfl | assumption))
          | apply cw_skip
          | apply cw_ret
          | apply cw_block
          | apply cw_exit
        all_goals
          refine ends [⟨r1, flat (eK .u8) p ++ s1, 5⟩] (RVal.cellN rfl rfl rfl (RdN.own (by (repeat (first | exact Has.here | apply Has.there))) (GetN.cons rfl (GetN.cons rfl (GetN.cons rfl GetN.nil)))) (RVal.tmp rfl RVal.nil)) (by (repeat (first | exact Pick.nil | (apply Pick.cons; (focus ((repeat (first | exact Spl.here | apply Spl.there)); done))) | exact Pick.refl))) ?_
          exact ⟨_, rfl, JR.of so1 hn⟩
      · rw [if_neg hw]
        have hzl := congrArg List.length hz
        generalize hTe : framesB L = T at *
        generalize wrN af T.length = W at *
        generalize wrA af T.length = WA at *
        repeat' first
          | apply cw_seq
          | (refine cw_region_id 5 ?_; (apply ol_mv; exact rfl; exact rfl); (apply ol_mv; exact rfl; exact rfl); (apply ol_val; exact rfl; apply stp_pur; apply s_len; exact rfl; exact el_36); (apply ol_val; exact rfl; apply stp_cmp; apply s_lss; exact rfl; exact rfl; all_goals (intro hc21; try (exfalso; (first | exact hc21 rfl | omega)))); all_goals (apply ol_nil))
          | (refine cw_region_id 10 ?_; (apply ol_fa; exact rfl; exact rfl; exact fd_24_2; (first | exact Nat.zero_add _ | exact Nat.add_zero _ | exact rfl)); (apply ol_ld; exact rfl; exact rfl; exact rfl; (apply RdN.own; (focus ((repeat constructor); done)); (first | exact GetN.cons rfl GetN.nil | (apply getN_ints_app; (first | omega | (simp; omega) | (simp; done))) | (apply getN_ints; (first | omega | (simp; omega) | (simp; done)))))); (apply ol_mv; exact rfl; exact rfl); (apply ol_val; exact rfl; apply s_callv; exact rfl; exact gf_35; (intro w' hw'; exact kw w')); (apply ol_mv; exact rfl; exact rfl); (apply ol_ex; exact rfl; exact rfl; exact rfl); (apply ol_ex; exact rfl; exact rfl; exact rfl); (apply ol_as; exact rfl; exact rfl); (apply ol_as; exact rfl; exact rfl); (apply ol_nil))
          | (refine cw_region_id 11 ?_; (apply ol_mv; exact rfl; exact rfl); (apply ol_mv; exact rfl; exact rfl); (apply ol_val; exact rfl; apply stp_cmp; apply s_lss; exact rfl; exact rfl; all_goals (intro hc52; try (exfalso; (first | exact hc52 rfl | omega)))); all_goals (apply ol_nil))
          | (refine cw_region_id 13 ?_; (apply ol_as; exact rfl; exact rfl); (apply ol_nil))
          | (refine cw_region_id 14 ?_; (apply ol_as; exact rfl; exact rfl); (apply ol_nil))
          | (apply cw_cond_true; exact rfl; (first | exact rfl | assumption))
          | (apply cw_cond_false; exact rfl; (first | exact rfl | assumption))
          | apply cw_skip
          | apply cw_ret
          | apply cw_block
          | apply cw_exit
        refine cw_loopK (σ := RwSt) [1, 4, 6, 9] (by (repeat (first | exact Keep.nil | (apply Keep.cons; exact rfl)))) (fun s => [(10, .slice (base s.r none) (framesB (L.take s.k)).length s.c), (11, .int .i64 s.k)]) (fun _ => M) (fun s => [⟨s.r, flat (eK .u8) (framesB (L.take s.k)) ++ s.sp, 5⟩, ⟨some bk4, [.slice none 0 0, .int .i64 0, .int .i64 0], 24⟩]) (fun s => s.k ≤ k ∧ SO s.r (framesB (L.take s.k)).length s.c (flat (eK .u8) (framesB (L.take s.k))) s.sp 1) (fun s => k - s.k) ⟨0, none, 0, []⟩ (by dsimp only; rw [hz]; (repeat (first | exact trivial | refine And.intro rfl ?_))) (View.le.refl _) (by dsimp only; rw [hz]; (repeat (first | exact Pick.nil | (apply Pick.cons; (focus ((repeat (first | exact Spl.here | apply Spl.there)); done))) | exact Pick.refl))) ⟨Nat.zero_le _, by dsimp only; rw [hz]; exact SO.nil 1⟩ ?_
        rintro ⟨i, r, cp, sp⟩ ⟨hi, so⟩
        dsimp only at hi so
        dsimp only
        by_cases hi' : i < k
        · have g1 := sR.cells i (by omega)
          have hst := hsucc i (by omega)
          have hfi := hfb i
          have hm1 : R[i]'(by omega) ∈ R := List.getElem_mem _
          obtain ⟨sX, bX⟩ := hR _ hm1
          have hXl := hs.2 _ hm1
          generalize R[i]'(by omega) = X at *
          have hfl : framesB (L.take (i + 1)) = framesB (L.take i) ++ frB X.xs := by rw [hst, framesB_snoc]
          have hF := frB_length X.xs
          have kf := fun (w' : World) (hw' : View.le M (View.of w')) => rframe_spec hw' (c := X.c) rfl (by omega) bX sX
          unfold RowRes at kf
          clear hst hall hz hzl
          generalize framesB (L.take i) = P at *
          generalize frB X.xs = F at *
          rw [hF] at kf
          generalize hN : 36 + X.xs.length = N at *
          repeat' first
            | apply cw_seq
            | (refine cw_region_id 15 ?_; (apply ol_mv; exact rfl; exact rfl); (apply ol_mv; exact rfl; exact rfl); (apply ol_val; exact rfl; apply stp_pur; apply s_len; exact rfl; exact el_36); (apply ol_val; exact rfl; apply stp_cmp; apply s_lss; exact rfl; exact rfl; all_goals (intro hc65; try (exfalso; (first | exact hc65 rfl | omega)))); all_goals (apply ol_nil))
            | (refine cw_region_id 17 ?_; (apply ol_mv; exact rfl; exact rfl); (apply ol_mv; exact rfl; exact rfl); (apply ol_val; exact rfl; apply stp_pur; first | (apply s_indexK; exact rfl; exact rfl; exact el_36; exact sz_22; (first | exact rfl | exact sR.at_ (by omega)); omega) | (apply s_indexO; exact rfl; exact rfl; exact el_36; exact sz_22; (first | exact rfl | exact sR.at_ (by omega)); omega)); (apply ol_ld; exact rfl; exact rfl; exact rfl; (first | (apply RdN.own; (focus ((repeat constructor); done)); exact GetN.cons rfl GetN.nil) | (apply RdN.view; exact g1))); (apply ol_val; exact rfl; apply s_call; exact rfl; exact gf_34; (intro w' hw'; exact kf w' hw'.le); ((intro v new h; obtain ⟨r6, A6, c6, s6, rfl, rfl, so6⟩ := h; obtain ⟨r6, rfl⟩ : ∃ q, r6 = some q := ⟨_, some_ref so6 (by omega)⟩))); (apply ol_as; exact rfl; exact rfl); (apply ol_nil))
            | (refine cw_region_id 18 ?_; (apply ol_as; exact rfl; exact rfl); (apply ol_nil))
            | (apply cw_cond_true; exact rfl; (first | exact rfl | assumption))
            | (apply cw_cond_false; exact rfl; (first | exact rfl | assumption))
            | apply cw_skip
            | apply cw_ret
            | apply cw_block
            | apply cw_exit
          refine cw_loopK (σ := RwSt) [1, 4, 6, 9, 11, 12] (by (repeat (first | exact Keep.nil | (apply Keep.cons; exact rfl)))) (fun s => [(10, .slice (base s.r none) (P.length + s.k) s.c), (13, .int .i64 s.k)]) (fun _ => M) (fun s => [⟨s.r, flat (eK .u8) (P ++ F.take s.k) ++ s.sp, 5⟩, ⟨some r6, flat (eK .u8) F ++ s6, 5⟩, ⟨some bk4, [.slice none 0 0, .int .i64 0, .int .i64 0], 24⟩]) (fun s => s.k ≤ N ∧ SO s.r (P.length + s.k) s.c (flat (eK .u8) (P ++ F.take s.k)) s.sp 1) (fun s => N - s.k) ⟨0, r, cp, sp⟩ (by (repeat (first | exact trivial | refine And.intro rfl ?_))) (View.le.refl _) (by dsimp only; rw [List.take_zero, List.append_nil]; (repeat (first | exact Pick.nil | (apply Pick.cons; (focus ((repeat (first | exact Spl.here | apply Spl.there)); done))) | exact Pick.refl))) ⟨Nat.zero_le _, by dsimp only; rw [List.take_zero, List.append_nil]; exact so⟩ ?_
          clear so
          rintro ⟨q, r, cp, sp⟩ ⟨hq, so⟩
          dsimp only at hq so
          dsimp only
          by_cases hq' : q < N
          · have hst := List.take_succ_eq_append_getElem (show q < F.length by omega)
            have hg := getNK (k := .u8) (xs := F) (sp := s6) (i := q) (by omega)
            have hfl2 : flat (eK .u8) (P ++ F.take (q + 1)) = flat (eK .u8) (P ++ F.take q) ++ [.int .u8 (F.getD q 0)] := by
              rw [hst, ← List.append_assoc, flat_append, flat_one]
              simp [List.getD, List.getElem?_eq_getElem (show q < F.length by omega)]
            generalize P ++ F.take q = Q at *
            repeat' first
              | apply cw_seq
              | (refine cw_region_id 19 ?_; (apply ol_mv; exact rfl; exact rfl); (apply ol_mv; exact rfl; exact rfl); (apply ol_val; exact rfl; apply stp_pur; apply s_len; exact rfl; exact el_22); (apply ol_val; exact rfl; apply stp_cmp; apply s_lss; exact rfl; exact rfl; all_goals (intro hc76; try (exfalso; (first | exact hc76 rfl | omega)))); all_goals (apply ol_nil))
              | (refine cw_region_id 21 ?_; (apply ol_mv; exact rfl; exact rfl); (apply ol_mv; exact rfl; exact rfl); (apply ol_mv; exact rfl; exact rfl); (apply ol_val; exact rfl; apply stp_pur; first | (apply s_indexK; exact rfl; exact rfl; exact el_22; exact sz_5; (first | exact rfl | exact (show base (some r6) A6 = _ from rfl)); omega) | (apply s_indexO; exact rfl; exact rfl; exact el_22; exact sz_5; (first | exact rfl | exact (show base (some r6) A6 = _ from rfl)); omega)); (apply ol_ld; exact rfl; exact rfl; exact rfl; (first | (apply RdN.own; (focus ((repeat constructor); done)); (first | exact GetN.cons rfl GetN.nil | (apply getN_ints_app; (first | omega | (simp; omega) | (simp; done))) | (apply getN_ints; (first | omega | (simp; omega) | (simp; done))))) | (apply RdN.own; (repeat (first | exact Has.here | apply Has.there)); exact hg))); (apply ol_val; exact rfl; apply s_buildSl; exact rfl; exact el_22; exact sz_5; exact zb_5; (focus ((repeat constructor); done)); exact rfl; exact rfl; (exact Nat.le_of_ble_eq_true rfl); (focus ((repeat constructor); done)); (focus ((repeat (first | exact rfl | constructor)); done)); intro bk84); (apply ol_val; exact rfl; first | (apply s_append_e; exact rfl; exact rfl; (focus ((repeat constructor); done)); exact el_22; exact sz_5; exact zb_5; exact rfl; exact by_5; (first | exact (fun _ => rfl) | (intro _; exact (show base (some r6) A6 = _ from rfl))); (first | (apply RdN.own; (focus ((repeat constructor); done)); (focus ((repeat (first | exact rfl | constructor)); done)))); (first | exact rfl); (first | omega | (simp; omega) | (simp; done)); (first | omega | (simp; omega) | (simp; done)); intro rk85 sk85 ck85 ok85) | (apply s_append_r; exact rfl; exact rfl; (focus ((repeat constructor); done)); (first | exact rfl | exact (List.append_nil _).symm); exact el_22; exact sz_5; exact zb_5; exact rfl; exact by_5; (first | exact SO.nil _ | assumption | (exact ⟨by simp, by simp, Nat.le_refl _, by simp⟩)); (first | exact (fun _ => rfl) | (intro _; exact (show base (some r6) A6 = _ from rfl))); (first | (apply RdN.own; (focus ((repeat constructor); done)); (focus ((repeat (first | exact rfl | constructor)); done)))); (first | exact rfl); (first | omega | (simp; omega) | (simp; done)); (first | omega | (simp; omega) | (simp; done)); intro rk85 sk85 ck85 ok85) | (apply s_append_b; exact rfl; exact rfl; (focus ((repeat constructor); done)); (first | exact rfl | exact (List.append_nil _).symm); exact el_22; exact sz_5; exact zb_5; exact rfl; exact by_5; (first | exact SO.nil _ | assumption | (exact ⟨by simp, by simp, Nat.le_refl _, by simp⟩)); (first | exact (fun _ => rfl) | (intro _; exact (show base (some r6) A6 = _ from rfl))); (first | (apply RdN.own; (focus ((repeat constructor); done)); (focus ((repeat (first | exact rfl | constructor)); done)))); (first | exact rfl); (first | omega | (simp; omega) | (simp; done)); (first | omega | (simp; omega) | (simp; done)); intro rk85 sk85 ck85 ok85) | (apply s_append_n; exact rfl; exact rfl; (focus ((repeat constructor); done)); exact el_22; exact sz_5; exact zb_5; exact rfl; exact by_5; (first | exact (fun _ => rfl) | (intro _; exact (show base (some r6) A6 = _ from rfl))); (first | (apply RdN.own; (focus ((repeat constructor); done)); (focus ((repeat (first | exact rfl | constructor)); done)))); (first | exact rfl); (first | omega | (simp; omega) | (simp; done)); (first | omega | (simp; omega) | (simp; done)); intro rk85 sk85 ck85 ok85)); (apply ol_as; exact rfl; exact rfl); (apply ol_nil))
              | (refine cw_region_id 20 ?_; (apply ol_mv; exact rfl; exact rfl); (apply ol_val; exact rfl; apply stp_pur; apply s_add64; exact rfl; exact rfl; omega); (apply ol_as; exact rfl; exact rfl); (apply ol_nil))
              | (refine cw_region_id 16 ?_; (apply ol_mv; exact rfl; exact rfl); (apply ol_val; exact rfl; apply stp_pur; apply s_add64; exact rfl; exact rfl; omega); (apply ol_as; exact rfl; exact rfl); (apply ol_nil))
              | (apply cw_cond_true; exact rfl; (first | exact rfl | assumption))
              | (apply cw_cond_false; exact rfl; (first | exact rfl | assumption))
              | apply cw_skip
              | apply cw_ret
              | apply cw_block
              | apply cw_exit
            refine ⟨⟨q + 1, rk85, ck85, sk85⟩, ⟨by (repeat (first | exact trivial | refine And.intro rfl ?_)), View.le.refl _, ?_, ⟨hq', ?_⟩, by dsimp only; omega⟩⟩
            · dsimp only
              rw [hfl2]
              (repeat (first | exact Pick.nil | (apply Pick.cons; (focus ((repeat (first | exact Spl.here | apply Spl.there)); done))) | exact Pick.refl))
            · dsimp only
              rw [hfl2]
              exact ok85
          · obtain rfl : q = N := by omega
            rw [take_all (p := F) (n := q) (by omega)] at so ⊢
            repeat' first
              | apply cw_seq
              | (refine cw_region_id 19 ?_; (apply ol_mv; exact rfl; exact rfl); (apply ol_mv; exact rfl; exact rfl); (apply ol_val; exact rfl; apply stp_pur; apply s_len; exact rfl; exact el_22); (apply ol_val; exact rfl; apply stp_cmp; apply s_lss; exact rfl; exact rfl; all_goals (intro hc76; try (exfalso; (first | exact hc76 rfl | omega)))); all_goals (apply ol_nil))
              | (refine cw_region_id 21 ?_; (apply ol_mv; exact rfl; exact rfl); (apply ol_mv; exact rfl; exact rfl); (apply ol_mv; exact rfl; exact rfl); (apply ol_val; exact rfl; apply stp_pur; first | (apply s_indexK; exact rfl; exact rfl; exact el_22; exact sz_5; (first | exact rfl); omega) | (apply s_indexO; exact rfl; exact rfl; exact el_22; exact sz_5; (first | exact rfl); omega)); (apply ol_ld; exact rfl; exact rfl; exact rfl; (apply RdN.own; (focus ((repeat constructor); done)); (first | exact GetN.cons rfl GetN.nil | (apply getN_ints_app; (first | omega | (simp; omega) | (simp; done))) | (apply getN_ints; (first | omega | (simp; omega) | (simp; done)))))); (apply ol_val; exact rfl; apply s_buildSl; exact rfl; exact el_22; exact sz_5; exact zb_5; (focus ((repeat constructor); done)); exact rfl; exact rfl; (exact Nat.le_of_ble_eq_true rfl); (focus ((repeat constructor); done)); (focus ((repeat (first | exact rfl | constructor)); done)); intro bk84); (apply ol_val; exact rfl; first | (apply s_append_e; exact rfl; exact rfl; (focus ((repeat constructor); done)); exact el_22; exact sz_5; exact zb_5; exact rfl; exact by_5; (first | exact (fun _ => rfl)); (first | (apply RdN.own; (focus ((repeat constructor); done)); (focus ((repeat (first | exact rfl | constructor)); done)))); (first | exact rfl); (first | omega | (simp; omega) | (simp; done)); (first | omega | (simp; omega) | (simp; done)); intro rk85 sk85 ck85 ok85) | (apply s_append_r; exact rfl; exact rfl; (focus ((repeat constructor); done)); (first | exact rfl | exact (List.append_nil _).symm); exact el_22; exact sz_5; exact zb_5; exact rfl; exact by_5; (first | exact SO.nil _ | assumption | (exact ⟨by simp, by simp, Nat.le_refl _, by simp⟩)); (first | exact (fun _ => rfl)); (first | (apply RdN.own; (focus ((repeat constructor); done)); (focus ((repeat (first | exact rfl | constructor)); done)))); (first | exact rfl); (first | omega | (simp; omega) | (simp; done)); (first | omega | (simp; omega) | (simp; done)); intro rk85 sk85 ck85 ok85) | (apply s_append_b; exact rfl; exact rfl; (focus ((repeat constructor); done)); (first | exact rfl | exact (List.append_nil _).symm); exact el_22; exact sz_5; exact zb_5; exact rfl; exact by_5; (first | exact SO.nil _ | assumption | (exact ⟨by simp, by simp, Nat.le_refl _, by simp⟩)); (first | exact (fun _ => rfl)); (first | (apply RdN.own; (focus ((repeat constructor); done)); (focus ((repeat (first | exact rfl | constructor)); done)))); (first | exact rfl); (first | omega | (simp; omega) | (simp; done)); (first | omega | (simp; omega) | (simp; done)); intro rk85 sk85 ck85 ok85) | (apply s_append_n; exact rfl; exact rfl; (focus ((repeat constructor); done)); exact el_22; exact sz_5; exact zb_5; exact rfl; exact by_5; (first | exact (fun _ => rfl)); (first | (apply RdN.own; (focus ((repeat constructor); done)); (focus ((repeat (first | exact rfl | constructor)); done)))); (first | exact rfl); (first | omega | (simp; omega) | (simp; done)); (first | omega | (simp; omega) | (simp; done)); intro rk85 sk85 ck85 ok85)); (apply ol_as; exact rfl; exact rfl); (apply ol_nil))
              | (refine cw_region_id 20 ?_; (apply ol_mv; exact rfl; exact rfl); (apply ol_val; exact rfl; apply stp_pur; apply s_add64; exact rfl; exact rfl; omega); (apply ol_as; exact rfl; exact rfl); (apply ol_nil))
              | (refine cw_region_id 16 ?_; (apply ol_mv; exact rfl; exact rfl); (apply ol_val; exact rfl; apply stp_pur; apply s_add64; exact rfl; exact rfl; omega); (apply ol_as; exact rfl; exact rfl); (apply ol_nil))
              | (apply cw_cond_true; exact rfl; (first | exact rfl | assumption))
              | (apply cw_cond_false; exact rfl; (first | exact rfl | assumption))
              | apply cw_skip
              | apply cw_ret
              | apply cw_block
              | apply cw_exit
            refine ⟨⟨i + 1, r, cp, sp⟩, ⟨?_, View.le.refl _, by dsimp only; rw [hfl]; (repeat (first | exact Pick.nil | (apply Pick.cons; (focus ((repeat (first | exact Spl.here | apply Spl.there)); done))) | exact Pick.refl)), ⟨hi', ?_⟩, by dsimp only; omega⟩⟩
            · dsimp only
              rw [hfl, List.length_append, hF]
              (repeat (first | exact trivial | refine And.intro rfl ?_))
            · dsimp only
              rw [hfl, List.length_append, hF]
              exact so
        · obtain rfl : i = k := by omega
          rw [hall, hTe] at so ⊢
          repeat' first
            | apply cw_seq
            | (refine cw_region_id 15 ?_; (apply ol_mv; exact rfl; exact rfl); (apply ol_mv; exact rfl; exact rfl); (apply ol_val; exact rfl; apply stp_pur; apply s_len; exact rfl; exact el_36); (apply ol_val; exact rfl; apply stp_cmp; apply s_lss; exact rfl; exact rfl; all_goals (intro hc65; try (exfalso; (first | exact hc65 rfl | omega)))); all_goals (apply ol_nil))
            | (refine cw_region_id 22 ?_; (apply ol_mv; exact rfl; exact rfl); (apply ol_mv; exact rfl; exact rfl); (apply ol_mv; exact rfl; exact rfl); (apply ol_val; exact rfl; apply stp_pur; apply s_buildS; exact rfl; exact fs_24; exact zb_24; (focus ((repeat (first | exact rfl | constructor)); done))); (apply ol_eff; apply s_storeN; exact rfl; exact rfl; exact sz_24; exact rfl; exact rfl; (focus ((repeat constructor); done)); (focus ((repeat constructor); done))); (apply ol_as; exact rfl; exact rfl); (apply ol_nil))
            | (apply cw_cond_true; exact rfl; (first | exact rfl | assumption))
            | (apply cw_cond_false; exact rfl; (first | exact rfl | assumption))
            | apply cw_skip
            | apply cw_ret
            | apply cw_block
            | apply cw_exit
          refine ends [⟨r, flat (eK .u8) T ++ sp, 5⟩] (RVal.cellN rfl rfl rfl (RdN.own (by (repeat (first | exact Has.here | apply Has.there))) (GetN.cons rfl (GetN.cons rfl (GetN.cons rfl GetN.nil)))) (RVal.tmp rfl RVal.nil)) (by (repeat (first | exact Pick.nil | (apply Pick.cons; (focus ((repeat (first | exact Spl.here | apply Spl.there)); done))) | exact Pick.refl))) ?_
          exact ⟨_, rfl, JR.of so rfl⟩
  · rw [if_pos hv]
    rw [decide_eq_false hv] at kv
    repeat' first
      | apply cw_seq
      | (refine cw_region_id 0 ?_; (apply ol_val; exact rfl; first | (apply s_boxN; exact rfl; intro bk2) | (apply s_box1; exact rfl; exact rfl; intro bk2)); (apply ol_val; exact rfl; apply s_alloc; exact zb_24; (focus ((repeat constructor); done)); intro bk4); (apply ol_as; exact rfl; exact rfl); (apply ol_nil))
      | (refine cw_region_id 1 ?_; (apply ol_ldN; exact rfl; exact rfl; exact rfl; exact sz_24; (apply RdN.own; (focus ((repeat constructor); done)); (focus ((repeat (first | exact rfl | constructor)); done)))); (apply ol_val; exact rfl; apply s_callv; exact rfl; exact gf_15; (intro w' hw'; exact kv w')); (apply ol_val; exact rfl; apply stp_pur; first | (apply s_not_t; exact rfl; (first | exact rfl | assumption)) | (apply s_not_f; exact rfl; (first | exact rfl | assumption)) | (apply s_not; exact rfl)); (apply ol_nil))
      | (refine cw_region_id 2 ?_; (apply ol_val; exact rfl; apply stp_pur; apply s_buildS; exact rfl; exact fs_24; exact zb_24; (focus ((repeat (first | exact rfl | constructor)); done))); (apply ol_eff; apply s_storeN; exact rfl; exact rfl; exact sz_24; exact rfl; exact rfl; (focus ((repeat constructor); done)); (focus ((repeat constructor); done))); (apply ol_as; exact rfl; exact rfl); (apply ol_nil))
      | (apply cw_cond_true; exact rfl; (first | exact rfl | assumption))
      | (apply cw_cond_false; exact rfl; (first | exact rfl | assumption))
      | apply cw_skip
      | apply cw_ret
      | apply cw_block
      | apply cw_exit
    refine ends [⟨none, [], 5⟩] (RVal.cellN rfl rfl rfl (RdN.own (by (repeat (first | exact Has.here | apply Has.there))) (GetN.cons rfl (GetN.cons rfl (GetN.cons rfl GetN.nil)))) (RVal.tmp rfl RVal.nil)) (by (repeat (first | exact Pick.nil | (apply Pick.cons; (focus ((repeat (first | exact Spl.here | apply Spl.there)); done))) | exact Pick.refl))) (JRE.err 1)
end Go.Proofs.YtelidojkpbaofaaDoor
