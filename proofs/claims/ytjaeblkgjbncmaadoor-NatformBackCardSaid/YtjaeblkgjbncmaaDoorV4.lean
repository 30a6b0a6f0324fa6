/-
  The law NatformTexts.
-/
import Derived.Test.YtjaeblkgjbncmaaDoorW23
import Derived.Test.YtjaeblkgjbncmaaDoorV1
namespace Go.Proofs.YtjaeblkgjbncmaaDoor
set_option maxRecDepth 20000
set_option linter.unusedSimpArgs false
set_option linter.unusedVariables false
open Go Go.Fw
attribute [local irreducible] CW OL OD FX Stp FnC FnV Ret wI vd strOf upT txt fixT rdP fbP byP
set_option maxHeartbeats 800000
theorem law_texts {M : View} {w : World} (hM : View.le M (View.of w)) (hL : LT M) {a : Option Addr} {b o c k N : Nat} (hN : N < W ^ k) (s : SlA M (eK .u32) 1 a (wI k N) b o) :
    FnC Tryd.prog 8 [.agg [.slice a k c].toArray] w (fun v _ => v = .bool true) := by
  refine enterF (M := M) Tryd.func8 rfl rfl rfl rfl hM ?_
  have ka := fun (w' : World) (h : View.le M (View.of w')) => awake_spec h hL
  have kg := fun (w' : World) => great_spec w' (a := a) (k := k) (c := c)
  by_cases hk : 100 < k
  · rw [decide_eq_true hk] at kg
    repeat' first
      | apply cw_seq
      | (refine cw_region_id 0 ?_; (apply ol_val; exact rfl; first | (apply s_boxN; exact rfl; intro bk1) | (apply s_box1; exact rfl; exact rfl; intro bk1)); (apply ol_as; exact rfl; exact rfl); (apply ol_nil))
      | (refine cw_region_id 1 ?_; (apply ol_val; exact rfl; apply s_callv; exact rfl; exact gf_9; (intro w' hw'; exact ka w' hw'.le)); (apply ol_val; exact rfl; apply stp_pur; first | (apply s_not_t; exact rfl; (first | exact rfl | assumption)) | (apply s_not_f; exact rfl; (first | exact rfl | assumption)) | (apply s_not; exact rfl)); (apply ol_nil))
      | (refine cw_region_id 3 ?_; (apply ol_ldN; exact rfl; exact rfl; exact rfl; exact sz_25; (apply RdN.own; (focus ((repeat constructor); done)); (focus ((repeat (first | exact rfl | constructor)); done)))); (apply ol_val; exact rfl; apply s_callv; exact rfl; exact gf_15; (intro w' hw'; exact kg w')); (apply ol_nil))
      | (refine cw_region_id 4 ?_; (apply ol_as; exact rfl; exact rfl); (apply ol_nil))
      | (apply cw_cond_true; exact rfl; (first | exact rfl | assumption))
      | (apply cw_cond_false; exact rfl; (first | exact rfl | assumption))
      | apply cw_skip
      | apply cw_ret
      | apply cw_block
      | apply cw_exit
    refine ends [] (RVal.tmp rfl RVal.nil) Pick.nil ?_
    rfl
  · rw [decide_eq_false hk] at kg
    have kv := fun (w' : World) (h : View.le M (View.of w')) => rvalid_spec h (c := c) hN (by omega) s
    have kt := fun (w' : World) (h : View.le M (View.of w')) => text_spec h (hL.mono (View.le.refl M)) (c := c) hN (by omega) s
    have kh := fun (w' : World) (h : View.le M (View.of w')) => hex_spec h (hL.mono (View.le.refl M)) (c := c) hN (by omega) s
    by_cases hv : vd k N = true
    · rw [hv] at kv
      have e10 : txP 10 k N = txt 10 N := by unfold txP; rw [if_pos hv]
      have e16 : txP 16 k N = txt 16 N := by unfold txP; rw [if_pos hv]
      rw [e10] at kt
      rw [e16] at kh
      have k1 := fun (w' : World) (h : View.le M (View.of w')) => rtext_spec h (d := 10) (c := c) (.inl rfl) hv s
      have k2 := fun (w' : World) (h : View.le M (View.of w')) => rtext_spec h (d := 16) (c := c) (.inr rfl) hv s
      have b1 : ((strOf (txt 10 N)).toList == (strOf (txt 10 N)).toList) = true := beq_self_eq_true _
      have b2 : ((strOf (txt 16 N)).toList == (strOf (txt 16 N)).toList) = true := beq_self_eq_true _
      generalize strOf (txt 10 N) = T at *
      generalize strOf (txt 16 N) = H at *
      repeat' first
        | apply cw_seq
        | (refine cw_region_id 0 ?_; (apply ol_val; exact rfl; first | (apply s_boxN; exact rfl; intro bk1) | (apply s_box1; exact rfl; exact rfl; intro bk1)); (apply ol_as; exact rfl; exact rfl); (apply ol_nil))
        | (refine cw_region_id 1 ?_; (apply ol_val; exact rfl; apply s_callv; exact rfl; exact gf_9; (intro w' hw'; exact ka w' hw'.le)); (apply ol_val; exact rfl; apply stp_pur; first | (apply s_not_t; exact rfl; (first | exact rfl | assumption)) | (apply s_not_f; exact rfl; (first | exact rfl | assumption)) | (apply s_not; exact rfl)); (apply ol_nil))
        | (refine cw_region_id 3 ?_; (apply ol_ldN; exact rfl; exact rfl; exact rfl; exact sz_25; (apply RdN.own; (focus ((repeat constructor); done)); (focus ((repeat (first | exact rfl | constructor)); done)))); (apply ol_val; exact rfl; apply s_callv; exact rfl; exact gf_15; (intro w' hw'; exact kg w')); (apply ol_nil))
        | (refine cw_region_id 5 ?_; (apply ol_ldN; exact rfl; exact rfl; exact rfl; exact sz_25; (apply RdN.own; (focus ((repeat constructor); done)); (focus ((repeat (first | exact rfl | constructor)); done)))); (apply ol_val; exact rfl; apply s_callv; exact rfl; exact gf_16; (intro w' hw'; exact kv w' hw'.le)); (apply ol_val; exact rfl; apply stp_pur; first | (apply s_not_t; exact rfl; (first | exact rfl | assumption)) | (apply s_not_f; exact rfl; (first | exact rfl | assumption)) | (apply s_not; exact rfl)); (apply ol_nil))
        | (refine cw_draw (id := 7) 13 (.mv 0 (.mv 2 (.fx 1 (.fx 3 (.mv 4 (.mv 5 (.mv 6 (.mv 8 (.fx 7 (.fx 9 (.mv 10 (.mv 11 (.mv 12 (PT.nil)))))))))))))) mixed (by kernel_rfl) ?_; (apply od_mv; exact rfl; exact rfl; apply s_loadN; exact rfl; exact rfl; exact sz_25; (apply RdN.own; (focus ((repeat constructor); done)); (focus ((repeat (first | exact rfl | constructor)); done)))); (apply od_mv; exact rfl; exact rfl; apply s_loadN; exact rfl; exact rfl; exact sz_25; (apply RdN.own; (focus ((repeat constructor); done)); (focus ((repeat (first | exact rfl | constructor)); done)))); (apply od_fx; (first | exact Wk.refl _ _ | (focus (apply Wk.mk; (first | exact View.le.refl _ | assumption | exact View.le.trans (by assumption) (by assumption)); (repeat constructor); done))); (apply fx_val; exact rfl; exact rfl; apply s_callv; exact rfl; exact gf_11; (intro w' hw'; exact kt w' hw'.le))); (apply od_fx; (first | exact Wk.refl _ _ | (focus (apply Wk.mk; (first | exact View.le.refl _ | assumption | exact View.le.trans (by assumption) (by assumption)); (repeat constructor); done))); (apply fx_val; exact rfl; exact rfl; apply s_callv; exact rfl; exact gf_23; (intro w' hw'; (first | exact k1 w' hw'.le | exact k2 w' hw'.le)))); (apply od_mv; exact rfl; exact rfl; apply s_eqlStr; exact rfl; exact rfl); (apply od_mv; exact rfl; exact rfl; apply s_move; exact rfl); (first | (apply od_gskip; exact rfl; exact rfl; exact rfl; (first | exact rfl | assumption); exact rfl) | (apply od_gmv; exact rfl; exact rfl; exact rfl; (first | exact rfl | assumption); exact rfl; apply s_loadN; exact rfl; exact rfl; exact sz_25; (apply RdN.own; (focus ((repeat constructor); done)); (focus ((repeat (first | exact rfl | constructor)); done))))); (first | (apply od_gskip; exact rfl; exact rfl; exact rfl; (first | exact rfl | assumption); exact rfl) | (apply od_gmv; exact rfl; exact rfl; exact rfl; (first | exact rfl | assumption); exact rfl; apply s_loadN; exact rfl; exact rfl; exact sz_25; (apply RdN.own; (focus ((repeat constructor); done)); (focus ((repeat (first | exact rfl | constructor)); done))))); (apply od_fx; (first | exact Wk.refl _ _ | (focus (apply Wk.mk; (first | exact View.le.refl _ | assumption | exact View.le.trans (by assumption) (by assumption)); (repeat constructor); done))); (first | (apply fx_gskip; exact rfl; exact rfl; exact rfl; (first | exact rfl | assumption); exact rfl) | (apply fx_gval; exact rfl; exact rfl; exact rfl; (first | exact rfl | assumption); exact rfl; apply s_callv; exact rfl; exact gf_13; (intro w' hw'; exact kh w' hw'.le)))); (apply od_fx; (first | exact Wk.refl _ _ | (focus (apply Wk.mk; (first | exact View.le.refl _ | assumption | exact View.le.trans (by assumption) (by assumption)); (repeat constructor); done))); (first | (apply fx_gskip; exact rfl; exact rfl; exact rfl; (first | exact rfl | assumption); exact rfl) | (apply fx_gval; exact rfl; exact rfl; exact rfl; (first | exact rfl | assumption); exact rfl; apply s_callv; exact rfl; exact gf_23; (intro w' hw'; (first | exact k1 w' hw'.le | exact k2 w' hw'.le))))); (first | (apply od_gskip; exact rfl; exact rfl; exact rfl; (first | exact rfl | assumption); exact rfl) | (apply od_gmv; exact rfl; exact rfl; exact rfl; (first | exact rfl | assumption); exact rfl; apply s_eqlStr; exact rfl; exact rfl)); (apply od_mv; exact rfl; exact rfl; first | (apply s_pick_t; exact rfl; (first | exact rfl | assumption); exact rfl) | (apply s_pick_f; exact rfl; (first | exact rfl | assumption); exact rfl)); (apply od_mv; exact rfl; exact rfl; apply s_assign; exact rfl); (apply od_nil; (first | exact Wk.refl _ _ | (focus (apply Wk.mk; (first | exact View.le.refl _ | assumption | exact View.le.trans (by assumption) (by assumption)); (repeat constructor); done)))); (apply ol_nil))
        | (apply cw_cond_true; exact rfl; (first | exact rfl | assumption))
        | (apply cw_cond_false; exact rfl; (first | exact rfl | assumption))
        | apply cw_skip
        | apply cw_ret
        | apply cw_block
        | apply cw_exit
      all_goals
        refine ends [] (RVal.tmp rfl RVal.nil) Pick.nil ?_
        exact congrArg Value.bool (by assumption)
    · have hv1 : vd k N = false := by simpa using hv
      rw [hv1] at kv
      have e10 : strOf (txP 10 k N) = (⟨#[]⟩ : ByteArray) := by unfold txP; rw [if_neg hv]; exact strE.symm
      have e16 : strOf (txP 16 k N) = (⟨#[]⟩ : ByteArray) := by unfold txP; rw [if_neg hv]; exact strE.symm
      rw [e10] at kt
      rw [e16] at kh
      have b1 : ((⟨#[]⟩ : ByteArray).toList == (⟨#[]⟩ : ByteArray).toList) = true := beq_self_eq_true _
      repeat' first
        | apply cw_seq
        | (refine cw_region_id 0 ?_; (apply ol_val; exact rfl; first | (apply s_boxN; exact rfl; intro bk1) | (apply s_box1; exact rfl; exact rfl; intro bk1)); (apply ol_as; exact rfl; exact rfl); (apply ol_nil))
        | (refine cw_region_id 1 ?_; (apply ol_val; exact rfl; apply s_callv; exact rfl; exact gf_9; (intro w' hw'; exact ka w' hw'.le)); (apply ol_val; exact rfl; apply stp_pur; first | (apply s_not_t; exact rfl; (first | exact rfl | assumption)) | (apply s_not_f; exact rfl; (first | exact rfl | assumption)) | (apply s_not; exact rfl)); (apply ol_nil))
        | (refine cw_region_id 3 ?_; (apply ol_ldN; exact rfl; exact rfl; exact rfl; exact sz_25; (apply RdN.own; (focus ((repeat constructor); done)); (focus ((repeat (first | exact rfl | constructor)); done)))); (apply ol_val; exact rfl; apply s_callv; exact rfl; exact gf_15; (intro w' hw'; exact kg w')); (apply ol_nil))
        | (refine cw_region_id 5 ?_; (apply ol_ldN; exact rfl; exact rfl; exact rfl; exact sz_25; (apply RdN.own; (focus ((repeat constructor); done)); (focus ((repeat (first | exact rfl | constructor)); done)))); (apply ol_val; exact rfl; apply s_callv; exact rfl; exact gf_16; (intro w' hw'; exact kv w' hw'.le)); (apply ol_val; exact rfl; apply stp_pur; first | (apply s_not_t; exact rfl; (first | exact rfl | assumption)) | (apply s_not_f; exact rfl; (first | exact rfl | assumption)) | (apply s_not; exact rfl)); (apply ol_nil))
        | (refine cw_region_id 6 ?_; (apply ol_ldN; exact rfl; exact rfl; exact rfl; exact sz_25; (apply RdN.own; (focus ((repeat constructor); done)); (focus ((repeat (first | exact rfl | constructor)); done)))); (apply ol_val; exact rfl; apply s_callv; exact rfl; exact gf_11; (intro w' hw'; exact kt w' hw'.le)); (apply ol_val; exact rfl; apply stp_pur; apply s_eqlStr; exact rfl; exact rfl); (apply ol_mv; exact rfl; exact rfl); (first | (apply ol_gskip; exact rfl; exact rfl; (first | exact rfl | assumption); exact rfl) | (apply ol_gval; exact rfl; exact rfl; exact rfl; (first | exact rfl | assumption); apply stp_pur; apply s_loadN; exact rfl; exact rfl; exact sz_25; (apply RdN.own; (focus ((repeat constructor); done)); (focus ((repeat (first | exact rfl | constructor)); done))))); (first | (apply ol_gskip; exact rfl; exact rfl; (first | exact rfl | assumption); exact rfl) | (apply ol_gval; exact rfl; exact rfl; exact rfl; (first | exact rfl | assumption); apply s_callv; exact rfl; exact gf_13; (intro w' hw'; exact kh w' hw'.le))); (first | (apply ol_gskip; exact rfl; exact rfl; (first | exact rfl | assumption); exact rfl) | (apply ol_gval; exact rfl; exact rfl; exact rfl; (first | exact rfl | assumption); apply stp_pur; apply s_eqlStr; exact rfl; exact rfl)); (apply ol_val; exact rfl; apply stp_pur; first | (apply s_pick_t; exact rfl; (first | exact rfl | assumption); exact rfl) | (apply s_pick_f; exact rfl; (first | exact rfl | assumption); exact rfl)); (apply ol_as; exact rfl; exact rfl); (apply ol_nil))
        | (apply cw_cond_true; exact rfl; (first | exact rfl | assumption))
        | (apply cw_cond_false; exact rfl; (first | exact rfl | assumption))
        | apply cw_skip
        | apply cw_ret
        | apply cw_block
        | apply cw_exit
      all_goals
        refine ends [] (RVal.tmp rfl RVal.nil) Pick.nil ?_
        exact congrArg Value.bool (by assumption)
end Go.Proofs.YtjaeblkgjbncmaaDoor
