/-
  FormatUint at base 10.
-/
import Derived.Test.YtjaeblkgjbncmaaDoorW18
namespace Go.Proofs.YtjaeblkgjbncmaaDoor
set_option maxRecDepth 20000
set_option linter.unusedSimpArgs false
set_option linter.unusedVariables false
open Go Go.Fw
attribute [local irreducible] CW OL OD FX Stp FnC FnV Ret wI vd strOf upT txt fixT flat
set_option maxHeartbeats 800000
theorem iFmt10_spec {M : View} {w : World} (hM : View.le M (View.of w)) (hL : LT M) {u : Nat} (hu : u < 18446744073709551616) :
    FnC Tryd.prog 41 [.int .u64 u, .int .i64 10] w (fun v _ => v = .string (strOf (txt 10 u))) := by
  refine enterF (M := M) Tryd.func41 rfl rfl rfl rfl hM ?_
  by_cases h1 : u < 100
  · have ks := fun (w' : World) => small_spec w' h1
    repeat' first
      | apply cw_seq
      | (refine cw_region_id 0 ?_; (apply ol_as; exact rfl; exact rfl); (apply ol_nil))
      | (refine cw_region_id 1 ?_; (apply ol_mv; exact rfl; exact rfl); (apply ol_val; exact rfl; apply stp_cmp; apply s_eql; exact rfl; exact rfl; all_goals (intro hc10; try (exfalso; (first | exact hc10 rfl | omega)))); all_goals (apply ol_nil))
      | (refine cw_region_id 2 ?_; (apply ol_mv; exact rfl; exact rfl); (apply ol_val; exact rfl; apply stp_cmp; apply s_lss; exact rfl; exact rfl; all_goals (intro hc12; try (exfalso; (first | exact hc12 rfl | omega)))); all_goals (apply ol_nil))
      | (refine cw_region_id 3 ?_; (apply ol_mv; exact rfl; exact rfl); (apply ol_val; exact rfl; apply stp_pur; first | (apply s_conv; exact rfl; exact rfl; exact ti_3; (focus (apply wrap_i64; omega))) | (apply s_conv; exact rfl; exact rfl; exact ti_3; exact rfl)); (apply ol_val; exact rfl; apply s_callv; exact rfl; exact gf_49; (intro w' hw'; exact ks w')); (apply ol_as; exact rfl; exact rfl); (apply ol_nil))
      | (apply cw_cond_true; exact rfl; (first | exact rfl | assumption))
      | (apply cw_cond_false; exact rfl; (first | exact rfl | assumption))
      | apply cw_skip
      | apply cw_ret
      | apply cw_block
      | apply cw_exit
    refine ends [] (RVal.tmp rfl RVal.nil) Pick.nil ?_
    rfl
  · have kn := fun (w' : World) (h : View.le M (View.of w')) => numDigits_spec h hL (u := u) (by omega) hu
    have hn24 : nd 10 u ≤ 20 := nd_le (by decide) (by omega)
    have hlt := nd_lt (b := 10) (by decide) u
    have htx : txt 10 u = fixT 10 (nd 10 u) u := by rw [txt_pos (by omega)]; unfold fixT dg; rfl
    rw [htx]
    generalize nd 10 u = n at *
    have hFl := fixT_length 10 n u
    have kf := fun (w' : World) (b : Nat) (hok : OB.ok ⟨some b, flat (eK .u8) (List.replicate 24 0), 83⟩ w') => fb10_spec hok (show n ≤ 24 by omega) hlt hu
    have hsp : ∀ (b : Nat), slicedP b 0 0 24 1 = ⟨b, 0, none⟩ := fun b => by unfold slicedP; rw [if_neg (by decide)]
    repeat' first
      | apply cw_seq
      | (refine cw_region_id 0 ?_; (apply ol_as; exact rfl; exact rfl); (apply ol_nil))
      | (refine cw_region_id 1 ?_; (apply ol_mv; exact rfl; exact rfl); (apply ol_val; exact rfl; apply stp_cmp; apply s_eql; exact rfl; exact rfl; all_goals (intro hc10; try (exfalso; (first | exact hc10 rfl | omega)))); all_goals (apply ol_nil))
      | (refine cw_region_id 2 ?_; (apply ol_mv; exact rfl; exact rfl); (apply ol_val; exact rfl; apply stp_cmp; apply s_lss; exact rfl; exact rfl; all_goals (intro hc12; try (exfalso; (first | exact hc12 rfl | omega)))); all_goals (apply ol_nil))
      | (refine cw_region_id 4 ?_; (apply ol_val; exact rfl; apply s_allocK; exact zk_83; intro bk5); (apply ol_nil))
      | (refine cw_region_id 5 ?_; (apply ol_mv; exact rfl; exact rfl); (apply ol_val; exact rfl; apply s_callv; exact rfl; exact gf_50; (intro w' hw'; exact kn w' hw'.le)); (apply ol_as; exact rfl; exact rfl); (apply ol_nil))
      | (refine cw_region_id 6 ?_; (apply ol_mv; exact rfl; exact rfl); (apply ol_val; exact rfl; apply stp_pur; apply s_sliceP; exact rfl; exact ar_83; exact sz_5; exact rfl; (first | exact ⟨.i64, rfl⟩ | exact Exists.intro _ rfl); exact rfl; (intro h; first | exact rfl | cases h); (first | omega | (simp; omega) | (simp; done)); (first | omega | (simp; omega) | (simp; done)); (first | omega | (simp; omega) | (simp; done))); (apply ol_mv; exact rfl; exact rfl); (apply ol_val; exact rfl; apply s_callm; exact rfl; exact gf_51; (intro w' hw'; exact kf w' _ (hw'.ok_ (by (repeat (first | exact Has.here | apply Has.there))))); (focus ((repeat constructor); done)); ((intro v cs' new h; obtain ⟨rfl, rfl⟩ := h))); (apply ol_nil))
      | (refine cw_region_id 7 ?_; (apply ol_mv; exact rfl; exact rfl); (apply ol_val; exact rfl; apply stp_pur; apply s_sliceP; exact rfl; exact ar_83; exact sz_5; exact rfl; (first | exact ⟨.i64, rfl⟩ | exact Exists.intro _ rfl); exact rfl; (intro h; first | exact rfl | cases h); (first | omega | (simp; omega) | (simp; done)); (first | omega | (simp; omega) | (simp; done)); (first | omega | (simp; omega) | (simp; done))); (apply ol_val; exact rfl; apply stp_pur; apply s_convBS; exact rfl; exact el_33; exact tdInt_eq ti_5; exact us_9; exact (fun _ => rfl); exact hFl; (apply RdN.own; (repeat (first | exact Has.here | apply Has.there)); (rw [flat_append]; exact getNK_n hFl))); (apply ol_as; exact rfl; exact rfl); (apply ol_nil))
      | (apply cw_cond_true; exact rfl; (first | exact rfl | assumption))
      | (apply cw_cond_false; exact rfl; (first | exact rfl | assumption))
      | apply cw_skip
      | apply cw_ret
      | apply cw_block
      | apply cw_exit
    refine ends [] (RVal.tmp rfl RVal.nil) Pick.nil ?_
    rfl
end Go.Proofs.YtjaeblkgjbncmaaDoor
