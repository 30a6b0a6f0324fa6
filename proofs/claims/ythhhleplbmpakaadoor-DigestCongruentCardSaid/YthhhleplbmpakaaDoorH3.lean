/-
  The walks of texts of digests: reading them.
-/
import Derived.Test.YthhhleplbmpakaaDoorH2
namespace Go.Proofs.YthhhleplbmpakaaDoor
set_option maxRecDepth 20000
set_option linter.unusedSimpArgs false
set_option linter.unusedVariables false
open Go Go.Fw
attribute [local irreducible] CW OL OD FX Stp FnC Ret DG cmpI hexN strOf hx dgv
set_option maxHeartbeats 800000

theorem index_spec (w : World) {c : Int} (hc : 0 ≤ c ∧ c ≤ 255) :
    FnC Tryd.prog 45 [.string digitsB, .int .u8 c] w (fun v _ => v = .int .i64 (dgv c)) := by
  have h1 : ∀ w, FnC Tryd.prog 57 [.string digitsB, .int .u8 c] w (fun v _ => v = .int .i64 (dgv c)) := fun w => by
    refine enterF (M := View.of w) Tryd.func57 rfl rfl rfl rfl (View.le.refl _) ?_
    repeat' first
      | apply cw_seq
      | (refine cw_region_id 0 ?_; (apply ol_as; exact rfl; exact rfl); (apply ol_nil))
      | (refine cw_region_id 1 ?_; (apply ol_mv; exact rfl; exact rfl); (apply ol_mv; exact rfl; exact rfl); (apply ol_val; exact rfl; apply s_externS; exact rfl; exact Tryd.func61; exact en_61; exact eb_61; exact ex_61; exact ef_61; (intro w hs; exact Lib.run_indexByteString _ _ _)); all_goals (apply ol_as; exact rfl; exact rfl); all_goals (apply ol_nil))
      | (apply cw_cond_true; exact rfl; (first | exact rfl | assumption))
      | (apply cw_cond_false; exact rfl; (first | exact rfl | assumption))
      | apply cw_skip
      | apply cw_ret
      | apply cw_block
      | apply cw_exit
    refine ends [] (RVal.tmp rfl RVal.nil) Pick.nil ?_
    exact congrArg (Value.int .i64) (idx_dgv hc)
  refine enterF (M := View.of w) Tryd.func45 rfl rfl rfl rfl (View.le.refl _) ?_
  repeat' first
    | apply cw_seq
    | (refine cw_region_id 0 ?_; (apply ol_as; exact rfl; exact rfl); (apply ol_nil))
    | (refine cw_region_id 1 ?_; (apply ol_mv; exact rfl; exact rfl); (apply ol_mv; exact rfl; exact rfl); (apply ol_val; exact rfl; apply s_callv; exact rfl; exact gf_57; (intro w' hw'; exact h1 w')); (apply ol_as; exact rfl; exact rfl); (apply ol_nil))
    | (apply cw_cond_true; exact rfl; (first | exact rfl | assumption))
    | (apply cw_cond_false; exact rfl; (first | exact rfl | assumption))
    | apply cw_skip
    | apply cw_ret
    | apply cw_block
    | apply cw_exit
  refine ends [] (RVal.tmp rfl RVal.nil) Pick.nil ?_
  rfl

theorem digit_spec (w : World) {c : Int} (hc : 0 ≤ c ∧ c ≤ 255) : FnC Tryd.prog 46 [.int .u8 c] w (fun v _ => v = .int .i64 (dgv c)) := by
  refine enterF (M := View.of w) Tryd.func46 rfl rfl rfl rfl (View.le.refl _) ?_
  by_cases h1 : 48 ≤ c ∧ c ≤ 57
  · have e : dgv c = c - 48 := by unfold dgv; rw [if_pos h1]
    have e2 := wrap_u8 (m := c - 48) (by omega)
    repeat' first
      | apply cw_seq
      | (refine cw_region_id 0 ?_; (apply ol_as; exact rfl; exact rfl); (apply ol_nil))
      | (refine cw_region_id 1 ?_; (apply ol_mv; exact rfl; exact rfl); (apply ol_val; exact rfl; apply stp_cmp; apply s_geq; exact rfl; exact rfl; all_goals (intro hc4; try (exfalso; (first | exact hc4 rfl | omega)))); all_goals (apply ol_mv; exact rfl; exact rfl); all_goals (first | (apply ol_gskip; exact rfl; exact rfl; (first | exact rfl | assumption); exact rfl) | (apply ol_gval; exact rfl; exact rfl; exact rfl; (first | exact rfl | assumption); apply stp_pur; apply s_move; exact rfl)); all_goals (first | (apply ol_gskip; exact rfl; exact rfl; (first | exact rfl | assumption); exact rfl) | (apply ol_gval; exact rfl; exact rfl; exact rfl; (first | exact rfl | assumption); apply stp_cmp; apply s_leq; exact rfl; exact rfl; all_goals (intro hc7; try (exfalso; (first | exact hc7 rfl | omega))))); all_goals (apply ol_val; exact rfl; apply stp_pur; first | (apply s_pick_t; exact rfl; (first | exact rfl | assumption); exact rfl) | (apply s_pick_f; exact rfl; (first | exact rfl | assumption); exact rfl)); all_goals (apply ol_nil))
      | (refine cw_region_id 2 ?_; (apply ol_mv; exact rfl; exact rfl); (apply ol_val; exact rfl; apply stp_pur; apply s_subW; exact rfl; exact rfl); (apply ol_val; exact rfl; apply stp_pur; first | (apply s_conv; exact rfl; exact rfl; exact ti_3; (focus (apply wrap_i64; omega))) | (apply s_conv; exact rfl; exact rfl; exact ti_3; exact rfl)); (apply ol_as; exact rfl; exact rfl); (apply ol_nil))
      | (refine cw_region_id 3 ?_; (apply ol_mv; exact rfl; exact rfl); (apply ol_val; exact rfl; apply stp_cmp; apply s_geq; exact rfl; exact rfl; all_goals (intro hc13; try (exfalso; (first | exact hc13 rfl | omega)))); all_goals (apply ol_mv; exact rfl; exact rfl); all_goals (first | (apply ol_gskip; exact rfl; exact rfl; (first | exact rfl | assumption); exact rfl) | (apply ol_gval; exact rfl; exact rfl; exact rfl; (first | exact rfl | assumption); apply stp_pur; apply s_move; exact rfl)); all_goals (first | (apply ol_gskip; exact rfl; exact rfl; (first | exact rfl | assumption); exact rfl) | (apply ol_gval; exact rfl; exact rfl; exact rfl; (first | exact rfl | assumption); apply stp_cmp; apply s_leq; exact rfl; exact rfl; all_goals (intro hc16; try (exfalso; (first | exact hc16 rfl | omega))))); all_goals (apply ol_val; exact rfl; apply stp_pur; first | (apply s_pick_t; exact rfl; (first | exact rfl | assumption); exact rfl) | (apply s_pick_f; exact rfl; (first | exact rfl | assumption); exact rfl)); all_goals (apply ol_nil))
      | (refine cw_region_id 4 ?_; (apply ol_mv; exact rfl; exact rfl); (apply ol_val; exact rfl; apply stp_pur; apply s_subW; exact rfl; exact rfl); (apply ol_val; exact rfl; apply stp_pur; first | (apply s_conv; exact rfl; exact rfl; exact ti_3; (focus (apply wrap_i64; omega))) | (apply s_conv; exact rfl; exact rfl; exact ti_3; exact rfl)); (apply ol_val; exact rfl; apply stp_pur; apply s_add64; exact rfl; exact rfl; omega); (apply ol_as; exact rfl; exact rfl); (apply ol_nil))
      | (refine cw_region_id 5 ?_; (apply ol_as; exact rfl; exact rfl); (apply ol_nil))
      | (apply cw_cond_true; exact rfl; (first | exact rfl | assumption))
      | (apply cw_cond_false; exact rfl; (first | exact rfl | assumption))
      | apply cw_skip
      | apply cw_ret
      | apply cw_block
      | apply cw_exit
    refine ends [] (RVal.tmp rfl RVal.nil) Pick.nil ?_
    show Value.int .i64 (IntKind.u8.wrap (c - 48)) = _
    rw [e, e2]
  · by_cases h2 : 97 ≤ c ∧ c ≤ 102
    · have e : dgv c = c - 97 + 10 := by unfold dgv; rw [if_neg h1, if_pos h2]
      have e2 := wrap_u8 (m := c - 97) (by omega)
      repeat' first
        | apply cw_seq
        | (refine cw_region_id 0 ?_; (apply ol_as; exact rfl; exact rfl); (apply ol_nil))
        | (refine cw_region_id 1 ?_; (apply ol_mv; exact rfl; exact rfl); (apply ol_val; exact rfl; apply stp_cmp; apply s_geq; exact rfl; exact rfl; all_goals (intro hc4; try (exfalso; (first | exact hc4 rfl | omega)))); all_goals (apply ol_mv; exact rfl; exact rfl); all_goals (first | (apply ol_gskip; exact rfl; exact rfl; (first | exact rfl | assumption); exact rfl) | (apply ol_gval; exact rfl; exact rfl; exact rfl; (first | exact rfl | assumption); apply stp_pur; apply s_move; exact rfl)); all_goals (first | (apply ol_gskip; exact rfl; exact rfl; (first | exact rfl | assumption); exact rfl) | (apply ol_gval; exact rfl; exact rfl; exact rfl; (first | exact rfl | assumption); apply stp_cmp; apply s_leq; exact rfl; exact rfl; all_goals (intro hc7; try (exfalso; (first | exact hc7 rfl | omega))))); all_goals (apply ol_val; exact rfl; apply stp_pur; first | (apply s_pick_t; exact rfl; (first | exact rfl | assumption); exact rfl) | (apply s_pick_f; exact rfl; (first | exact rfl | assumption); exact rfl)); all_goals (apply ol_nil))
        | (refine cw_region_id 2 ?_; (apply ol_mv; exact rfl; exact rfl); (apply ol_val; exact rfl; apply stp_pur; apply s_subW; exact rfl; exact rfl); (apply ol_val; exact rfl; apply stp_pur; first | (apply s_conv; exact rfl; exact rfl; exact ti_3; (focus (apply wrap_i64; omega))) | (apply s_conv; exact rfl; exact rfl; exact ti_3; exact rfl)); (apply ol_as; exact rfl; exact rfl); (apply ol_nil))
        | (refine cw_region_id 3 ?_; (apply ol_mv; exact rfl; exact rfl); (apply ol_val; exact rfl; apply stp_cmp; apply s_geq; exact rfl; exact rfl; all_goals (intro hc13; try (exfalso; (first | exact hc13 rfl | omega)))); all_goals (apply ol_mv; exact rfl; exact rfl); all_goals (first | (apply ol_gskip; exact rfl; exact rfl; (first | exact rfl | assumption); exact rfl) | (apply ol_gval; exact rfl; exact rfl; exact rfl; (first | exact rfl | assumption); apply stp_pur; apply s_move; exact rfl)); all_goals (first | (apply ol_gskip; exact rfl; exact rfl; (first | exact rfl | assumption); exact rfl) | (apply ol_gval; exact rfl; exact rfl; exact rfl; (first | exact rfl | assumption); apply stp_cmp; apply s_leq; exact rfl; exact rfl; all_goals (intro hc16; try (exfalso; (first | exact hc16 rfl | omega))))); all_goals (apply ol_val; exact rfl; apply stp_pur; first | (apply s_pick_t; exact rfl; (first | exact rfl | assumption); exact rfl) | (apply s_pick_f; exact rfl; (first | exact rfl | assumption); exact rfl)); all_goals (apply ol_nil))
        | (refine cw_region_id 4 ?_; (apply ol_mv; exact rfl; exact rfl); (apply ol_val; exact rfl; apply stp_pur; apply s_subW; exact rfl; exact rfl); (apply ol_val; exact rfl; apply stp_pur; first | (apply s_conv; exact rfl; exact rfl; exact ti_3; (focus (apply wrap_i64; omega))) | (apply s_conv; exact rfl; exact rfl; exact ti_3; exact rfl)); (apply ol_val; exact rfl; apply stp_pur; apply s_add64; exact rfl; exact rfl; omega); (apply ol_as; exact rfl; exact rfl); (apply ol_nil))
        | (refine cw_region_id 5 ?_; (apply ol_as; exact rfl; exact rfl); (apply ol_nil))
        | (apply cw_cond_true; exact rfl; (first | exact rfl | assumption))
        | (apply cw_cond_false; exact rfl; (first | exact rfl | assumption))
        | apply cw_skip
        | apply cw_ret
        | apply cw_block
        | apply cw_exit
      all_goals (refine ends [] (RVal.tmp rfl RVal.nil) Pick.nil ?_; show Value.int .i64 (IntKind.u8.wrap (c - 97) + 10) = _; rw [e, e2])
    · have e : dgv c = -1 := by unfold dgv; rw [if_neg h1, if_neg h2]
      repeat' first
        | apply cw_seq
        | (refine cw_region_id 0 ?_; (apply ol_as; exact rfl; exact rfl); (apply ol_nil))
        | (refine cw_region_id 1 ?_; (apply ol_mv; exact rfl; exact rfl); (apply ol_val; exact rfl; apply stp_cmp; apply s_geq; exact rfl; exact rfl; all_goals (intro hc4; try (exfalso; (first | exact hc4 rfl | omega)))); all_goals (apply ol_mv; exact rfl; exact rfl); all_goals (first | (apply ol_gskip; exact rfl; exact rfl; (first | exact rfl | assumption); exact rfl) | (apply ol_gval; exact rfl; exact rfl; exact rfl; (first | exact rfl | assumption); apply stp_pur; apply s_move; exact rfl)); all_goals (first | (apply ol_gskip; exact rfl; exact rfl; (first | exact rfl | assumption); exact rfl) | (apply ol_gval; exact rfl; exact rfl; exact rfl; (first | exact rfl | assumption); apply stp_cmp; apply s_leq; exact rfl; exact rfl; all_goals (intro hc7; try (exfalso; (first | exact hc7 rfl | omega))))); all_goals (apply ol_val; exact rfl; apply stp_pur; first | (apply s_pick_t; exact rfl; (first | exact rfl | assumption); exact rfl) | (apply s_pick_f; exact rfl; (first | exact rfl | assumption); exact rfl)); all_goals (apply ol_nil))
        | (refine cw_region_id 2 ?_; (apply ol_mv; exact rfl; exact rfl); (apply ol_val; exact rfl; apply stp_pur; apply s_subW; exact rfl; exact rfl); (apply ol_val; exact rfl; apply stp_pur; first | (apply s_conv; exact rfl; exact rfl; exact ti_3; (focus (apply wrap_i64; omega))) | (apply s_conv; exact rfl; exact rfl; exact ti_3; exact rfl)); (apply ol_as; exact rfl; exact rfl); (apply ol_nil))
        | (refine cw_region_id 3 ?_; (apply ol_mv; exact rfl; exact rfl); (apply ol_val; exact rfl; apply stp_cmp; apply s_geq; exact rfl; exact rfl; all_goals (intro hc13; try (exfalso; (first | exact hc13 rfl | omega)))); all_goals (apply ol_mv; exact rfl; exact rfl); all_goals (first | (apply ol_gskip; exact rfl; exact rfl; (first | exact rfl | assumption); exact rfl) | (apply ol_gval; exact rfl; exact rfl; exact rfl; (first | exact rfl | assumption); apply stp_pur; apply s_move; exact rfl)); all_goals (first | (apply ol_gskip; exact rfl; exact rfl; (first | exact rfl | assumption); exact rfl) | (apply ol_gval; exact rfl; exact rfl; exact rfl; (first | exact rfl | assumption); apply stp_cmp; apply s_leq; exact rfl; exact rfl; all_goals (intro hc16; try (exfalso; (first | exact hc16 rfl | omega))))); all_goals (apply ol_val; exact rfl; apply stp_pur; first | (apply s_pick_t; exact rfl; (first | exact rfl | assumption); exact rfl) | (apply s_pick_f; exact rfl; (first | exact rfl | assumption); exact rfl)); all_goals (apply ol_nil))
        | (refine cw_region_id 4 ?_; (apply ol_mv; exact rfl; exact rfl); (apply ol_val; exact rfl; apply stp_pur; apply s_subW; exact rfl; exact rfl); (apply ol_val; exact rfl; apply stp_pur; first | (apply s_conv; exact rfl; exact rfl; exact ti_3; (focus (apply wrap_i64; omega))) | (apply s_conv; exact rfl; exact rfl; exact ti_3; exact rfl)); (apply ol_val; exact rfl; apply stp_pur; apply s_add64; exact rfl; exact rfl; omega); (apply ol_as; exact rfl; exact rfl); (apply ol_nil))
        | (refine cw_region_id 5 ?_; (apply ol_as; exact rfl; exact rfl); (apply ol_nil))
        | (apply cw_cond_true; exact rfl; (first | exact rfl | assumption))
        | (apply cw_cond_false; exact rfl; (first | exact rfl | assumption))
        | apply cw_skip
        | apply cw_ret
        | apply cw_block
        | apply cw_exit
      all_goals (refine ends [] (RVal.tmp rfl RVal.nil) Pick.nil ?_; rw [e]; rfl)

def zer32 : List Int := List.replicate 32 0
theorem parse_len (w : World) {s : List Int} (hl : s.length ≠ 64) :
    FnC Tryd.prog 24 [.string (strOf s)] w (fun v _ => v = .tuple #[.agg (flat (eK .u8) zer32).toArray, .int .i64 3]) := by
  refine enterF (M := View.of w) Tryd.func24 rfl rfl rfl rfl (View.le.refl _) ?_
  have hsz := strOf_size s
  repeat' first
    | apply cw_seq
    | (refine cw_region_id 0 ?_; (apply ol_val; exact rfl; apply s_allocK; exact zk_25; intro bk2); (apply ol_as; exact rfl; exact rfl); (apply ol_nil))
    | (refine cw_region_id 1 ?_; (apply ol_val; exact rfl; apply s_allocK; exact zk_25; intro bk4); (apply ol_nil))
    | (refine cw_region_id 2 ?_; (apply ol_mv; exact rfl; exact rfl); (apply ol_val; exact rfl; apply stp_pur; apply s_len_string; exact rfl; exact rfl; exact rfl); (apply ol_val; exact rfl; apply stp_cmp; apply s_neq; exact rfl; exact rfl; all_goals (intro hc9; try (exfalso; (first | exact hc9 rfl | omega)))); all_goals (apply ol_nil))
    | (refine cw_region_id 3 ?_; (apply ol_val; exact rfl; apply stp_pur; apply s_buildZ; exact ar_25; exact sz_5; exact zk_25); (apply ol_eff; apply s_storeK; exact rfl; exact rfl; exact sz_25; (focus ((repeat constructor); done)); (first | assumption | (rw [List.length_replicate]) | exact rfl); (first | assumption | (rw [List.length_replicate]) | exact rfl)); (apply ol_as; exact rfl; exact rfl); (apply ol_nil))
    | (refine cw_region_id 4 ?_; (apply ol_mv; exact rfl; exact rfl); (apply ol_val; exact rfl; apply stp_pur; apply s_len_string; exact rfl; exact rfl; exact rfl); (apply ol_mv; exact rfl; exact rfl); (apply ol_nil))
    | (apply cw_cond_true; exact rfl; (first | exact rfl | assumption))
    | (apply cw_cond_false; exact rfl; (first | exact rfl | assumption))
    | apply cw_skip
    | apply cw_ret
    | apply cw_block
    | apply cw_exit
  refine ends [] (RVal.cellN rfl rfl rfl (RdN.own (by (repeat (first | exact Has.here | apply Has.there))) (getNK_all (xs := zer32) rfl)) (RVal.tmp rfl RVal.nil)) Pick.nil ?_
  rfl

/-- What reading a text of 64 bytes gives. -/
def Parsed (s : List Int) (e0 e1 : Value) (v : Value) : Prop :=
  (okD s 64 ∧ v = .tuple #[.agg (flat (eK .u8) (hx s 64)).toArray, e0]) ∨ (¬ okD s 64 ∧ v = .tuple #[.agg (flat (eK .u8) zer32).toArray, e1])

theorem parse_spec (w : World) {s : List Int} (hb : isB s) (hl : s.length = 64) :
    FnC Tryd.prog 24 [.string (strOf s)] w (fun v _ => Parsed s (.int .i64 0) (.int .i64 3) v) := by
  refine enterF (M := View.of w) Tryd.func24 rfl rfl rfl rfl (View.le.refl _) ?_
  have hsz := strOf_size s
  have e0 : hx s 0 = List.replicate 32 0 := by unfold hx; rfl
  repeat' first
    | apply cw_seq
    | (refine cw_region_id 0 ?_; (apply ol_val; exact rfl; apply s_allocK; exact zk_25; intro bk2); (apply ol_as; exact rfl; exact rfl); (apply ol_nil))
    | (refine cw_region_id 1 ?_; (apply ol_val; exact rfl; apply s_allocK; exact zk_25; intro bk4); (apply ol_nil))
    | (refine cw_region_id 2 ?_; (apply ol_mv; exact rfl; exact rfl); (apply ol_val; exact rfl; apply stp_pur; apply s_len_string; exact rfl; exact rfl; exact rfl); (apply ol_val; exact rfl; apply stp_cmp; apply s_neq; exact rfl; exact rfl; all_goals (intro hc9; try (exfalso; (first | exact hc9 rfl | omega)))); all_goals (apply ol_nil))
    | (refine cw_region_id 3 ?_; (apply ol_val; exact rfl; apply stp_pur; apply s_buildZ; exact ar_25; exact sz_5; exact zk_25); (apply ol_eff; apply s_storeK; exact rfl; exact rfl; exact sz_25; (focus ((repeat constructor); done)); (first | assumption | (rw [List.length_replicate])); (first | assumption | (rw [List.length_replicate]))); (apply ol_as; exact rfl; exact rfl); (apply ol_nil))
    | (refine cw_region_id 4 ?_; (apply ol_mv; exact rfl; exact rfl); (apply ol_val; exact rfl; apply stp_pur; apply s_len_string; exact rfl; exact rfl; exact rfl); (apply ol_mv; exact rfl; exact rfl); (apply ol_nil))
    | (apply cw_cond_true; exact rfl; (first | exact rfl | assumption))
    | (apply cw_cond_false; exact rfl; (first | exact rfl | assumption))
    | apply cw_skip
    | apply cw_ret
    | apply cw_block
    | apply cw_exit
  refine cw_loopK (σ := Nat) [0, 2, 4, 12] (by (repeat (first | exact Keep.nil | (apply Keep.cons; exact rfl)))) (fun k => [(13, .int .i64 k)]) (fun _ => View.of w) (fun k => [⟨some bk4, flat (eK .u8) (hx s k), 25⟩, ⟨some bk2, flat (eK .u8) zer32, 25⟩]) (fun k => k ≤ 64 ∧ okD s k) (fun k => 64 - k) 0 (by (repeat (first | exact trivial | refine And.intro rfl ?_))) (View.le.refl _) (by rw [e0]; (repeat (first | exact Pick.nil | (apply Pick.cons; (focus ((repeat (first | exact Spl.here | apply Spl.there)); done))) | exact Pick.refl))) ⟨by omega, fun j hj => by omega⟩ ?_
  rintro k ⟨hk, ho⟩
  try dsimp only
  by_cases hk' : k < 64
  · have hat := strOf_at hb.mem (i := k)
    have hg := hb k
    have hlen := hx_length s k
    have hst : hx s (k + 1) = (hx s k).set ((k : Int) / 2).toNat (IntKind.u8.wrap (IntKind.u8.wrap ((hx s k).getD ((k : Int) / 2).toNat 0 * 16) + dgv (s.getD k 0))) := by
      rw [show ((k : Int) / 2).toNat = k / 2 by omega]; exact hx_succ s k
    have hr := dgv_range (s.getD k 0)
    have hor := or16 (x := (hx s k).getD ((k : Int) / 2).toNat 0) (d := dgv (s.getD k 0))
    have hix := fun w' => index_spec w' hg
    have hlt : ((k : Int) / 2).toNat < 32 := by omega
    by_cases hd : dgv (s.getD k 0) < 0
    · have hno : ¬ okD s 64 := fun h => by have := h k hk'; omega
      generalize dgv (s.getD k 0) = D at *
      generalize hx s k = X at *
      repeat' first
        | apply cw_seq
        | (refine cw_region_id 5 ?_; (apply ol_val; exact rfl; apply stp_cmp; apply s_lss; exact rfl; exact rfl; all_goals (intro hc14; try (exfalso; (first | exact hc14 rfl | omega)))); all_goals (apply ol_nil))
        | (refine cw_region_id 6 ?_; (apply ol_mv; exact rfl; exact rfl); (apply ol_as; exact rfl; exact rfl); (apply ol_nil))
        | (refine cw_region_id 7 ?_; (apply ol_mv; exact rfl; exact rfl); (apply ol_mv; exact rfl; exact rfl); (apply ol_val; exact rfl; apply stp_pur; apply s_indexS; exact rfl; exact rfl; exact us_9; (first | exact (show 0 ≤ (k : Int) ∧ (k : Int) < ((strOf s).size : Nat) by omega)); exact hat); (apply ol_val; exact rfl; apply s_callv; exact rfl; exact gf_45; (intro w' hw'; exact hix w')); (apply ol_as; exact rfl; exact rfl); (apply ol_nil))
        | (refine cw_region_id 8 ?_; (apply ol_mv; exact rfl; exact rfl); (apply ol_val; exact rfl; apply stp_cmp; apply s_lss; exact rfl; exact rfl; all_goals (intro hc21; try (exfalso; (first | exact hc21 rfl | omega)))); all_goals (apply ol_nil))
        | (refine cw_region_id 9 ?_; (apply ol_val; exact rfl; apply stp_pur; apply s_buildZ; exact ar_25; exact sz_5; exact zk_25); (apply ol_eff; apply s_storeK; exact rfl; exact rfl; exact sz_25; (focus ((repeat constructor); done)); (first | assumption | (rw [List.length_replicate]) | exact rfl); (first | assumption | (rw [List.length_replicate]) | exact rfl)); (apply ol_as; exact rfl; exact rfl); (apply ol_nil))
        | (refine cw_region_id 10 ?_; (apply ol_mv; exact rfl; exact rfl); (apply ol_val; exact rfl; apply stp_pur; first | (apply s_quo64; exact rfl; exact rfl; omega) | (apply s_quoT; exact rfl; exact rfl; omega)); (apply ol_mv; exact rfl; exact rfl); (apply ol_val; exact rfl; apply stp_pur; first | (apply s_quo64; exact rfl; exact rfl; omega) | (apply s_quoT; exact rfl; exact rfl; omega)); (apply ol_val; exact rfl; apply stp_pur; first | (apply s_indexAK; exact rfl; exact rfl; exact ar_25; exact sz_5; omega) | (apply s_indexAO; exact rfl; exact rfl; exact ar_25; exact sz_5; omega)); (apply ol_ld; exact rfl; exact rfl; exact rfl; (apply RdN.own; (focus ((repeat constructor); done)); (first | exact GetN.cons rfl GetN.nil | (apply getN_ints_app; (first | omega | (simp; omega) | (simp; done))) | (apply getN_ints; (first | omega | (simp; omega) | (simp; done)))))); (apply ol_val; exact rfl; apply stp_pur; apply s_shlW; exact rfl; exact rfl; (first | decide | omega | (simp [IntKind.bits]; omega) | (simp [IntKind.bits]; done))); (apply ol_mv; exact rfl; exact rfl); (apply ol_val; exact rfl; apply stp_pur; first | (apply s_conv; exact rfl; exact rfl; exact ti_5; (focus (apply wrap_u8; omega))) | (apply s_conv; exact rfl; exact rfl; exact ti_5; exact rfl)); (apply ol_val; exact rfl; apply stp_pur; apply s_or; exact rfl; exact rfl); (apply ol_val; exact rfl; apply stp_pur; first | (apply s_indexAK; exact rfl; exact rfl; exact ar_25; exact sz_5; omega) | (apply s_indexAO; exact rfl; exact rfl; exact ar_25; exact sz_5; omega)); (apply ol_eff; apply s_store1; exact rfl; exact rfl; exact sz_5; exact rfl; (focus ((repeat constructor); done)); (first | (focus ((repeat constructor); done)) | (apply setAt_ints_app; (first | omega | (simp; omega) | (simp; done))) | (apply setAt_ints; (first | omega | (simp; omega) | (simp; done))) | (apply SetAt.set; (first | omega | (simp; omega) | (simp; done))))); (apply ol_nil))
        | (refine cw_region_id 11 ?_; (apply ol_val; exact rfl; apply stp_pur; apply s_add64; exact rfl; exact rfl; omega); (apply ol_mv; exact rfl; exact rfl); (apply ol_nil))
        | (refine cw_region_id 12 ?_; (apply ol_ldN; exact rfl; exact rfl; exact rfl; exact sz_25; (apply RdN.own; (focus ((repeat constructor); done)); (apply getNK_all; (first | assumption | (rw [List.length_replicate]) | exact rfl)))); (apply ol_eff; apply s_storeK; exact rfl; exact rfl; exact sz_25; (focus ((repeat constructor); done)); (first | assumption | (rw [List.length_replicate]) | exact rfl); (first | assumption | (rw [List.length_replicate]) | exact rfl)); (apply ol_as; exact rfl; exact rfl); (apply ol_nil))
        | (apply cw_cond_true; exact rfl; (first | exact rfl | assumption))
        | (apply cw_cond_false; exact rfl; (first | exact rfl | assumption))
        | apply cw_skip
        | apply cw_ret
        | apply cw_block
        | apply cw_exit
      refine ends [] (RVal.cellN rfl rfl rfl (RdN.own (by (repeat (first | exact Has.here | apply Has.there))) (getNK_all (xs := zer32) rfl)) (RVal.tmp rfl RVal.nil)) Pick.nil ?_
      exact .inr ⟨hno, rfl⟩
    · have hok : okD s (k + 1) := fun j hj => by
        by_cases e : j = k
        · subst e; omega
        · exact ho j (by omega)
      replace hor := hor (by omega)
      generalize dgv (s.getD k 0) = D at *
      generalize hx s k = X at *
      repeat' first
        | apply cw_seq
        | (refine cw_region_id 5 ?_; (apply ol_val; exact rfl; apply stp_cmp; apply s_lss; exact rfl; exact rfl; all_goals (intro hc14; try (exfalso; (first | exact hc14 rfl | omega)))); all_goals (apply ol_nil))
        | (refine cw_region_id 6 ?_; (apply ol_mv; exact rfl; exact rfl); (apply ol_as; exact rfl; exact rfl); (apply ol_nil))
        | (refine cw_region_id 7 ?_; (apply ol_mv; exact rfl; exact rfl); (apply ol_mv; exact rfl; exact rfl); (apply ol_val; exact rfl; apply stp_pur; apply s_indexS; exact rfl; exact rfl; exact us_9; (first | exact (show 0 ≤ (k : Int) ∧ (k : Int) < ((strOf s).size : Nat) by omega)); exact hat); (apply ol_val; exact rfl; apply s_callv; exact rfl; exact gf_45; (intro w' hw'; exact hix w')); (apply ol_as; exact rfl; exact rfl); (apply ol_nil))
        | (refine cw_region_id 8 ?_; (apply ol_mv; exact rfl; exact rfl); (apply ol_val; exact rfl; apply stp_cmp; apply s_lss; exact rfl; exact rfl; all_goals (intro hc21; try (exfalso; (first | exact hc21 rfl | omega)))); all_goals (apply ol_nil))
        | (refine cw_region_id 9 ?_; (apply ol_val; exact rfl; apply stp_pur; apply s_buildZ; exact ar_25; exact sz_5; exact zk_25); (apply ol_eff; apply s_storeK; exact rfl; exact rfl; exact sz_25; (focus ((repeat constructor); done)); (first | assumption | (rw [List.length_replicate]) | exact rfl); (first | assumption | (rw [List.length_replicate]) | exact rfl)); (apply ol_as; exact rfl; exact rfl); (apply ol_nil))
        | (refine cw_region_id 10 ?_; (apply ol_mv; exact rfl; exact rfl); (apply ol_val; exact rfl; apply stp_pur; first | (apply s_quo64; exact rfl; exact rfl; omega) | (apply s_quoT; exact rfl; exact rfl; omega)); (apply ol_mv; exact rfl; exact rfl); (apply ol_val; exact rfl; apply stp_pur; first | (apply s_quo64; exact rfl; exact rfl; omega) | (apply s_quoT; exact rfl; exact rfl; omega)); (apply ol_val; exact rfl; apply stp_pur; first | (apply s_indexAK; exact rfl; exact rfl; exact ar_25; exact sz_5; omega) | (apply s_indexAO; exact rfl; exact rfl; exact ar_25; exact sz_5; omega)); (apply ol_ld; exact rfl; exact rfl; exact rfl; (first | (apply RdN.own; (focus ((repeat constructor); done)); (first | exact GetN.cons rfl GetN.nil | (apply getN_ints_app; (first | omega | (simp; omega) | (simp; done))) | (apply getN_ints; (first | omega | (simp; omega) | (simp; done))))) | (apply RdN.own; (repeat (first | exact Has.here | apply Has.there)); (apply getNK0; omega)))); (apply ol_val; exact rfl; apply stp_pur; apply s_shlW; exact rfl; exact rfl; (first | decide | omega | (simp [IntKind.bits]; omega) | (simp [IntKind.bits]; done))); (apply ol_mv; exact rfl; exact rfl); (apply ol_val; exact rfl; apply stp_pur; first | (apply s_conv; exact rfl; exact rfl; exact ti_5; (focus (apply wrap_u8; omega))) | (apply s_conv; exact rfl; exact rfl; exact ti_5; exact rfl)); (apply ol_val; exact rfl; apply stp_pur; apply s_or; exact rfl; exact rfl); (apply ol_val; exact rfl; apply stp_pur; first | (apply s_indexAK; exact rfl; exact rfl; exact ar_25; exact sz_5; omega) | (apply s_indexAO; exact rfl; exact rfl; exact ar_25; exact sz_5; omega)); (apply ol_eff; apply s_store1; exact rfl; exact rfl; exact sz_5; exact rfl; (focus ((repeat constructor); done)); (first | (focus ((repeat constructor); done)) | (apply setAt_ints_app; (first | omega | (simp; omega) | (simp; done))) | (apply setAt_ints; (first | omega | (simp; omega) | (simp; done))) | (apply setAtK0; omega) | (apply SetAt.set; (first | omega | (simp; omega) | (simp; done))))); (apply ol_nil))
        | (refine cw_region_id 11 ?_; (apply ol_val; exact rfl; apply stp_pur; apply s_add64; exact rfl; exact rfl; omega); (apply ol_mv; exact rfl; exact rfl); (apply ol_nil))
        | (refine cw_region_id 12 ?_; (apply ol_ldN; exact rfl; exact rfl; exact rfl; exact sz_25; (first | (apply RdN.own; (focus ((repeat constructor); done)); (apply getNK_all; (first | assumption | (rw [List.length_replicate]) | exact rfl))) | (apply RdN.own; (repeat (first | exact Has.here | apply Has.there)); (apply getNK0; omega)))); (apply ol_eff; apply s_storeK; exact rfl; exact rfl; exact sz_25; (focus ((repeat constructor); done)); (first | assumption | (rw [List.length_replicate]) | exact rfl); (first | assumption | (rw [List.length_replicate]) | exact rfl)); (apply ol_as; exact rfl; exact rfl); (apply ol_nil))
        | (apply cw_cond_true; exact rfl; (first | exact rfl | assumption))
        | (apply cw_cond_false; exact rfl; (first | exact rfl | assumption))
        | apply cw_skip
        | apply cw_ret
        | apply cw_block
        | apply cw_exit
      refine ⟨k + 1, ⟨by (repeat (first | exact trivial | refine And.intro rfl ?_)), View.le.refl _, ?_, ⟨hk', hok⟩, by omega⟩⟩
      rw [hst, ← hor]
      (repeat (first | exact Pick.nil | (apply Pick.cons; (focus ((repeat (first | exact Spl.here | apply Spl.there)); done))) | exact Pick.refl))
  · have : k = 64 := by omega
    subst this
    have hlen := hx_length s 64
    unfold Parsed
    generalize hx s 64 = X at *
    repeat' first
      | apply cw_seq
      | (refine cw_region_id 5 ?_; (apply ol_val; exact rfl; apply stp_cmp; apply s_lss; exact rfl; exact rfl; all_goals (intro hc14; try (exfalso; (first | exact hc14 rfl | omega)))); all_goals (apply ol_nil))
      | (refine cw_region_id 6 ?_; (apply ol_mv; exact rfl; exact rfl); (apply ol_as; exact rfl; exact rfl); (apply ol_nil))
      | (refine cw_region_id 7 ?_; (apply ol_mv; exact rfl; exact rfl); (apply ol_mv; exact rfl; exact rfl))
      | (refine cw_region_id 8 ?_; (apply ol_mv; exact rfl; exact rfl); (apply ol_val; exact rfl; apply stp_cmp; apply s_lss; exact rfl; exact rfl; all_goals (intro hc21; try (exfalso; (first | exact hc21 rfl | omega)))); all_goals (apply ol_nil))
      | (refine cw_region_id 9 ?_; (apply ol_val; exact rfl; apply stp_pur; apply s_buildZ; exact ar_25; exact sz_5; exact zk_25); (apply ol_eff; apply s_storeK; exact rfl; exact rfl; exact sz_25; (focus ((repeat constructor); done)); (first | assumption | (rw [List.length_replicate]) | exact rfl); (first | assumption | (rw [List.length_replicate]) | exact rfl)); (apply ol_as; exact rfl; exact rfl); (apply ol_nil))
      | (refine cw_region_id 10 ?_; (apply ol_mv; exact rfl; exact rfl); (apply ol_val; exact rfl; apply stp_pur; first | (apply s_quo64; exact rfl; exact rfl; omega) | (apply s_quoT; exact rfl; exact rfl; omega)); (apply ol_mv; exact rfl; exact rfl); (apply ol_val; exact rfl; apply stp_pur; first | (apply s_quo64; exact rfl; exact rfl; omega) | (apply s_quoT; exact rfl; exact rfl; omega)); (apply ol_val; exact rfl; apply stp_pur; first | (apply s_indexAK; exact rfl; exact rfl; exact ar_25; exact sz_5; omega) | (apply s_indexAO; exact rfl; exact rfl; exact ar_25; exact sz_5; omega)); (apply ol_ld; exact rfl; exact rfl; exact rfl; (apply RdN.own; (focus ((repeat constructor); done)); (first | exact GetN.cons rfl GetN.nil | (apply getN_ints_app; (first | omega | (simp; omega) | (simp; done))) | (apply getN_ints; (first | omega | (simp; omega) | (simp; done)))))); (apply ol_val; exact rfl; apply stp_pur; apply s_shlW; exact rfl; exact rfl; (first | decide | omega | (simp [IntKind.bits]; omega) | (simp [IntKind.bits]; done))); (apply ol_mv; exact rfl; exact rfl); (apply ol_val; exact rfl; apply stp_pur; first | (apply s_conv; exact rfl; exact rfl; exact ti_5; (focus (apply wrap_u8; omega))) | (apply s_conv; exact rfl; exact rfl; exact ti_5; exact rfl)); (apply ol_val; exact rfl; apply stp_pur; apply s_or; exact rfl; exact rfl); (apply ol_val; exact rfl; apply stp_pur; first | (apply s_indexAK; exact rfl; exact rfl; exact ar_25; exact sz_5; omega) | (apply s_indexAO; exact rfl; exact rfl; exact ar_25; exact sz_5; omega)); (apply ol_eff; apply s_store1; exact rfl; exact rfl; exact sz_5; exact rfl; (focus ((repeat constructor); done)); (first | (focus ((repeat constructor); done)) | (apply setAt_ints_app; (first | omega | (simp; omega) | (simp; done))) | (apply setAt_ints; (first | omega | (simp; omega) | (simp; done))) | (apply SetAt.set; (first | omega | (simp; omega) | (simp; done))))); (apply ol_nil))
      | (refine cw_region_id 11 ?_; (apply ol_val; exact rfl; apply stp_pur; apply s_add64; exact rfl; exact rfl; omega); (apply ol_mv; exact rfl; exact rfl); (apply ol_nil))
      | (refine cw_region_id 12 ?_; (apply ol_ldN; exact rfl; exact rfl; exact rfl; exact sz_25; (apply RdN.own; (focus ((repeat constructor); done)); (apply getNK_all; (first | assumption | (rw [List.length_replicate]) | exact rfl)))); (apply ol_eff; apply s_storeK; exact rfl; exact rfl; exact sz_25; (focus ((repeat constructor); done)); (first | assumption | (rw [List.length_replicate]) | exact rfl); (first | assumption | (rw [List.length_replicate]) | exact rfl)); (apply ol_as; exact rfl; exact rfl); (apply ol_nil))
      | (apply cw_cond_true; exact rfl; (first | exact rfl | assumption))
      | (apply cw_cond_false; exact rfl; (first | exact rfl | assumption))
      | apply cw_skip
      | apply cw_ret
      | apply cw_block
      | apply cw_exit
    refine ends [] (RVal.cellN rfl rfl rfl (RdN.own (by (repeat (first | exact Has.here | apply Has.there))) (getNK_all hlen)) (RVal.tmp rfl RVal.nil)) Pick.nil ?_
    exact .inl ⟨ho, rfl⟩

theorem rparse_len (w : World) {s : List Int} (hl : s.length ≠ 64) :
    FnC Tryd.prog 27 [.string (strOf s)] w (fun v _ => v = .tuple #[.agg (flat (eK .u8) zer32).toArray, .bool false]) := by
  refine enterF (M := View.of w) Tryd.func27 rfl rfl rfl rfl (View.le.refl _) ?_
  have hsz := strOf_size s
  repeat' first
    | apply cw_seq
    | (refine cw_region_id 0 ?_; (apply ol_val; exact rfl; apply s_allocK; exact zk_25; intro bk2); (apply ol_as; exact rfl; exact rfl); (apply ol_nil))
    | (refine cw_region_id 1 ?_; (apply ol_val; exact rfl; apply s_allocK; exact zk_25; intro bk4); (apply ol_nil))
    | (refine cw_region_id 2 ?_; (apply ol_mv; exact rfl; exact rfl); (apply ol_val; exact rfl; apply stp_pur; apply s_len_string; exact rfl; exact rfl; exact rfl); (apply ol_val; exact rfl; apply stp_cmp; apply s_neq; exact rfl; exact rfl; all_goals (intro hc9; try (exfalso; (first | exact hc9 rfl | omega)))); all_goals (apply ol_nil))
    | (refine cw_region_id 3 ?_; (apply ol_ldN; exact rfl; exact rfl; exact rfl; exact sz_25; (apply RdN.own; (focus ((repeat constructor); done)); (apply getNK_all; (first | assumption | (rw [List.length_replicate]) | exact rfl)))); (apply ol_eff; apply s_storeK; exact rfl; exact rfl; exact sz_25; (focus ((repeat constructor); done)); (first | assumption | (rw [List.length_replicate]) | exact rfl); (first | assumption | (rw [List.length_replicate]) | exact rfl)); (apply ol_as; exact rfl; exact rfl); (apply ol_nil))
    | (refine cw_region_id 4 ?_; (apply ol_as; exact rfl; exact rfl); (apply ol_nil))
    | (apply cw_cond_true; exact rfl; (first | exact rfl | assumption))
    | (apply cw_cond_false; exact rfl; (first | exact rfl | assumption))
    | apply cw_skip
    | apply cw_ret
    | apply cw_block
    | apply cw_exit
  refine ends [] (RVal.cellN rfl rfl rfl (RdN.own (by (repeat (first | exact Has.here | apply Has.there))) (getNK_all (xs := zer32) rfl)) (RVal.tmp rfl RVal.nil)) Pick.nil ?_
  rfl

theorem rparse_spec (w : World) {s : List Int} (hb : isB s) (hl : s.length = 64) :
    FnC Tryd.prog 27 [.string (strOf s)] w (fun v _ => Parsed s (.bool true) (.bool false) v) := by
  refine enterF (M := View.of w) Tryd.func27 rfl rfl rfl rfl (View.le.refl _) ?_
  have hsz := strOf_size s
  have e0 : hx s 0 = List.replicate 32 0 := by unfold hx; rfl
  repeat' first
    | apply cw_seq
    | (refine cw_region_id 0 ?_; (apply ol_val; exact rfl; apply s_allocK; exact zk_25; intro bk2); (apply ol_as; exact rfl; exact rfl); (apply ol_nil))
    | (refine cw_region_id 1 ?_; (apply ol_val; exact rfl; apply s_allocK; exact zk_25; intro bk4); (apply ol_nil))
    | (refine cw_region_id 2 ?_; (apply ol_mv; exact rfl; exact rfl); (apply ol_val; exact rfl; apply stp_pur; apply s_len_string; exact rfl; exact rfl; exact rfl); (apply ol_val; exact rfl; apply stp_cmp; apply s_neq; exact rfl; exact rfl; all_goals (intro hc9; try (exfalso; (first | exact hc9 rfl | omega)))); all_goals (apply ol_nil))
    | (refine cw_region_id 3 ?_; (apply ol_ldN; exact rfl; exact rfl; exact rfl; exact sz_25; (apply RdN.own; (focus ((repeat constructor); done)); (apply getNK_all; (first | assumption | (rw [List.length_replicate]))))); (apply ol_eff; apply s_storeK; exact rfl; exact rfl; exact sz_25; (focus ((repeat constructor); done)); (first | assumption | (rw [List.length_replicate])); (first | assumption | (rw [List.length_replicate]))); (apply ol_as; exact rfl; exact rfl); (apply ol_nil))
    | (refine cw_region_id 4 ?_; (apply ol_as; exact rfl; exact rfl); (apply ol_nil))
    | (apply cw_cond_true; exact rfl; (first | exact rfl | assumption))
    | (apply cw_cond_false; exact rfl; (first | exact rfl | assumption))
    | apply cw_skip
    | apply cw_ret
    | apply cw_block
    | apply cw_exit
  refine cw_loopK (σ := Nat) [0, 2, 4] (by (repeat (first | exact Keep.nil | (apply Keep.cons; exact rfl)))) (fun k => [(5, .int .i64 k)]) (fun _ => View.of w) (fun k => [⟨some bk4, flat (eK .u8) (hx s k), 25⟩, ⟨some bk2, flat (eK .u8) zer32, 25⟩]) (fun k => k ≤ 64 ∧ okD s k) (fun k => 64 - k) 0 (by (repeat (first | exact trivial | refine And.intro rfl ?_))) (View.le.refl _) (by rw [e0]; (repeat (first | exact Pick.nil | (apply Pick.cons; (focus ((repeat (first | exact Spl.here | apply Spl.there)); done))) | exact Pick.refl))) ⟨by omega, fun j hj => by omega⟩ ?_
  rintro k ⟨hk, ho⟩
  try dsimp only
  by_cases hk' : k < 64
  · have hat := strOf_at hb.mem (i := k)
    have hg := hb k
    have hlen := hx_length s k
    have hst : hx s (k + 1) = (hx s k).set ((k : Int) / 2).toNat (IntKind.u8.wrap (IntKind.u8.wrap ((hx s k).getD ((k : Int) / 2).toNat 0 * 16) + dgv (s.getD k 0))) := by
      rw [show ((k : Int) / 2).toNat = k / 2 by omega]; exact hx_succ s k
    have hr := dgv_range (s.getD k 0)
    have hix := fun w' => digit_spec w' hg
    have hlt : ((k : Int) / 2).toNat < 32 := by omega
    by_cases hd : dgv (s.getD k 0) < 0
    · have hno : ¬ okD s 64 := fun h => by have := h k hk'; omega
      generalize dgv (s.getD k 0) = D at *
      generalize hx s k = X at *
      repeat' first
        | apply cw_seq
        | (refine cw_region_id 5 ?_; (apply ol_mv; exact rfl; exact rfl); (apply ol_val; exact rfl; apply stp_cmp; apply s_lss; exact rfl; exact rfl; all_goals (intro hc12; try (exfalso; (first | exact hc12 rfl | omega)))); all_goals (apply ol_nil))
        | (refine cw_region_id 7 ?_; (apply ol_mv; exact rfl; exact rfl); (apply ol_mv; exact rfl; exact rfl); (apply ol_val; exact rfl; apply stp_pur; apply s_indexS; exact rfl; exact rfl; exact us_9; (first | exact (show 0 ≤ (k : Int) ∧ (k : Int) < ((strOf s).size : Nat) by omega)); exact hat); (apply ol_val; exact rfl; apply s_callv; exact rfl; exact gf_46; (intro w' hw'; exact hix w')); (apply ol_as; exact rfl; exact rfl); (apply ol_nil))
        | (refine cw_region_id 8 ?_; (apply ol_mv; exact rfl; exact rfl); (apply ol_val; exact rfl; apply stp_cmp; apply s_lss; exact rfl; exact rfl; all_goals (intro hc20; try (exfalso; (first | exact hc20 rfl | omega)))); all_goals (apply ol_nil))
        | (refine cw_region_id 9 ?_; (apply ol_val; exact rfl; apply stp_pur; apply s_buildZ; exact ar_25; exact sz_5; exact zk_25); (apply ol_eff; apply s_storeK; exact rfl; exact rfl; exact sz_25; (focus ((repeat constructor); done)); (first | assumption | (rw [List.length_replicate]) | exact rfl); (first | assumption | (rw [List.length_replicate]) | exact rfl)); (apply ol_as; exact rfl; exact rfl); (apply ol_nil))
        | (refine cw_region_id 10 ?_; (apply ol_mv; exact rfl; exact rfl); (apply ol_val; exact rfl; apply stp_pur; first | (apply s_quo64; exact rfl; exact rfl; omega) | (apply s_quoT; exact rfl; exact rfl; omega)); (apply ol_mv; exact rfl; exact rfl); (apply ol_val; exact rfl; apply stp_pur; first | (apply s_quo64; exact rfl; exact rfl; omega) | (apply s_quoT; exact rfl; exact rfl; omega)); (apply ol_val; exact rfl; apply stp_pur; first | (apply s_indexAK; exact rfl; exact rfl; exact ar_25; exact sz_5; omega) | (apply s_indexAO; exact rfl; exact rfl; exact ar_25; exact sz_5; omega)); (apply ol_ld; exact rfl; exact rfl; exact rfl; (apply RdN.own; (focus ((repeat constructor); done)); (first | exact GetN.cons rfl GetN.nil | (apply getN_ints_app; (first | omega | (simp; omega) | (simp; done))) | (apply getN_ints; (first | omega | (simp; omega) | (simp; done)))))); (apply ol_val; exact rfl; apply stp_pur; apply s_mulW; exact rfl; exact rfl); (apply ol_mv; exact rfl; exact rfl); (apply ol_val; exact rfl; apply stp_pur; first | (apply s_conv; exact rfl; exact rfl; exact ti_5; (focus (apply wrap_u8; omega))) | (apply s_conv; exact rfl; exact rfl; exact ti_5; exact rfl)); (apply ol_val; exact rfl; apply stp_pur; apply s_addW; exact rfl; exact rfl); (apply ol_val; exact rfl; apply stp_pur; first | (apply s_indexAK; exact rfl; exact rfl; exact ar_25; exact sz_5; omega) | (apply s_indexAO; exact rfl; exact rfl; exact ar_25; exact sz_5; omega)); (apply ol_eff; apply s_store1; exact rfl; exact rfl; exact sz_5; exact rfl; (focus ((repeat constructor); done)); (first | (focus ((repeat constructor); done)) | (apply setAt_ints_app; (first | omega | (simp; omega) | (simp; done))) | (apply setAt_ints; (first | omega | (simp; omega) | (simp; done))) | (apply SetAt.set; (first | omega | (simp; omega) | (simp; done))))); (apply ol_nil))
        | (refine cw_region_id 6 ?_; (apply ol_mv; exact rfl; exact rfl); (apply ol_val; exact rfl; apply stp_pur; apply s_add64; exact rfl; exact rfl; omega); (apply ol_as; exact rfl; exact rfl); (apply ol_nil))
        | (refine cw_region_id 11 ?_; (apply ol_ldN; exact rfl; exact rfl; exact rfl; exact sz_25; (apply RdN.own; (focus ((repeat constructor); done)); (apply getNK_all; (first | assumption | (rw [List.length_replicate]) | exact rfl)))); (apply ol_eff; apply s_storeK; exact rfl; exact rfl; exact sz_25; (focus ((repeat constructor); done)); (first | assumption | (rw [List.length_replicate]) | exact rfl); (first | assumption | (rw [List.length_replicate]) | exact rfl)); (apply ol_as; exact rfl; exact rfl); (apply ol_nil))
        | (apply cw_cond_true; exact rfl; (first | exact rfl | assumption))
        | (apply cw_cond_false; exact rfl; (first | exact rfl | assumption))
        | apply cw_skip
        | apply cw_ret
        | apply cw_block
        | apply cw_exit
      refine ends [] (RVal.cellN rfl rfl rfl (RdN.own (by (repeat (first | exact Has.here | apply Has.there))) (getNK_all (xs := zer32) rfl)) (RVal.tmp rfl RVal.nil)) Pick.nil ?_
      exact .inr ⟨hno, rfl⟩
    · have hok : okD s (k + 1) := fun j hj => by
        by_cases e : j = k
        · subst e; omega
        · exact ho j (by omega)
      generalize dgv (s.getD k 0) = D at *
      generalize hx s k = X at *
      repeat' first
        | apply cw_seq
        | (refine cw_region_id 5 ?_; (apply ol_mv; exact rfl; exact rfl); (apply ol_val; exact rfl; apply stp_cmp; apply s_lss; exact rfl; exact rfl; all_goals (intro hc12; try (exfalso; (first | exact hc12 rfl | omega)))); all_goals (apply ol_nil))
        | (refine cw_region_id 7 ?_; (apply ol_mv; exact rfl; exact rfl); (apply ol_mv; exact rfl; exact rfl); (apply ol_val; exact rfl; apply stp_pur; apply s_indexS; exact rfl; exact rfl; exact us_9; (first | exact (show 0 ≤ (k : Int) ∧ (k : Int) < ((strOf s).size : Nat) by omega)); exact hat); (apply ol_val; exact rfl; apply s_callv; exact rfl; exact gf_46; (intro w' hw'; exact hix w')); (apply ol_as; exact rfl; exact rfl); (apply ol_nil))
        | (refine cw_region_id 8 ?_; (apply ol_mv; exact rfl; exact rfl); (apply ol_val; exact rfl; apply stp_cmp; apply s_lss; exact rfl; exact rfl; all_goals (intro hc20; try (exfalso; (first | exact hc20 rfl | omega)))); all_goals (apply ol_nil))
        | (refine cw_region_id 9 ?_; (apply ol_val; exact rfl; apply stp_pur; apply s_buildZ; exact ar_25; exact sz_5; exact zk_25); (apply ol_eff; apply s_storeK; exact rfl; exact rfl; exact sz_25; (focus ((repeat constructor); done)); (first | assumption | (rw [List.length_replicate]) | exact rfl); (first | assumption | (rw [List.length_replicate]) | exact rfl)); (apply ol_as; exact rfl; exact rfl); (apply ol_nil))
        | (refine cw_region_id 10 ?_; (apply ol_mv; exact rfl; exact rfl); (apply ol_val; exact rfl; apply stp_pur; first | (apply s_quo64; exact rfl; exact rfl; omega) | (apply s_quoT; exact rfl; exact rfl; omega)); (apply ol_mv; exact rfl; exact rfl); (apply ol_val; exact rfl; apply stp_pur; first | (apply s_quo64; exact rfl; exact rfl; omega) | (apply s_quoT; exact rfl; exact rfl; omega)); (apply ol_val; exact rfl; apply stp_pur; first | (apply s_indexAK; exact rfl; exact rfl; exact ar_25; exact sz_5; omega) | (apply s_indexAO; exact rfl; exact rfl; exact ar_25; exact sz_5; omega)); (apply ol_ld; exact rfl; exact rfl; exact rfl; (first | (apply RdN.own; (focus ((repeat constructor); done)); (first | exact GetN.cons rfl GetN.nil | (apply getN_ints_app; (first | omega | (simp; omega) | (simp; done))) | (apply getN_ints; (first | omega | (simp; omega) | (simp; done))))) | (apply RdN.own; (repeat (first | exact Has.here | apply Has.there)); (apply getNK0; omega)))); (apply ol_val; exact rfl; apply stp_pur; apply s_mulW; exact rfl; exact rfl); (apply ol_mv; exact rfl; exact rfl); (apply ol_val; exact rfl; apply stp_pur; first | (apply s_conv; exact rfl; exact rfl; exact ti_5; (focus (apply wrap_u8; omega))) | (apply s_conv; exact rfl; exact rfl; exact ti_5; exact rfl)); (apply ol_val; exact rfl; apply stp_pur; apply s_addW; exact rfl; exact rfl); (apply ol_val; exact rfl; apply stp_pur; first | (apply s_indexAK; exact rfl; exact rfl; exact ar_25; exact sz_5; omega) | (apply s_indexAO; exact rfl; exact rfl; exact ar_25; exact sz_5; omega)); (apply ol_eff; apply s_store1; exact rfl; exact rfl; exact sz_5; exact rfl; (focus ((repeat constructor); done)); (first | (focus ((repeat constructor); done)) | (apply setAt_ints_app; (first | omega | (simp; omega) | (simp; done))) | (apply setAt_ints; (first | omega | (simp; omega) | (simp; done))) | (apply setAtK0; omega) | (apply SetAt.set; (first | omega | (simp; omega) | (simp; done))))); (apply ol_nil))
        | (refine cw_region_id 6 ?_; (apply ol_mv; exact rfl; exact rfl); (apply ol_val; exact rfl; apply stp_pur; apply s_add64; exact rfl; exact rfl; omega); (apply ol_as; exact rfl; exact rfl); (apply ol_nil))
        | (refine cw_region_id 11 ?_; (apply ol_ldN; exact rfl; exact rfl; exact rfl; exact sz_25; (first | (apply RdN.own; (focus ((repeat constructor); done)); (apply getNK_all; (first | assumption | (rw [List.length_replicate]) | exact rfl))) | (apply RdN.own; (repeat (first | exact Has.here | apply Has.there)); (apply getNK0; omega)))); (apply ol_eff; apply s_storeK; exact rfl; exact rfl; exact sz_25; (focus ((repeat constructor); done)); (first | assumption | (rw [List.length_replicate]) | exact rfl); (first | assumption | (rw [List.length_replicate]) | exact rfl)); (apply ol_as; exact rfl; exact rfl); (apply ol_nil))
        | (apply cw_cond_true; exact rfl; (first | exact rfl | assumption))
        | (apply cw_cond_false; exact rfl; (first | exact rfl | assumption))
        | apply cw_skip
        | apply cw_ret
        | apply cw_block
        | apply cw_exit
      refine ⟨k + 1, ⟨by (repeat (first | exact trivial | refine And.intro rfl ?_)), View.le.refl _, ?_, ⟨hk', hok⟩, by omega⟩⟩
      rw [hst]
      (repeat (first | exact Pick.nil | (apply Pick.cons; (focus ((repeat (first | exact Spl.here | apply Spl.there)); done))) | exact Pick.refl))
  · have : k = 64 := by omega
    subst this
    have hlen := hx_length s 64
    unfold Parsed
    generalize hx s 64 = X at *
    repeat' first
      | apply cw_seq
      | (refine cw_region_id 5 ?_; (apply ol_mv; exact rfl; exact rfl); (apply ol_val; exact rfl; apply stp_cmp; apply s_lss; exact rfl; exact rfl; all_goals (intro hc12; try (exfalso; (first | exact hc12 rfl | omega)))); all_goals (apply ol_nil))
      | (refine cw_region_id 7 ?_; (apply ol_mv; exact rfl; exact rfl); (apply ol_mv; exact rfl; exact rfl))
      | (refine cw_region_id 8 ?_; (apply ol_mv; exact rfl; exact rfl); (apply ol_val; exact rfl; apply stp_cmp; apply s_lss; exact rfl; exact rfl; all_goals (intro hc20; try (exfalso; (first | exact hc20 rfl | omega)))); all_goals (apply ol_nil))
      | (refine cw_region_id 9 ?_; (apply ol_val; exact rfl; apply stp_pur; apply s_buildZ; exact ar_25; exact sz_5; exact zk_25); (apply ol_eff; apply s_storeK; exact rfl; exact rfl; exact sz_25; (focus ((repeat constructor); done)); (first | assumption | (rw [List.length_replicate]) | exact rfl); (first | assumption | (rw [List.length_replicate]) | exact rfl)); (apply ol_as; exact rfl; exact rfl); (apply ol_nil))
      | (refine cw_region_id 10 ?_; (apply ol_mv; exact rfl; exact rfl); (apply ol_val; exact rfl; apply stp_pur; first | (apply s_quo64; exact rfl; exact rfl; omega) | (apply s_quoT; exact rfl; exact rfl; omega)); (apply ol_mv; exact rfl; exact rfl); (apply ol_val; exact rfl; apply stp_pur; first | (apply s_quo64; exact rfl; exact rfl; omega) | (apply s_quoT; exact rfl; exact rfl; omega)); (apply ol_val; exact rfl; apply stp_pur; first | (apply s_indexAK; exact rfl; exact rfl; exact ar_25; exact sz_5; omega) | (apply s_indexAO; exact rfl; exact rfl; exact ar_25; exact sz_5; omega)); (apply ol_ld; exact rfl; exact rfl; exact rfl; (apply RdN.own; (focus ((repeat constructor); done)); (first | exact GetN.cons rfl GetN.nil | (apply getN_ints_app; (first | omega | (simp; omega) | (simp; done))) | (apply getN_ints; (first | omega | (simp; omega) | (simp; done)))))); (apply ol_val; exact rfl; apply stp_pur; apply s_mulW; exact rfl; exact rfl); (apply ol_mv; exact rfl; exact rfl); (apply ol_val; exact rfl; apply stp_pur; first | (apply s_conv; exact rfl; exact rfl; exact ti_5; (focus (apply wrap_u8; omega))) | (apply s_conv; exact rfl; exact rfl; exact ti_5; exact rfl)); (apply ol_val; exact rfl; apply stp_pur; apply s_addW; exact rfl; exact rfl); (apply ol_val; exact rfl; apply stp_pur; first | (apply s_indexAK; exact rfl; exact rfl; exact ar_25; exact sz_5; omega) | (apply s_indexAO; exact rfl; exact rfl; exact ar_25; exact sz_5; omega)); (apply ol_eff; apply s_store1; exact rfl; exact rfl; exact sz_5; exact rfl; (focus ((repeat constructor); done)); (first | (focus ((repeat constructor); done)) | (apply setAt_ints_app; (first | omega | (simp; omega) | (simp; done))) | (apply setAt_ints; (first | omega | (simp; omega) | (simp; done))) | (apply SetAt.set; (first | omega | (simp; omega) | (simp; done))))); (apply ol_nil))
      | (refine cw_region_id 6 ?_; (apply ol_mv; exact rfl; exact rfl); (apply ol_val; exact rfl; apply stp_pur; apply s_add64; exact rfl; exact rfl; omega); (apply ol_as; exact rfl; exact rfl); (apply ol_nil))
      | (refine cw_region_id 11 ?_; (apply ol_ldN; exact rfl; exact rfl; exact rfl; exact sz_25; (apply RdN.own; (focus ((repeat constructor); done)); (apply getNK_all; (first | assumption | (rw [List.length_replicate]) | exact rfl)))); (apply ol_eff; apply s_storeK; exact rfl; exact rfl; exact sz_25; (focus ((repeat constructor); done)); (first | assumption | (rw [List.length_replicate]) | exact rfl); (first | assumption | (rw [List.length_replicate]) | exact rfl)); (apply ol_as; exact rfl; exact rfl); (apply ol_nil))
      | (apply cw_cond_true; exact rfl; (first | exact rfl | assumption))
      | (apply cw_cond_false; exact rfl; (first | exact rfl | assumption))
      | apply cw_skip
      | apply cw_ret
      | apply cw_block
      | apply cw_exit
    refine ends [] (RVal.cellN rfl rfl rfl (RdN.own (by (repeat (first | exact Has.here | apply Has.there))) (getNK_all hlen)) (RVal.tmp rfl RVal.nil)) Pick.nil ?_
    exact .inl ⟨ho, rfl⟩
end Go.Proofs.YthhhleplbmpakaaDoor
