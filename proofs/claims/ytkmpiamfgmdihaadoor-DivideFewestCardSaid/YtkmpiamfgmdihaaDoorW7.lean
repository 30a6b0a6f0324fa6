/-
  The walks of the nodes of a range.
-/
import Derived.Test.YtkmpiamfgmdihaaDoorW6
namespace Go.Proofs.YtkmpiamfgmdihaaDoor
set_option maxRecDepth 20000
set_option linter.unusedSimpArgs false
set_option linter.unusedVariables false
open Go Go.Fw
def DB64 : List Int := [0, 1, 56, 2, 57, 49, 28, 3, 61, 58, 42, 50, 38, 29, 17, 4, 62, 47, 59, 36, 45, 43, 51, 22, 53, 39, 33, 30, 24, 18, 12, 5, 63, 55, 48, 27, 60, 41, 37, 16, 46, 35, 44, 21, 52, 32, 23, 11, 54, 26, 40, 15, 34, 20, 31, 10, 25, 14, 19, 9, 13, 8, 7, 6]
def DB32 : List Int := [0, 1, 28, 2, 29, 14, 24, 3, 30, 22, 20, 15, 25, 17, 4, 8, 31, 27, 13, 23, 21, 19, 16, 7, 26, 12, 18, 6, 11, 5, 10, 9]
/-- The listed table, as the view has it. -/
def LaidT (M : View) : Prop := ∀ i, i < 64 → GetN (M.cell 1) (0 + i * 1) 1 [.int .u8 (DB64.getD i 0)]
theorem LaidT.mono {M N : View} (h : LaidT M) (hM : View.le M N) : LaidT N := fun i hi => (h i hi).mono fun _ _ e => hM.cell e
def tzI (x : Int) : Int := IntKind.u64.wrap (Go.bits .and .u64 x (IntKind.u64.wrap (0 - x)) * 285870213051353865) / 2 ^ Int.toNat 58
theorem tz_fin : ∀ k : Fin 6, 0 ≤ tzI ((2 ^ k.val : Nat) : Int) ∧ tzI ((2 ^ k.val : Nat) : Int) < 64 ∧ DB64.getD (tzI ((2 ^ k.val : Nat) : Int)).toNat 0 = k.val := by decide +kernel
theorem sz_sub {d j : Nat} (h : j ≤ d) : sz d (d - j) = 2 ^ j := by unfold sz; congr 1; omega
end Go.Proofs.YtkmpiamfgmdihaaDoor
namespace Go.Proofs.YtkmpiamfgmdihaaDoor
set_option maxRecDepth 20000
set_option linter.unusedSimpArgs false
set_option linter.unusedVariables false
open Go Go.Fw
attribute [local irreducible] CW OL OD FX Stp FnC Ret sz DB64 nod
set_option maxHeartbeats 800000

theorem tz64_spec {M : View} {w : World} (hM : View.le M (View.of w)) (hL : LaidT M) {k : Nat} (hk : k ≤ 5) : FnC Tryd.prog 52 [.int .u64 (2 ^ k : Nat)] w (fun v _ => v = .int .i64 k) := by
  refine enterF (M := M) Tryd.func52 rfl rfl rfl rfl hM ?_
  obtain ⟨h1, h2, h3⟩ := tz_fin ⟨k, by omega⟩
  simp only at h1 h2 h3
  have h0 := Nat.one_le_two_pow (n := k)
  generalize 2 ^ k = X at *
  have hc := hL (tzI (X : Int)).toNat (by omega)
  rw [h3] at hc
  unfold tzI at *
  repeat' first
    | apply cw_seq
    | (refine cw_region_id 0 ?_; (apply ol_as; exact rfl; exact rfl); (apply ol_nil))
    | (refine cw_region_id 1 ?_; (apply ol_mv; exact rfl; exact rfl); (apply ol_val; exact rfl; apply stp_cmp; apply s_eql; exact rfl; exact rfl; all_goals (intro hc4; try (exfalso; (first | exact hc4 rfl | omega)))); all_goals (apply ol_nil))
    | (refine cw_region_id 2 ?_; (apply ol_as; exact rfl; exact rfl); (apply ol_nil))
    | (refine cw_region_id 3 ?_; (apply ol_mv; exact rfl; exact rfl); (apply ol_mv; exact rfl; exact rfl); (apply ol_val; exact rfl; apply stp_pur; apply s_negW; exact rfl); (apply ol_val; exact rfl; apply stp_pur; apply s_and; exact rfl; exact rfl); (apply ol_val; exact rfl; apply stp_pur; apply s_mulW; exact rfl; exact rfl); (apply ol_val; exact rfl; apply stp_pur; apply s_shr; exact rfl; exact rfl; (first | decide | omega | (simp [IntKind.bits]; omega) | (simp [IntKind.bits]; done))); (apply ol_val; exact rfl; apply stp_pur; first | (apply s_indexAK; exact rfl; exact rfl; exact ar_81; exact sz_5; omega) | (apply s_indexAO; exact rfl; exact rfl; exact ar_81; exact sz_5; omega)); (apply ol_ld; exact rfl; exact rfl; exact rfl; (first | (apply RdN.own; (focus ((repeat constructor); done)); (first | exact GetN.cons rfl GetN.nil | (apply getN_ints_app; (first | omega | (simp; omega) | (simp; done))) | (apply getN_ints; (first | omega | (simp; omega) | (simp; done))))) | (apply RdN.view; exact hc))); (apply ol_val; exact rfl; apply stp_pur; first | (apply s_conv; exact rfl; exact rfl; exact ti_3; (focus (apply wrap_i64; omega))) | (apply s_conv; exact rfl; exact rfl; exact ti_3; exact rfl)); (apply ol_as; exact rfl; exact rfl); (apply ol_nil))
    | (apply cw_cond_true; exact rfl; (first | exact rfl | assumption))
    | (apply cw_cond_false; exact rfl; (first | exact rfl | assumption))
    | apply cw_skip
    | apply cw_ret
    | apply cw_block
    | apply cw_exit
  refine ends [] (RVal.tmp rfl RVal.nil) Pick.nil ?_
  rfl

theorem tz_spec {M : View} {w : World} (hM : View.le M (View.of w)) (hL : LaidT M) {k : Nat} (hk : k ≤ 5) : FnC Tryd.prog 43 [.int .u64 (2 ^ k : Nat)] w (fun v _ => v = .int .i64 k) := by
  refine enterF (M := M) Tryd.func43 rfl rfl rfl rfl hM ?_
  repeat' first
    | apply cw_seq
    | (refine cw_region_id 0 ?_; (apply ol_as; exact rfl; exact rfl); (apply ol_nil))
    | (refine cw_region_id 1 ?_; (apply ol_mv; exact rfl; exact rfl); (apply ol_val; exact rfl; apply stp_pur; first | (apply s_conv; exact rfl; exact rfl; exact ti_77; (focus (apply wrap_u32; omega))) | (apply s_conv; exact rfl; exact rfl; exact ti_77; exact rfl)))
    | (refine cw_region_id 2 ?_; (apply ol_mv; exact rfl; exact rfl); (apply ol_val; exact rfl; apply s_callv; exact rfl; exact gf_52; (intro w' hw'; exact tz64_spec hw'.le hL hk)); (apply ol_as; exact rfl; exact rfl); (apply ol_nil))
    | (apply cw_cond_true; exact rfl; (first | exact rfl | assumption))
    | (apply cw_cond_false; exact rfl; (first | exact rfl | assumption))
    | apply cw_skip
    | apply cw_ret
    | apply cw_block
    | apply cw_exit
  refine ends [] (RVal.tmp rfl RVal.nil) Pick.nil ?_
  rfl

theorem Nodes_err (w : World) {d a b : Int} (h : ¬ (0 ≤ d ∧ d ≤ 5 ∧ 0 ≤ a ∧ a ≤ b ∧ b ≤ 2 ^ d.toNat)) :
    FnC Tryd.prog 16 [.int .i64 d, .int .i64 a, .int .i64 b] w (fun v _ => v = .tuple #[.slice none 0 0, .int .i64 2]) := by
  refine enterF (M := View.of w) Tryd.func16 rfl rfl rfl rfl (View.le.refl _) ?_
  have hd := fun w' => depth_spec w' d
  by_cases h1 : 0 ≤ d ∧ d ≤ 5
  · rw [decide_eq_true h1] at hd
    have hp := pow_le32 (n := d.toNat) (by omega)
    by_cases h2 : a < 0
    ·
      repeat' first
        | apply cw_seq
        | (refine cw_region_id 0 ?_; (apply ol_as; exact rfl; exact rfl); (apply ol_as; exact rfl; exact rfl); (apply ol_nil))
        | (refine cw_region_id 1 ?_; (apply ol_mv; exact rfl; exact rfl); (apply ol_val; exact rfl; apply s_callv; exact rfl; exact gf_42; (intro w' hw'; exact hd w')); (apply ol_val; exact rfl; apply stp_pur; first | (apply s_not_t; exact rfl; (first | exact rfl | assumption)) | (apply s_not_f; exact rfl; (first | exact rfl | assumption)) | (apply s_not; exact rfl)); (apply ol_mv; exact rfl; exact rfl); (first | (apply ol_gskip; exact rfl; exact rfl; (first | exact rfl | assumption); exact rfl) | (apply ol_gval; exact rfl; exact rfl; exact rfl; (first | exact rfl | assumption); apply stp_pur; apply s_move; exact rfl)); (first | (apply ol_gskip; exact rfl; exact rfl; (first | exact rfl | assumption); exact rfl) | (apply ol_gval; exact rfl; exact rfl; exact rfl; (first | exact rfl | assumption); apply stp_cmp; apply s_lss; exact rfl; exact rfl; all_goals (intro hc15; try (exfalso; (first | exact hc15 rfl | omega))))); all_goals (apply ol_val; exact rfl; apply stp_pur; first | (apply s_pick_t; exact rfl; (first | exact rfl | assumption); exact rfl) | (apply s_pick_f; exact rfl; (first | exact rfl | assumption); exact rfl)); all_goals (apply ol_mv; exact rfl; exact rfl); all_goals (first | (apply ol_gskip; exact rfl; exact rfl; (first | exact rfl | assumption); exact rfl) | (apply ol_gval; exact rfl; exact rfl; exact rfl; (first | exact rfl | assumption); apply stp_pur; apply s_move; exact rfl)); all_goals (first | (apply ol_gskip; exact rfl; exact rfl; (first | exact rfl | assumption); exact rfl) | (apply ol_gval; exact rfl; exact rfl; exact rfl; (first | exact rfl | assumption); apply stp_pur; apply s_move; exact rfl)); all_goals (first | (apply ol_gskip; exact rfl; exact rfl; (first | exact rfl | assumption); exact rfl) | (apply ol_gval; exact rfl; exact rfl; exact rfl; (first | exact rfl | assumption); apply stp_cmp; apply s_gtr; exact rfl; exact rfl; all_goals (intro hc20; try (exfalso; (first | exact hc20 rfl | omega))))); all_goals (apply ol_val; exact rfl; apply stp_pur; first | (apply s_pick_t; exact rfl; (first | exact rfl | assumption); exact rfl) | (apply s_pick_f; exact rfl; (first | exact rfl | assumption); exact rfl)); all_goals (apply ol_mv; exact rfl; exact rfl); all_goals (first | (apply ol_gskip; exact rfl; exact rfl; (first | exact rfl | assumption); exact rfl) | (apply ol_gval; exact rfl; exact rfl; exact rfl; (first | exact rfl | assumption); apply stp_pur; apply s_move; exact rfl)); all_goals (first | (apply ol_gskip; exact rfl; exact rfl; (first | exact rfl | assumption); exact rfl) | (apply ol_gval; exact rfl; exact rfl; exact rfl; (first | exact rfl | assumption); apply stp_pur; apply s_move; exact rfl)); all_goals (first | (apply ol_gskip; exact rfl; exact rfl; (first | exact rfl | assumption); exact rfl) | (apply ol_gval; exact rfl; exact rfl; exact rfl; (first | exact rfl | assumption); apply stp_pur; apply s_shl64; exact rfl; exact rfl; (first | decide | omega | (simp [IntKind.bits]; omega) | (simp [IntKind.bits]; done)); omega)); all_goals (first | (apply ol_gskip; exact rfl; exact rfl; (first | exact rfl | assumption); exact rfl) | (apply ol_gval; exact rfl; exact rfl; exact rfl; (first | exact rfl | assumption); apply stp_cmp; apply s_gtr; exact rfl; exact rfl; all_goals (intro hc26; try (exfalso; (first | exact hc26 rfl | omega))))); all_goals (apply ol_val; exact rfl; apply stp_pur; first | (apply s_pick_t; exact rfl; (first | exact rfl | assumption); exact rfl) | (apply s_pick_f; exact rfl; (first | exact rfl | assumption); exact rfl)); all_goals (apply ol_nil))
        | (refine cw_region_id 2 ?_; (apply ol_as; exact rfl; exact rfl); (apply ol_as; exact rfl; exact rfl); (apply ol_nil))
        | (refine cw_region_id 3 ?_; (apply ol_as; exact rfl; exact rfl); (apply ol_nil))
        | (apply cw_cond_true; exact rfl; (first | exact rfl | assumption))
        | (apply cw_cond_false; exact rfl; (first | exact rfl | assumption))
        | apply cw_skip
        | apply cw_ret
        | apply cw_block
        | apply cw_exit
      refine ends [] (RVal.tmp rfl (RVal.tmp rfl RVal.nil)) Pick.nil ?_
      rfl
    · by_cases h3 : b < a
      ·
        repeat' first
          | apply cw_seq
          | (refine cw_region_id 0 ?_; (apply ol_as; exact rfl; exact rfl); (apply ol_as; exact rfl; exact rfl); (apply ol_nil))
          | (refine cw_region_id 1 ?_; (apply ol_mv; exact rfl; exact rfl); (apply ol_val; exact rfl; apply s_callv; exact rfl; exact gf_42; (intro w' hw'; exact hd w')); (apply ol_val; exact rfl; apply stp_pur; first | (apply s_not_t; exact rfl; (first | exact rfl | assumption)) | (apply s_not_f; exact rfl; (first | exact rfl | assumption)) | (apply s_not; exact rfl)); (apply ol_mv; exact rfl; exact rfl); (first | (apply ol_gskip; exact rfl; exact rfl; (first | exact rfl | assumption); exact rfl) | (apply ol_gval; exact rfl; exact rfl; exact rfl; (first | exact rfl | assumption); apply stp_pur; apply s_move; exact rfl)); (first | (apply ol_gskip; exact rfl; exact rfl; (first | exact rfl | assumption); exact rfl) | (apply ol_gval; exact rfl; exact rfl; exact rfl; (first | exact rfl | assumption); apply stp_cmp; apply s_lss; exact rfl; exact rfl; all_goals (intro hc15; try (exfalso; (first | exact hc15 rfl | omega))))); all_goals (apply ol_val; exact rfl; apply stp_pur; first | (apply s_pick_t; exact rfl; (first | exact rfl | assumption); exact rfl) | (apply s_pick_f; exact rfl; (first | exact rfl | assumption); exact rfl)); all_goals (apply ol_mv; exact rfl; exact rfl); all_goals (first | (apply ol_gskip; exact rfl; exact rfl; (first | exact rfl | assumption); exact rfl) | (apply ol_gval; exact rfl; exact rfl; exact rfl; (first | exact rfl | assumption); apply stp_pur; apply s_move; exact rfl)); all_goals (first | (apply ol_gskip; exact rfl; exact rfl; (first | exact rfl | assumption); exact rfl) | (apply ol_gval; exact rfl; exact rfl; exact rfl; (first | exact rfl | assumption); apply stp_pur; apply s_move; exact rfl)); all_goals (first | (apply ol_gskip; exact rfl; exact rfl; (first | exact rfl | assumption); exact rfl) | (apply ol_gval; exact rfl; exact rfl; exact rfl; (first | exact rfl | assumption); apply stp_cmp; apply s_gtr; exact rfl; exact rfl; all_goals (intro hc20; try (exfalso; (first | exact hc20 rfl | omega))))); all_goals (apply ol_val; exact rfl; apply stp_pur; first | (apply s_pick_t; exact rfl; (first | exact rfl | assumption); exact rfl) | (apply s_pick_f; exact rfl; (first | exact rfl | assumption); exact rfl)); all_goals (apply ol_mv; exact rfl; exact rfl); all_goals (first | (apply ol_gskip; exact rfl; exact rfl; (first | exact rfl | assumption); exact rfl) | (apply ol_gval; exact rfl; exact rfl; exact rfl; (first | exact rfl | assumption); apply stp_pur; apply s_move; exact rfl)); all_goals (first | (apply ol_gskip; exact rfl; exact rfl; (first | exact rfl | assumption); exact rfl) | (apply ol_gval; exact rfl; exact rfl; exact rfl; (first | exact rfl | assumption); apply stp_pur; apply s_move; exact rfl)); all_goals (first | (apply ol_gskip; exact rfl; exact rfl; (first | exact rfl | assumption); exact rfl) | (apply ol_gval; exact rfl; exact rfl; exact rfl; (first | exact rfl | assumption); apply stp_pur; apply s_shl64; exact rfl; exact rfl; (first | decide | omega | (simp [IntKind.bits]; omega) | (simp [IntKind.bits]; done)); omega)); all_goals (first | (apply ol_gskip; exact rfl; exact rfl; (first | exact rfl | assumption); exact rfl) | (apply ol_gval; exact rfl; exact rfl; exact rfl; (first | exact rfl | assumption); apply stp_cmp; apply s_gtr; exact rfl; exact rfl; all_goals (intro hc26; try (exfalso; (first | exact hc26 rfl | omega))))); all_goals (apply ol_val; exact rfl; apply stp_pur; first | (apply s_pick_t; exact rfl; (first | exact rfl | assumption); exact rfl) | (apply s_pick_f; exact rfl; (first | exact rfl | assumption); exact rfl)); all_goals (apply ol_nil))
          | (refine cw_region_id 2 ?_; (apply ol_as; exact rfl; exact rfl); (apply ol_as; exact rfl; exact rfl); (apply ol_nil))
          | (refine cw_region_id 3 ?_; (apply ol_as; exact rfl; exact rfl); (apply ol_nil))
          | (apply cw_cond_true; exact rfl; (first | exact rfl | assumption))
          | (apply cw_cond_false; exact rfl; (first | exact rfl | assumption))
          | apply cw_skip
          | apply cw_ret
          | apply cw_block
          | apply cw_exit
        refine ends [] (RVal.tmp rfl (RVal.tmp rfl RVal.nil)) Pick.nil ?_
        rfl
      · have h4 : 1 * 2 ^ d.toNat < b := by
          rw [Int.one_mul]
          rcases Int.lt_or_le (2 ^ d.toNat) b with h5 | h5
          · exact h5
          · exact absurd ⟨h1.1, h1.2, by omega, by omega, h5⟩ h
        repeat' first
          | apply cw_seq
          | (refine cw_region_id 0 ?_; (apply ol_as; exact rfl; exact rfl); (apply ol_as; exact rfl; exact rfl); (apply ol_nil))
          | (refine cw_region_id 1 ?_; (apply ol_mv; exact rfl; exact rfl); (apply ol_val; exact rfl; apply s_callv; exact rfl; exact gf_42; (intro w' hw'; exact hd w')); (apply ol_val; exact rfl; apply stp_pur; first | (apply s_not_t; exact rfl; (first | exact rfl | assumption)) | (apply s_not_f; exact rfl; (first | exact rfl | assumption)) | (apply s_not; exact rfl)); (apply ol_mv; exact rfl; exact rfl); (first | (apply ol_gskip; exact rfl; exact rfl; (first | exact rfl | assumption); exact rfl) | (apply ol_gval; exact rfl; exact rfl; exact rfl; (first | exact rfl | assumption); apply stp_pur; apply s_move; exact rfl)); (first | (apply ol_gskip; exact rfl; exact rfl; (first | exact rfl | assumption); exact rfl) | (apply ol_gval; exact rfl; exact rfl; exact rfl; (first | exact rfl | assumption); apply stp_cmp; apply s_lss; exact rfl; exact rfl; all_goals (intro hc15; try (exfalso; (first | exact hc15 rfl | omega))))); all_goals (apply ol_val; exact rfl; apply stp_pur; first | (apply s_pick_t; exact rfl; (first | exact rfl | assumption); exact rfl) | (apply s_pick_f; exact rfl; (first | exact rfl | assumption); exact rfl)); all_goals (apply ol_mv; exact rfl; exact rfl); all_goals (first | (apply ol_gskip; exact rfl; exact rfl; (first | exact rfl | assumption); exact rfl) | (apply ol_gval; exact rfl; exact rfl; exact rfl; (first | exact rfl | assumption); apply stp_pur; apply s_move; exact rfl)); all_goals (first | (apply ol_gskip; exact rfl; exact rfl; (first | exact rfl | assumption); exact rfl) | (apply ol_gval; exact rfl; exact rfl; exact rfl; (first | exact rfl | assumption); apply stp_pur; apply s_move; exact rfl)); all_goals (first | (apply ol_gskip; exact rfl; exact rfl; (first | exact rfl | assumption); exact rfl) | (apply ol_gval; exact rfl; exact rfl; exact rfl; (first | exact rfl | assumption); apply stp_cmp; apply s_gtr; exact rfl; exact rfl; all_goals (intro hc20; try (exfalso; (first | exact hc20 rfl | omega))))); all_goals (apply ol_val; exact rfl; apply stp_pur; first | (apply s_pick_t; exact rfl; (first | exact rfl | assumption); exact rfl) | (apply s_pick_f; exact rfl; (first | exact rfl | assumption); exact rfl)); all_goals (apply ol_mv; exact rfl; exact rfl); all_goals (first | (apply ol_gskip; exact rfl; exact rfl; (first | exact rfl | assumption); exact rfl) | (apply ol_gval; exact rfl; exact rfl; exact rfl; (first | exact rfl | assumption); apply stp_pur; apply s_move; exact rfl)); all_goals (first | (apply ol_gskip; exact rfl; exact rfl; (first | exact rfl | assumption); exact rfl) | (apply ol_gval; exact rfl; exact rfl; exact rfl; (first | exact rfl | assumption); apply stp_pur; apply s_move; exact rfl)); all_goals (first | (apply ol_gskip; exact rfl; exact rfl; (first | exact rfl | assumption); exact rfl) | (apply ol_gval; exact rfl; exact rfl; exact rfl; (first | exact rfl | assumption); apply stp_pur; apply s_shl64; exact rfl; exact rfl; (first | decide | omega | (simp [IntKind.bits]; omega) | (simp [IntKind.bits]; done)); omega)); all_goals (first | (apply ol_gskip; exact rfl; exact rfl; (first | exact rfl | assumption); exact rfl) | (apply ol_gval; exact rfl; exact rfl; exact rfl; (first | exact rfl | assumption); apply stp_cmp; apply s_gtr; exact rfl; exact rfl; all_goals (intro hc26; try (exfalso; (first | exact hc26 rfl | omega))))); all_goals (apply ol_val; exact rfl; apply stp_pur; first | (apply s_pick_t; exact rfl; (first | exact rfl | assumption); exact rfl) | (apply s_pick_f; exact rfl; (first | exact rfl | assumption); exact rfl)); all_goals (apply ol_nil))
          | (refine cw_region_id 2 ?_; (apply ol_as; exact rfl; exact rfl); (apply ol_as; exact rfl; exact rfl); (apply ol_nil))
          | (refine cw_region_id 3 ?_; (apply ol_as; exact rfl; exact rfl); (apply ol_nil))
          | (apply cw_cond_true; exact rfl; (first | exact rfl | assumption))
          | (apply cw_cond_false; exact rfl; (first | exact rfl | assumption))
          | apply cw_skip
          | apply cw_ret
          | apply cw_block
          | apply cw_exit
        refine ends [] (RVal.tmp rfl (RVal.tmp rfl RVal.nil)) Pick.nil ?_
        rfl
  · rw [decide_eq_false h1] at hd
    repeat' first
      | apply cw_seq
      | (refine cw_region_id 0 ?_; (apply ol_as; exact rfl; exact rfl); (apply ol_as; exact rfl; exact rfl); (apply ol_nil))
      | (refine cw_region_id 1 ?_; (apply ol_mv; exact rfl; exact rfl); (apply ol_val; exact rfl; apply s_callv; exact rfl; exact gf_42; (intro w' hw'; exact hd w')); (apply ol_val; exact rfl; apply stp_pur; first | (apply s_not_t; exact rfl; (first | exact rfl | assumption)) | (apply s_not_f; exact rfl; (first | exact rfl | assumption)) | (apply s_not; exact rfl)); (apply ol_mv; exact rfl; exact rfl); (first | (apply ol_gskip; exact rfl; exact rfl; (first | exact rfl | assumption); exact rfl) | (apply ol_gval; exact rfl; exact rfl; exact rfl; (first | exact rfl | assumption); apply stp_pur; apply s_move; exact rfl)); (first | (apply ol_gskip; exact rfl; exact rfl; (first | exact rfl | assumption); exact rfl) | (apply ol_gval; exact rfl; exact rfl; exact rfl; (first | exact rfl | assumption); apply stp_cmp; apply s_lss; exact rfl; exact rfl; all_goals (intro hc15; try (exfalso; (first | exact hc15 rfl | omega))))); all_goals (apply ol_val; exact rfl; apply stp_pur; first | (apply s_pick_t; exact rfl; (first | exact rfl | assumption); exact rfl) | (apply s_pick_f; exact rfl; (first | exact rfl | assumption); exact rfl)); all_goals (apply ol_mv; exact rfl; exact rfl); all_goals (first | (apply ol_gskip; exact rfl; exact rfl; (first | exact rfl | assumption); exact rfl) | (apply ol_gval; exact rfl; exact rfl; exact rfl; (first | exact rfl | assumption); apply stp_pur; apply s_move; exact rfl)); all_goals (first | (apply ol_gskip; exact rfl; exact rfl; (first | exact rfl | assumption); exact rfl) | (apply ol_gval; exact rfl; exact rfl; exact rfl; (first | exact rfl | assumption); apply stp_pur; apply s_move; exact rfl)); all_goals (first | (apply ol_gskip; exact rfl; exact rfl; (first | exact rfl | assumption); exact rfl) | (apply ol_gval; exact rfl; exact rfl; exact rfl; (first | exact rfl | assumption); apply stp_cmp; apply s_gtr; exact rfl; exact rfl; all_goals (intro hc20; try (exfalso; (first | exact hc20 rfl | omega))))); all_goals (apply ol_val; exact rfl; apply stp_pur; first | (apply s_pick_t; exact rfl; (first | exact rfl | assumption); exact rfl) | (apply s_pick_f; exact rfl; (first | exact rfl | assumption); exact rfl)); all_goals (apply ol_mv; exact rfl; exact rfl); all_goals (first | (apply ol_gskip; exact rfl; exact rfl; (first | exact rfl | assumption); exact rfl) | (apply ol_gval; exact rfl; exact rfl; exact rfl; (first | exact rfl | assumption); apply stp_pur; apply s_move; exact rfl)); all_goals (first | (apply ol_gskip; exact rfl; exact rfl; (first | exact rfl | assumption); exact rfl) | (apply ol_gval; exact rfl; exact rfl; exact rfl; (first | exact rfl | assumption); apply stp_pur; apply s_move; exact rfl)); all_goals (first | (apply ol_gskip; exact rfl; exact rfl; (first | exact rfl | assumption); exact rfl) | (apply ol_gval; exact rfl; exact rfl; exact rfl; (first | exact rfl | assumption); apply stp_pur; apply s_shl64; exact rfl; exact rfl; (first | decide | omega | (simp [IntKind.bits]; omega) | (simp [IntKind.bits]; done)); omega)); all_goals (first | (apply ol_gskip; exact rfl; exact rfl; (first | exact rfl | assumption); exact rfl) | (apply ol_gval; exact rfl; exact rfl; exact rfl; (first | exact rfl | assumption); apply stp_cmp; apply s_gtr; exact rfl; exact rfl; all_goals (intro hc26; try (exfalso; (first | exact hc26 rfl | omega))))); all_goals (apply ol_val; exact rfl; apply stp_pur; first | (apply s_pick_t; exact rfl; (first | exact rfl | assumption); exact rfl) | (apply s_pick_f; exact rfl; (first | exact rfl | assumption); exact rfl)); all_goals (apply ol_nil))
      | (refine cw_region_id 2 ?_; (apply ol_as; exact rfl; exact rfl); (apply ol_as; exact rfl; exact rfl); (apply ol_nil))
      | (refine cw_region_id 3 ?_; (apply ol_as; exact rfl; exact rfl); (apply ol_nil))
      | (apply cw_cond_true; exact rfl; (first | exact rfl | assumption))
      | (apply cw_cond_false; exact rfl; (first | exact rfl | assumption))
      | apply cw_skip
      | apply cw_ret
      | apply cw_block
      | apply cw_exit
    refine ends [] (RVal.tmp rfl (RVal.tmp rfl RVal.nil)) Pick.nil ?_
    rfl

structure NSt where
  at_ : Nat
  f : Nat
  out : List (Nat × Nat)
  r : Option Nat
  cp : Nat
  sp : List Value
structure NInv (d to : Nat) (L0 : List (Nat × Nat)) (s : NSt) : Prop where
  le : s.at_ ≤ to
  fuel : to ≤ s.at_ + s.f
  eq : s.out ++ nod d s.f s.at_ to = L0
  len : s.out.length ≤ s.at_
  so : SO s.r s.out.length s.cp (flat C2.enc (s.out.map toC2)) s.sp 2
theorem Nodes_spec {M : View} {w : World} (hM : View.le M (View.of w)) (hL : LaidT M) {d a b : Nat} (hd : d ≤ 5) (hab : a ≤ b) (hb : b ≤ 2 ^ d) :
    FnC Tryd.prog 16 [.int .i64 d, .int .i64 a, .int .i64 b] w (NodErr (nod d (2 ^ d) a b)) := by
  refine enterF (M := M) Tryd.func16 rfl rfl rfl rfl hM ?_
  have h1 := fun w' => depth_spec w' (d : Int)
  rw [decide_eq_true (show 0 ≤ (d : Int) ∧ (d : Int) ≤ 5 by omega)] at h1
  have h32 := pow32 hd
  have h01 := Nat.one_le_two_pow (n := d)
  have hD : (1 : Int) * 2 ^ ((d : Int)).toNat = ((2 ^ d : Nat) : Int) := by rw [Int.one_mul, pow_cast]
  generalize hL0 : nod d (2 ^ d) a b = L0 at *
  refine cw_none 32 ?_
  repeat' first
    | apply cw_seq
    | (refine cw_region_id 0 ?_; (apply ol_as; exact rfl; exact rfl); (apply ol_as; exact rfl; exact rfl); (apply ol_nil))
    | (refine cw_region_id 1 ?_; (apply ol_mv; exact rfl; exact rfl); (apply ol_val; exact rfl; apply s_callv; exact rfl; exact gf_42; (intro w' hw'; exact h1 w')); (apply ol_val; exact rfl; apply stp_pur; first | (apply s_not_t; exact rfl; (first | exact rfl | assumption)) | (apply s_not_f; exact rfl; (first | exact rfl | assumption)) | (apply s_not; exact rfl)); (apply ol_mv; exact rfl; exact rfl); (first | (apply ol_gskip; exact rfl; exact rfl; (first | exact rfl | assumption); exact rfl) | (apply ol_gval; exact rfl; exact rfl; exact rfl; (first | exact rfl | assumption); apply stp_pur; apply s_move; exact rfl)); (first | (apply ol_gskip; exact rfl; exact rfl; (first | exact rfl | assumption); exact rfl) | (apply ol_gval; exact rfl; exact rfl; exact rfl; (first | exact rfl | assumption); apply stp_cmp; apply s_lss; exact rfl; exact rfl; all_goals (intro hc15; try (exfalso; (first | exact hc15 rfl | omega))))); all_goals (apply ol_val; exact rfl; apply stp_pur; first | (apply s_pick_t; exact rfl; (first | exact rfl | assumption); exact rfl) | (apply s_pick_f; exact rfl; (first | exact rfl | assumption); exact rfl)); all_goals (apply ol_mv; exact rfl; exact rfl); all_goals (first | (apply ol_gskip; exact rfl; exact rfl; (first | exact rfl | assumption); exact rfl) | (apply ol_gval; exact rfl; exact rfl; exact rfl; (first | exact rfl | assumption); apply stp_pur; apply s_move; exact rfl)); all_goals (first | (apply ol_gskip; exact rfl; exact rfl; (first | exact rfl | assumption); exact rfl) | (apply ol_gval; exact rfl; exact rfl; exact rfl; (first | exact rfl | assumption); apply stp_pur; apply s_move; exact rfl)); all_goals (first | (apply ol_gskip; exact rfl; exact rfl; (first | exact rfl | assumption); exact rfl) | (apply ol_gval; exact rfl; exact rfl; exact rfl; (first | exact rfl | assumption); apply stp_cmp; apply s_gtr; exact rfl; exact rfl; all_goals (intro hc20; try (exfalso; (first | exact hc20 rfl | omega))))); all_goals (apply ol_val; exact rfl; apply stp_pur; first | (apply s_pick_t; exact rfl; (first | exact rfl | assumption); exact rfl) | (apply s_pick_f; exact rfl; (first | exact rfl | assumption); exact rfl)); all_goals (apply ol_mv; exact rfl; exact rfl); all_goals (first | (apply ol_gskip; exact rfl; exact rfl; (first | exact rfl | assumption); exact rfl) | (apply ol_gval; exact rfl; exact rfl; exact rfl; (first | exact rfl | assumption); apply stp_pur; apply s_move; exact rfl)); all_goals (first | (apply ol_gskip; exact rfl; exact rfl; (first | exact rfl | assumption); exact rfl) | (apply ol_gval; exact rfl; exact rfl; exact rfl; (first | exact rfl | assumption); apply stp_pur; apply s_move; exact rfl)); all_goals (first | (apply ol_gskip; exact rfl; exact rfl; (first | exact rfl | assumption); exact rfl) | (apply ol_gval; exact rfl; exact rfl; exact rfl; (first | exact rfl | assumption); apply stp_pur; apply s_shl64; exact rfl; exact rfl; (first | decide | omega | (simp [IntKind.bits]; omega) | (simp [IntKind.bits]; done)); omega)); all_goals (first | (apply ol_gskip; exact rfl; exact rfl; (first | exact rfl | assumption); exact rfl) | (apply ol_gval; exact rfl; exact rfl; exact rfl; (first | exact rfl | assumption); apply stp_cmp; apply s_gtr; exact rfl; exact rfl; all_goals (intro hc26; try (exfalso; (first | exact hc26 rfl | omega))))); all_goals (apply ol_val; exact rfl; apply stp_pur; first | (apply s_pick_t; exact rfl; (first | exact rfl | assumption); exact rfl) | (apply s_pick_f; exact rfl; (first | exact rfl | assumption); exact rfl)); all_goals (apply ol_nil))
    | (refine cw_region_id 2 ?_; (apply ol_as; exact rfl; exact rfl); (apply ol_as; exact rfl; exact rfl); (apply ol_nil))
    | (refine cw_region_id 3 ?_; (apply ol_as; exact rfl; exact rfl); (apply ol_nil))
    | (apply cw_cond_true; exact rfl; (first | exact rfl | assumption))
    | (apply cw_cond_false; exact rfl; (first | exact rfl | assumption))
    | apply cw_skip
    | apply cw_ret
    | apply cw_block
    | apply cw_exit
  refine cw_loopK (σ := NSt) [0, 2] (by (repeat (first | exact Keep.nil | (apply Keep.cons; exact rfl)))) (fun s => [(1, .int .i64 (s.at_ : Nat)), (8, .slice (base s.r none) s.out.length s.cp)]) (fun _ => M) (fun s => [⟨s.r, flat C2.enc (s.out.map toC2) ++ s.sp, 32⟩]) (NInv d b L0) (fun s => b - s.at_) ⟨a, 2 ^ d, [], none, 0, []⟩ (by (repeat (first | exact trivial | refine And.intro rfl ?_))) (View.le.refl _) (by (repeat (first | exact Pick.nil | (apply Pick.cons; (focus ((repeat (first | exact Spl.here | apply Spl.there)); done))) | exact Pick.refl))) ⟨hab, by dsimp only; omega, by simpa using hL0, Nat.zero_le _, SO.nil 2⟩ ?_
  rintro ⟨t, f, out, r, cp, sp⟩ ⟨i1, i2, i3, i4, i5⟩
  dsimp only at i1 i2 i3 i4 i5
  dsimp only
  by_cases ht : t < b
  · obtain ⟨f, rfl⟩ : ∃ f', f = f' + 1 := ⟨f - 1, by omega⟩
    rw [nod_succ ht] at i3
    repeat' first
      | apply cw_seq
      | (refine cw_region_id 4 ?_; (apply ol_mv; exact rfl; exact rfl); (apply ol_mv; exact rfl; exact rfl); (apply ol_val; exact rfl; apply stp_cmp; apply s_lss; exact rfl; exact rfl; all_goals (intro hc30; try (exfalso; (first | exact hc30 rfl | omega)))); all_goals (apply ol_nil))
      | (refine cw_region_id 5 ?_; (apply ol_as; exact rfl; exact rfl); (apply ol_nil))
      | (refine cw_region_id 10 ?_; (apply ol_mv; exact rfl; exact rfl); (apply ol_as; exact rfl; exact rfl); (apply ol_as; exact rfl; exact rfl); (apply ol_nil))
      | (apply cw_cond_true; exact rfl; (first | exact rfl | assumption))
      | (apply cw_cond_false; exact rfl; (first | exact rfl | assumption))
      | apply cw_skip
      | apply cw_ret
      | apply cw_block
      | apply cw_exit
    refine cw_loopK (σ := Nat) [0, 1, 2, 8] (by (repeat (first | exact Keep.nil | (apply Keep.cons; exact rfl)))) (fun j => [(9, .int .i64 (2 ^ j : Nat))]) (fun _ => M) (fun _ => [⟨r, flat C2.enc (out.map toC2) ++ sp, 32⟩]) (fun j => j ≤ d ∧ t % 2 ^ j = 0 ∧ t + 2 ^ j ≤ b) (fun j => d - j) 0 (by (repeat (first | exact trivial | refine And.intro rfl ?_))) (View.le.refl _) (by (repeat (first | exact Pick.nil | (apply Pick.cons; (focus ((repeat (first | exact Spl.here | apply Spl.there)); done))) | exact Pick.refl))) ⟨by omega, by rw [Nat.pow_zero]; omega, by rw [Nat.pow_zero]; omega⟩ ?_
    rintro j ⟨j1, j2, j3⟩
    try dsimp only
    have hpw : 2 ^ (j + 1) = 2 * 2 ^ j := by rw [Nat.pow_succ, Nat.mul_comm]
    have hj1 := Nat.one_le_two_pow (n := j)
    have hj2 : 2 ^ j ≤ 2 ^ d := Nat.pow_le_pow_right (by decide) j1
    have hmod : (t : Int) % (2 * ((2 ^ j : Nat) : Int)) = ((t % (2 * 2 ^ j) : Nat) : Int) := by rw [Int.natCast_emod, Int.natCast_mul]; rfl
    by_cases hgo : t % (2 * 2 ^ j) = 0 ∧ t + 2 * 2 ^ j ≤ b ∧ 2 * 2 ^ j ≤ 2 ^ d
    · have hjd : j + 1 ≤ d := by
        rcases Nat.lt_or_ge j d with h | h
        · exact h
        · have : j = d := by omega
          subst this
          omega
      repeat' first
        | apply cw_seq
        | (refine cw_region_id 6 ?_; (apply ol_mv; exact rfl; exact rfl); (apply ol_mv; exact rfl; exact rfl); (apply ol_val; exact rfl; apply stp_pur; apply s_mul64; exact rfl; exact rfl; omega); (apply ol_val; exact rfl; apply stp_pur; first | (apply s_rem64; exact rfl; exact rfl; omega) | (apply s_remT; exact rfl; exact rfl; omega)); (apply ol_val; exact rfl; apply stp_cmp; apply s_eql; exact rfl; exact rfl; all_goals (intro hc35; try (exfalso; (first | exact hc35 rfl | omega)))); all_goals (apply ol_mv; exact rfl; exact rfl); all_goals (first | (apply ol_gskip; exact rfl; exact rfl; (first | exact rfl | assumption); exact rfl) | (apply ol_gval; exact rfl; exact rfl; exact rfl; (first | exact rfl | assumption); apply stp_pur; apply s_move; exact rfl)); all_goals (first | (apply ol_gskip; exact rfl; exact rfl; (first | exact rfl | assumption); exact rfl) | (apply ol_gval; exact rfl; exact rfl; exact rfl; (first | exact rfl | assumption); apply stp_pur; apply s_move; exact rfl)); all_goals (first | (apply ol_gskip; exact rfl; exact rfl; (first | exact rfl | assumption); exact rfl) | (apply ol_gval; exact rfl; exact rfl; exact rfl; (first | exact rfl | assumption); apply stp_pur; apply s_mul64; exact rfl; exact rfl; omega)); all_goals (first | (apply ol_gskip; exact rfl; exact rfl; (first | exact rfl | assumption); exact rfl) | (apply ol_gval; exact rfl; exact rfl; exact rfl; (first | exact rfl | assumption); apply stp_pur; apply s_add64; exact rfl; exact rfl; omega)); all_goals (first | (apply ol_gskip; exact rfl; exact rfl; (first | exact rfl | assumption); exact rfl) | (apply ol_gval; exact rfl; exact rfl; exact rfl; (first | exact rfl | assumption); apply stp_pur; apply s_move; exact rfl)); all_goals (first | (apply ol_gskip; exact rfl; exact rfl; (first | exact rfl | assumption); exact rfl) | (apply ol_gval; exact rfl; exact rfl; exact rfl; (first | exact rfl | assumption); apply stp_cmp; apply s_leq; exact rfl; exact rfl; all_goals (intro hc42; try (exfalso; (first | exact hc42 rfl | omega))))); all_goals (apply ol_val; exact rfl; apply stp_pur; first | (apply s_pick_t; exact rfl; (first | exact rfl | assumption); exact rfl) | (apply s_pick_f; exact rfl; (first | exact rfl | assumption); exact rfl)); all_goals (apply ol_mv; exact rfl; exact rfl); all_goals (first | (apply ol_gskip; exact rfl; exact rfl; (first | exact rfl | assumption); exact rfl) | (apply ol_gval; exact rfl; exact rfl; exact rfl; (first | exact rfl | assumption); apply stp_pur; apply s_move; exact rfl)); all_goals (first | (apply ol_gskip; exact rfl; exact rfl; (first | exact rfl | assumption); exact rfl) | (apply ol_gval; exact rfl; exact rfl; exact rfl; (first | exact rfl | assumption); apply stp_pur; apply s_mul64; exact rfl; exact rfl; omega)); all_goals (first | (apply ol_gskip; exact rfl; exact rfl; (first | exact rfl | assumption); exact rfl) | (apply ol_gval; exact rfl; exact rfl; exact rfl; (first | exact rfl | assumption); apply stp_pur; apply s_move; exact rfl)); all_goals (first | (apply ol_gskip; exact rfl; exact rfl; (first | exact rfl | assumption); exact rfl) | (apply ol_gval; exact rfl; exact rfl; exact rfl; (first | exact rfl | assumption); apply stp_pur; apply s_shl64; exact rfl; exact rfl; (first | decide | omega | (simp [IntKind.bits]; omega) | (simp [IntKind.bits]; done)); omega)); all_goals (first | (apply ol_gskip; exact rfl; exact rfl; (first | exact rfl | assumption); exact rfl) | (apply ol_gval; exact rfl; exact rfl; exact rfl; (first | exact rfl | assumption); apply stp_cmp; apply s_leq; exact rfl; exact rfl; all_goals (intro hc49; try (exfalso; (first | exact hc49 rfl | omega))))); all_goals (apply ol_val; exact rfl; apply stp_pur; first | (apply s_pick_t; exact rfl; (first | exact rfl | assumption); exact rfl) | (apply s_pick_f; exact rfl; (first | exact rfl | assumption); exact rfl)); all_goals (apply ol_nil))
        | (refine cw_region_id 7 ?_; (apply ol_mv; exact rfl; exact rfl); (apply ol_val; exact rfl; apply stp_pur; apply s_mul64; exact rfl; exact rfl; omega); (apply ol_as; exact rfl; exact rfl); (apply ol_nil))
        | (refine cw_draw (id := 8) 11 (.mv 0 (.mv 1 (.mv 2 (.mv 3 (.mv 6 (.mv 7 (.mv 8 (.fx 4 (.mv 5 (.mv 9 (.fx 10 (PT.nil)))))))))))) mixed (by kernel_rfl) ?_; (apply od_mv; exact rfl; exact rfl; apply s_move; exact rfl); (apply od_mv; exact rfl; exact rfl; apply s_move; exact rfl); (apply od_mv; exact rfl; exact rfl; apply s_move; exact rfl); (apply od_mv; exact rfl; exact rfl; first | (apply s_conv; exact rfl; exact rfl; exact ti_72; (focus (apply wrap_u64; omega))) | (apply s_conv; exact rfl; exact rfl; exact ti_72; exact rfl)); (apply od_mv; exact rfl; exact rfl; apply s_move; exact rfl); (apply od_mv; exact rfl; exact rfl; apply s_move; exact rfl); (apply od_mv; exact rfl; exact rfl; first | (apply s_quo64; exact rfl; exact rfl; omega) | (apply s_quoT; exact rfl; exact rfl; omega)))
        | (refine cw_region_id 9 ?_; (apply ol_mv; exact rfl; exact rfl); (apply ol_mv; exact rfl; exact rfl); (apply ol_val; exact rfl; apply stp_pur; apply s_add64; exact rfl; exact rfl; omega); (apply ol_as; exact rfl; exact rfl); (apply ol_nil))
        | (apply cw_cond_true; exact rfl; (first | exact rfl | assumption))
        | (apply cw_cond_false; exact rfl; (first | exact rfl | assumption))
        | apply cw_skip
        | apply cw_ret
        | apply cw_block
        | apply cw_exit
      refine ⟨j + 1, ⟨?_, View.le.refl _, by (repeat (first | exact Pick.nil | (apply Pick.cons; (focus ((repeat (first | exact Spl.here | apply Spl.there)); done))) | exact Pick.refl)), ⟨hjd, by rw [hpw]; exact hgo.1, by rw [hpw]; exact hgo.2.1⟩, by omega⟩⟩
      rw [hpw, Nat.mul_comm 2, Int.natCast_mul]
      (repeat (first | exact trivial | refine And.intro rfl ?_))
    · have hlv : lvl d t b = d - j := by
        refine lvl_eq (by omega) ⟨by rw [sz_sub j1]; exact j2, by rw [sz_sub j1]; exact j3⟩ fun k hk hfit => hgo ?_
        have := fits_mono (l := d - (j + 1)) (by omega) (by omega) hfit
        unfold fits at this
        rw [sz_sub (by omega), hpw] at this
        refine ⟨this.1, this.2, ?_⟩
        rw [← hpw]
        exact Nat.pow_le_pow_right (by decide) (by omega)
      have hdiv : (t : Int) / ((2 ^ j : Nat) : Int) = ((t / 2 ^ j : Nat) : Int) := (Int.natCast_ediv t (2 ^ j)).symm
      rw [hlv, sz_sub j1] at i3
      have htz := fun (w' : World) (hw' : View.le M (View.of w')) => tz_spec hw' hL (k := j) (by omega)
      have e1 : ((d - j : Nat) : Int) = (d : Int) - (j : Int) := by omega
      clear hlv hpw j2
      generalize 2 ^ j = S at *
      repeat' first
        | apply cw_seq
        | (refine cw_region_id 6 ?_; (apply ol_mv; exact rfl; exact rfl); (apply ol_mv; exact rfl; exact rfl); (apply ol_val; exact rfl; apply stp_pur; apply s_mul64; exact rfl; exact rfl; omega); (apply ol_val; exact rfl; apply stp_pur; first | (apply s_rem64; exact rfl; exact rfl; omega) | (apply s_remT; exact rfl; exact rfl; omega)); (apply ol_val; exact rfl; apply stp_cmp; apply s_eql; exact rfl; exact rfl; all_goals (intro hc35; try (exfalso; (first | exact hc35 rfl | omega)))); all_goals (apply ol_mv; exact rfl; exact rfl); all_goals (first | (apply ol_gskip; exact rfl; exact rfl; (first | exact rfl | assumption); exact rfl) | (apply ol_gval; exact rfl; exact rfl; exact rfl; (first | exact rfl | assumption); apply stp_pur; apply s_move; exact rfl)); all_goals (first | (apply ol_gskip; exact rfl; exact rfl; (first | exact rfl | assumption); exact rfl) | (apply ol_gval; exact rfl; exact rfl; exact rfl; (first | exact rfl | assumption); apply stp_pur; apply s_move; exact rfl)); all_goals (first | (apply ol_gskip; exact rfl; exact rfl; (first | exact rfl | assumption); exact rfl) | (apply ol_gval; exact rfl; exact rfl; exact rfl; (first | exact rfl | assumption); apply stp_pur; apply s_mul64; exact rfl; exact rfl; omega)); all_goals (first | (apply ol_gskip; exact rfl; exact rfl; (first | exact rfl | assumption); exact rfl) | (apply ol_gval; exact rfl; exact rfl; exact rfl; (first | exact rfl | assumption); apply stp_pur; apply s_add64; exact rfl; exact rfl; omega)); all_goals (first | (apply ol_gskip; exact rfl; exact rfl; (first | exact rfl | assumption); exact rfl) | (apply ol_gval; exact rfl; exact rfl; exact rfl; (first | exact rfl | assumption); apply stp_pur; apply s_move; exact rfl)); all_goals (first | (apply ol_gskip; exact rfl; exact rfl; (first | exact rfl | assumption); exact rfl) | (apply ol_gval; exact rfl; exact rfl; exact rfl; (first | exact rfl | assumption); apply stp_cmp; apply s_leq; exact rfl; exact rfl; all_goals (intro hc42; try (exfalso; (first | exact hc42 rfl | omega))))); all_goals (apply ol_val; exact rfl; apply stp_pur; first | (apply s_pick_t; exact rfl; (first | exact rfl | assumption); exact rfl) | (apply s_pick_f; exact rfl; (first | exact rfl | assumption); exact rfl)); all_goals (apply ol_mv; exact rfl; exact rfl); all_goals (first | (apply ol_gskip; exact rfl; exact rfl; (first | exact rfl | assumption); exact rfl) | (apply ol_gval; exact rfl; exact rfl; exact rfl; (first | exact rfl | assumption); apply stp_pur; apply s_move; exact rfl)); all_goals (first | (apply ol_gskip; exact rfl; exact rfl; (first | exact rfl | assumption); exact rfl) | (apply ol_gval; exact rfl; exact rfl; exact rfl; (first | exact rfl | assumption); apply stp_pur; apply s_mul64; exact rfl; exact rfl; omega)); all_goals (first | (apply ol_gskip; exact rfl; exact rfl; (first | exact rfl | assumption); exact rfl) | (apply ol_gval; exact rfl; exact rfl; exact rfl; (first | exact rfl | assumption); apply stp_pur; apply s_move; exact rfl)); all_goals (first | (apply ol_gskip; exact rfl; exact rfl; (first | exact rfl | assumption); exact rfl) | (apply ol_gval; exact rfl; exact rfl; exact rfl; (first | exact rfl | assumption); apply stp_pur; apply s_shl64; exact rfl; exact rfl; (first | decide | omega | (simp [IntKind.bits]; omega) | (simp [IntKind.bits]; done)); omega)); all_goals (first | (apply ol_gskip; exact rfl; exact rfl; (first | exact rfl | assumption); exact rfl) | (apply ol_gval; exact rfl; exact rfl; exact rfl; (first | exact rfl | assumption); apply stp_cmp; apply s_leq; exact rfl; exact rfl; all_goals (intro hc49; try (exfalso; (first | exact hc49 rfl | omega))))); all_goals (apply ol_val; exact rfl; apply stp_pur; first | (apply s_pick_t; exact rfl; (first | exact rfl | assumption); exact rfl) | (apply s_pick_f; exact rfl; (first | exact rfl | assumption); exact rfl)); all_goals (apply ol_nil))
        | (refine cw_region_id 7 ?_; (apply ol_mv; exact rfl; exact rfl); (apply ol_val; exact rfl; apply stp_pur; apply s_mul64; exact rfl; exact rfl; omega); (apply ol_as; exact rfl; exact rfl); (apply ol_nil))
        | (refine cw_draw (id := 8) 11 (.mv 0 (.mv 1 (.mv 2 (.mv 3 (.mv 6 (.mv 7 (.mv 8 (.fx 4 (.mv 5 (.mv 9 (.fx 10 (PT.nil)))))))))))) mixed (by kernel_rfl) ?_; (apply od_mv; exact rfl; exact rfl; apply s_move; exact rfl); (apply od_mv; exact rfl; exact rfl; apply s_move; exact rfl); (apply od_mv; exact rfl; exact rfl; apply s_move; exact rfl); (apply od_mv; exact rfl; exact rfl; first | (apply s_conv; exact rfl; exact rfl; exact ti_72; (focus (apply wrap_u64; omega))) | (apply s_conv; exact rfl; exact rfl; exact ti_72; exact rfl)); (apply od_mv; exact rfl; exact rfl; apply s_move; exact rfl); (apply od_mv; exact rfl; exact rfl; apply s_move; exact rfl); (apply od_mv; exact rfl; exact rfl; first | (apply s_quo64; exact rfl; exact rfl; omega) | (apply s_quoT; exact rfl; exact rfl; omega)); (apply od_fx; (first | exact Wk.refl _ _ | (focus (apply Wk.mk; exact View.le.refl _; (repeat constructor); done))); (apply fx_val; exact rfl; exact rfl; apply s_callv; exact rfl; exact gf_43; (intro w' hw'; exact htz w' hw'.le))); (apply od_mv; exact rfl; exact rfl; apply s_sub64; exact rfl; exact rfl; omega); (apply od_mv; exact rfl; exact rfl; apply s_buildS; exact rfl; exact fs_32; exact zb_32; (focus ((repeat (first | exact rfl | constructor)); done))); (apply od_fx; (first | exact Wk.refl _ _ | (focus (apply Wk.mk; exact View.le.refl _; (repeat constructor); done))); (apply fx_val; exact rfl; exact rfl; apply s_buildSl; exact rfl; exact el_24; exact sz_32; exact zb_32; (focus ((repeat constructor); done)); exact rfl; exact rfl; (exact Nat.le_of_ble_eq_true rfl); (focus ((repeat constructor); done)); (focus ((repeat (first | exact Fil.nil | (apply Fil.one; exact rfl; exact rfl; (repeat (first | exact SetAt.zero | apply SetAt.succ))) | (apply Fil.agg; exact rfl; exact rfl; (repeat (first | exact SetN.nil | (apply SetN.cons; (repeat (first | exact SetAt.zero | apply SetAt.succ))))); (exact Nat.le_of_ble_eq_true rfl)))); done)); intro bk63)); (apply od_nil; (first | exact Wk.refl _ _ | (focus (apply Wk.mk; exact View.le.refl _; (repeat constructor); done)))); (apply ol_val; exact rfl; first | (apply s_append_e; exact rfl; exact rfl; (focus ((repeat constructor); done)); exact el_24; exact sz_32; exact zb_32; exact rfl; exact by_32; (first | exact (fun _ => rfl)); (first | (apply RdN.own; (focus ((repeat constructor); done)); (focus ((repeat (first | exact rfl | constructor)); done)))); (first | exact rfl | exact rfl); (first | omega | (simp; omega) | (simp; done)); (first | omega | (simp; omega) | (simp; done)); intro rk64 sk64 ck64 ok64) | (apply s_append_r; exact rfl; exact rfl; (focus ((repeat constructor); done)); (first | exact rfl | exact (List.append_nil _).symm); exact el_24; exact sz_32; exact zb_32; exact rfl; exact by_32; (first | exact SO.nil _ | assumption | (exact ⟨by simp, by simp, Nat.le_refl _, by simp⟩)); (first | exact (fun _ => rfl)); (first | (apply RdN.own; (focus ((repeat constructor); done)); (focus ((repeat (first | exact rfl | constructor)); done)))); (first | exact rfl | exact rfl); (first | omega | (simp; omega) | (simp; done)); (first | omega | (simp; omega) | (simp; done)); intro rk64 sk64 ck64 ok64) | (apply s_append_b; exact rfl; exact rfl; (focus ((repeat constructor); done)); (first | exact rfl | exact (List.append_nil _).symm); exact el_24; exact sz_32; exact zb_32; exact rfl; exact by_32; (first | exact SO.nil _ | assumption | (exact ⟨by simp, by simp, Nat.le_refl _, by simp⟩)); (first | exact (fun _ => rfl)); (first | (apply RdN.own; (focus ((repeat constructor); done)); (focus ((repeat (first | exact rfl | constructor)); done)))); (first | exact rfl | exact rfl); (first | omega | (simp; omega) | (simp; done)); (first | omega | (simp; omega) | (simp; done)); intro rk64 sk64 ck64 ok64) | (apply s_append_n; exact rfl; exact rfl; (focus ((repeat constructor); done)); exact el_24; exact sz_32; exact zb_32; exact rfl; exact by_32; (first | exact (fun _ => rfl)); (first | (apply RdN.own; (focus ((repeat constructor); done)); (focus ((repeat (first | exact rfl | constructor)); done)))); (first | exact rfl | exact rfl); (first | omega | (simp; omega) | (simp; done)); (first | omega | (simp; omega) | (simp; done)); intro rk64 sk64 ck64 ok64)); (apply ol_as; exact rfl; exact rfl); (apply ol_nil))
        | (refine cw_drawW (id := 8) (own0 := []) 11 (.mv 0 (.mv 1 (.mv 2 (.mv 3 (.mv 6 (.mv 7 (.mv 8 (.fx 4 (.mv 5 (.mv 9 (.fx 10 (PT.nil)))))))))))) mixed (by kernel_rfl) (by (first | exact Wk.refl _ _ | (focus (apply Wk.mk; exact View.le.refl _; (repeat constructor); done)))) ?_; (apply od_mv; exact rfl; exact rfl; apply s_move; exact rfl); (apply od_mv; exact rfl; exact rfl; apply s_move; exact rfl); (apply od_mv; exact rfl; exact rfl; apply s_move; exact rfl); (apply od_mv; exact rfl; exact rfl; first | (apply s_conv; exact rfl; exact rfl; exact ti_72; (focus (apply wrap_u64; omega))) | (apply s_conv; exact rfl; exact rfl; exact ti_72; exact rfl)); (apply od_mv; exact rfl; exact rfl; apply s_move; exact rfl); (apply od_mv; exact rfl; exact rfl; apply s_move; exact rfl); (apply od_mv; exact rfl; exact rfl; first | (apply s_quo64; exact rfl; exact rfl; omega) | (apply s_quoT; exact rfl; exact rfl; omega)); (apply od_fx; (first | exact Wk.refl _ _ | (focus (apply Wk.mk; exact View.le.refl _; (repeat constructor); done))); (apply fx_val; exact rfl; exact rfl; apply s_callv; exact rfl; exact gf_43; (intro w' hw'; exact htz w' hw'.le))); (apply od_mv; exact rfl; exact rfl; apply s_sub64; exact rfl; exact rfl; omega); (apply od_mv; exact rfl; exact rfl; apply s_buildS; exact rfl; exact fs_32; exact zb_32; (focus ((repeat (first | exact rfl | constructor)); done))); (apply od_fx; (first | exact Wk.refl _ _ | (focus (apply Wk.mk; exact View.le.refl _; (repeat constructor); done))); (apply fx_val; exact rfl; exact rfl; apply s_buildSl; exact rfl; exact el_24; exact sz_32; exact zb_32; (focus ((repeat constructor); done)); exact rfl; exact rfl; (exact Nat.le_of_ble_eq_true rfl); (focus ((repeat constructor); done)); (focus ((repeat (first | exact Fil.nil | (apply Fil.one; exact rfl; exact rfl; (repeat (first | exact SetAt.zero | apply SetAt.succ))) | (apply Fil.agg; exact rfl; exact rfl; (repeat (first | exact SetN.nil | (apply SetN.cons; (repeat (first | exact SetAt.zero | apply SetAt.succ))))); (exact Nat.le_of_ble_eq_true rfl)))); done)); intro bk63)); (apply od_nil; (first | exact Wk.refl _ _ | (focus (apply Wk.mk; exact View.le.refl _; (repeat constructor); done)))); (apply ol_val; exact rfl; first | (apply s_append_e; exact rfl; exact rfl; (focus ((repeat constructor); done)); exact el_24; exact sz_32; exact zb_32; exact rfl; exact by_32; (first | exact (fun _ => rfl)); (first | (apply RdN.own; (focus ((repeat constructor); done)); (focus ((repeat (first | exact rfl | constructor)); done)))); (first | exact rfl | exact rfl); (first | omega | (simp; omega) | (simp; done)); (first | omega | (simp; omega) | (simp; done)); intro rk64 sk64 ck64 ok64) | (apply s_append_r; exact rfl; exact rfl; (focus ((repeat constructor); done)); (first | exact rfl | exact (List.append_nil _).symm); exact el_24; exact sz_32; exact zb_32; exact rfl; exact by_32; (first | exact SO.nil _ | assumption | (exact ⟨by simp, by simp, Nat.le_refl _, by simp⟩)); (first | exact (fun _ => rfl)); (first | (apply RdN.own; (focus ((repeat constructor); done)); (focus ((repeat (first | exact rfl | constructor)); done)))); (first | exact rfl | exact rfl); (first | omega | (simp; omega) | (simp; done)); (first | omega | (simp; omega) | (simp; done)); intro rk64 sk64 ck64 ok64) | (apply s_append_b; exact rfl; exact rfl; (focus ((repeat constructor); done)); (first | exact rfl | exact (List.append_nil _).symm); exact el_24; exact sz_32; exact zb_32; exact rfl; exact by_32; (first | exact SO.nil _ | assumption | (exact ⟨by simp, by simp, Nat.le_refl _, by simp⟩)); (first | exact (fun _ => rfl)); (first | (apply RdN.own; (focus ((repeat constructor); done)); (focus ((repeat (first | exact rfl | constructor)); done)))); (first | exact rfl | exact rfl); (first | omega | (simp; omega) | (simp; done)); (first | omega | (simp; omega) | (simp; done)); intro rk64 sk64 ck64 ok64) | (apply s_append_n; exact rfl; exact rfl; (focus ((repeat constructor); done)); exact el_24; exact sz_32; exact zb_32; exact rfl; exact by_32; (first | exact (fun _ => rfl)); (first | (apply RdN.own; (focus ((repeat constructor); done)); (focus ((repeat (first | exact rfl | constructor)); done)))); (first | exact rfl | exact rfl); (first | omega | (simp; omega) | (simp; done)); (first | omega | (simp; omega) | (simp; done)); intro rk64 sk64 ck64 ok64)); (apply ol_as; exact rfl; exact rfl); (apply ol_nil))
        | (refine cw_region_id 9 ?_; (apply ol_mv; exact rfl; exact rfl); (apply ol_mv; exact rfl; exact rfl); (apply ol_val; exact rfl; apply stp_pur; apply s_add64; exact rfl; exact rfl; omega); (apply ol_as; exact rfl; exact rfl); (apply ol_nil))
        | (apply cw_cond_true; exact rfl; (first | exact rfl | assumption))
        | (apply cw_cond_false; exact rfl; (first | exact rfl | assumption))
        | apply cw_skip
        | apply cw_ret
        | apply cw_block
        | apply cw_exit
      iterate 2
        · refine ⟨⟨t + S, f, out ++ [(d - j, t / S)], rk64, ck64, sk64⟩, ⟨?_, View.le.refl _, ?_, ⟨by dsimp only; omega, by dsimp only; omega, ?_, ?_, ?_⟩, by dsimp only; omega⟩⟩
          · dsimp only
            rw [List.length_append, List.length_singleton]
            (repeat (first | exact trivial | refine And.intro rfl ?_))
          · dsimp only
            rw [flat_snoc, e1, ← hdiv]
            (repeat (first | exact Pick.nil | (apply Pick.cons; (focus ((repeat (first | exact Spl.here | apply Spl.there)); done))) | exact Pick.refl))
          · dsimp only
            rw [List.append_assoc]
            exact i3
          · dsimp only
            rw [List.length_append, List.length_singleton]
            omega
          · dsimp only
            rw [flat_snoc, List.length_append, List.length_singleton, e1, ← hdiv]
            exact ok64
  · have e : nod d f t b = [] := nod_end ht
    rw [e, List.append_nil] at i3
    subst i3
    repeat' first
      | apply cw_seq
      | (refine cw_region_id 4 ?_; (apply ol_mv; exact rfl; exact rfl); (apply ol_mv; exact rfl; exact rfl); (apply ol_val; exact rfl; apply stp_cmp; apply s_lss; exact rfl; exact rfl; all_goals (intro hc30; try (exfalso; (first | exact hc30 rfl | omega)))); all_goals (apply ol_nil))
      | (refine cw_region_id 5 ?_; (apply ol_as; exact rfl; exact rfl); (apply ol_nil))
      | (refine cw_region_id 10 ?_; (apply ol_mv; exact rfl; exact rfl); (apply ol_as; exact rfl; exact rfl); (apply ol_as; exact rfl; exact rfl); (apply ol_nil))
      | (apply cw_cond_true; exact rfl; (first | exact rfl | assumption))
      | (apply cw_cond_false; exact rfl; (first | exact rfl | assumption))
      | apply cw_skip
      | apply cw_ret
      | apply cw_block
      | apply cw_exit
    refine ends [⟨r, flat C2.enc (out.map toC2) ++ sp, 32⟩] (RVal.tmp rfl (RVal.tmp rfl RVal.nil)) (by (repeat (first | exact Pick.nil | (apply Pick.cons; (focus ((repeat (first | exact Spl.here | apply Spl.there)); done))) | exact Pick.refl))) ?_
    exact ⟨r, cp, sp, rfl, rfl, fun h => List.eq_nil_of_length_eq_zero (i5.empty h)⟩

theorem inside_spec (w : World) {d l i : Nat} (hl : l ≤ d) (hd : d ≤ 5) (hi : i < 2 ^ l) {a b : Nat} (ha : a ≤ i * sz d l) : FnC Tryd.prog 44 [.int .i64 d, .agg [.int .i64 l, .int .i64 i].toArray, .int .i64 a, .int .i64 b] w (fun v _ => v = .bool (decide (i * sz d l + sz d l ≤ b))) := by
  refine enterF (M := View.of w) Tryd.func44 rfl rfl rfl rfl (View.le.refl _) ?_
  have h1 := fun w' => first_spec w' hl hd hi
  have h2 := fun w' => size_spec w' (i : Int) hl hd
  have hb := node_bnd hl hd hi
  generalize i * sz d l = F at *
  generalize sz d l = S at *
  by_cases h : F + S ≤ b
  · rw [decide_eq_true h]
    repeat' first
      | apply cw_seq
      | (refine cw_region_id 0 ?_; (apply ol_val; exact rfl; first | (apply s_boxN; exact rfl; intro bk5) | (apply s_box1; exact rfl; exact rfl; intro bk5)); (apply ol_as; exact rfl; exact rfl); (apply ol_nil))
      | (refine cw_draw (id := 1) 17 (.mv 0 (.mv 1 (.mv 3 (.fx 2 (.mv 4 (.mv 5 (.mv 6 (.mv 7 (.mv 9 (.mv 10 (.mv 13 (.fx 8 (.fx 11 (.mv 12 (.mv 14 (.mv 15 (.mv 16 (PT.nil)))))))))))))))))) mixed (by kernel_rfl) ?_; (apply od_mv; exact rfl; exact rfl; apply s_move; exact rfl); (apply od_mv; exact rfl; exact rfl; apply s_loadN; exact rfl; exact rfl; exact sz_32; (apply RdN.own; (focus ((repeat constructor); done)); (focus ((repeat (first | exact rfl | constructor)); done)))); (apply od_mv; exact rfl; exact rfl; apply s_move; exact rfl); (apply od_fx; (first | exact Wk.refl _ _ | (focus (apply Wk.mk; exact View.le.refl _; (repeat constructor); done))); (apply fx_val; exact rfl; exact rfl; apply s_callv; exact rfl; exact gf_31; (intro w' hw'; exact h1 w'))); (apply od_cmp; exact rfl; exact rfl; apply s_geq; exact rfl; exact rfl; all_goals (intro hc13; try (exfalso; (first | exact hc13 rfl | omega)))); all_goals (apply od_mv; exact rfl; exact rfl; apply s_move; exact rfl); all_goals (first | (apply od_gskip; exact rfl; exact rfl; exact rfl; (first | exact rfl | assumption); exact rfl) | (apply od_gmv; exact rfl; exact rfl; exact rfl; (first | exact rfl | assumption); exact rfl; apply s_move; exact rfl)); all_goals (first | (apply od_gskip; exact rfl; exact rfl; exact rfl; (first | exact rfl | assumption); exact rfl) | (apply od_gmv; exact rfl; exact rfl; exact rfl; (first | exact rfl | assumption); exact rfl; apply s_loadN; exact rfl; exact rfl; exact sz_32; (apply RdN.own; (focus ((repeat constructor); done)); (focus ((repeat (first | exact rfl | constructor)); done))))); all_goals (first | (apply od_gskip; exact rfl; exact rfl; exact rfl; (first | exact rfl | assumption); exact rfl) | (apply od_gmv; exact rfl; exact rfl; exact rfl; (first | exact rfl | assumption); exact rfl; apply s_move; exact rfl)); all_goals (first | (apply od_gskip; exact rfl; exact rfl; exact rfl; (first | exact rfl | assumption); exact rfl) | (apply od_gmv; exact rfl; exact rfl; exact rfl; (first | exact rfl | assumption); exact rfl; apply s_loadN; exact rfl; exact rfl; exact sz_32; (apply RdN.own; (focus ((repeat constructor); done)); (focus ((repeat (first | exact rfl | constructor)); done))))); all_goals (first | (apply od_gskip; exact rfl; exact rfl; exact rfl; (first | exact rfl | assumption); exact rfl) | (apply od_gmv; exact rfl; exact rfl; exact rfl; (first | exact rfl | assumption); exact rfl; apply s_move; exact rfl)); all_goals (apply od_fx; (first | exact Wk.refl _ _ | (focus (apply Wk.mk; exact View.le.refl _; (repeat constructor); done))); (first | (apply fx_gskip; exact rfl; exact rfl; exact rfl; (first | exact rfl | assumption); exact rfl) | (apply fx_gval; exact rfl; exact rfl; exact rfl; (first | exact rfl | assumption); exact rfl; apply s_callv; exact rfl; exact gf_31; (intro w' hw'; exact h1 w')))); all_goals (apply od_fx; (first | exact Wk.refl _ _ | (focus (apply Wk.mk; exact View.le.refl _; (repeat constructor); done))); (first | (apply fx_gskip; exact rfl; exact rfl; exact rfl; (first | exact rfl | assumption); exact rfl) | (apply fx_gval; exact rfl; exact rfl; exact rfl; (first | exact rfl | assumption); exact rfl; apply s_callv; exact rfl; exact gf_25; (intro w' hw'; exact h2 w')))); all_goals (first | (apply od_gskip; exact rfl; exact rfl; exact rfl; (first | exact rfl | assumption); exact rfl) | (apply od_gmv; exact rfl; exact rfl; exact rfl; (first | exact rfl | assumption); exact rfl; apply s_add64; exact rfl; exact rfl; omega)); all_goals (first | (apply od_gskip; exact rfl; exact rfl; exact rfl; (first | exact rfl | assumption); exact rfl) | (apply od_gcmp; exact rfl; exact rfl; exact rfl; (first | exact rfl | assumption); exact rfl; apply s_leq; exact rfl; exact rfl; all_goals (intro hc23; try (exfalso; (first | exact hc23 rfl | omega))))); all_goals (apply od_mv; exact rfl; exact rfl; first | (apply s_pick_t; exact rfl; (first | exact rfl | assumption); exact rfl) | (apply s_pick_f; exact rfl; (first | exact rfl | assumption); exact rfl)); all_goals (apply od_mv; exact rfl; exact rfl; apply s_assign; exact rfl); all_goals (apply od_nil; (first | exact Wk.refl _ _ | (focus (apply Wk.mk; exact View.le.refl _; (repeat constructor); done)))); all_goals (apply ol_nil))
      | (apply cw_cond_true; exact rfl; (first | exact rfl | assumption))
      | (apply cw_cond_false; exact rfl; (first | exact rfl | assumption))
      | apply cw_skip
      | apply cw_ret
      | apply cw_block
      | apply cw_exit
    all_goals (refine ends [] (RVal.tmp rfl RVal.nil) Pick.nil ?_; rfl)
  · rw [decide_eq_false h]
    repeat' first
      | apply cw_seq
      | (refine cw_region_id 0 ?_; (apply ol_val; exact rfl; first | (apply s_boxN; exact rfl; intro bk5) | (apply s_box1; exact rfl; exact rfl; intro bk5)); (apply ol_as; exact rfl; exact rfl); (apply ol_nil))
      | (refine cw_draw (id := 1) 17 (.mv 0 (.mv 1 (.mv 3 (.fx 2 (.mv 4 (.mv 5 (.mv 6 (.mv 7 (.mv 9 (.mv 10 (.mv 13 (.fx 8 (.fx 11 (.mv 12 (.mv 14 (.mv 15 (.mv 16 (PT.nil)))))))))))))))))) mixed (by kernel_rfl) ?_; (apply od_mv; exact rfl; exact rfl; apply s_move; exact rfl); (apply od_mv; exact rfl; exact rfl; apply s_loadN; exact rfl; exact rfl; exact sz_32; (apply RdN.own; (focus ((repeat constructor); done)); (focus ((repeat (first | exact rfl | constructor)); done)))); (apply od_mv; exact rfl; exact rfl; apply s_move; exact rfl); (apply od_fx; (first | exact Wk.refl _ _ | (focus (apply Wk.mk; exact View.le.refl _; (repeat constructor); done))); (apply fx_val; exact rfl; exact rfl; apply s_callv; exact rfl; exact gf_31; (intro w' hw'; exact h1 w'))); (apply od_cmp; exact rfl; exact rfl; apply s_geq; exact rfl; exact rfl; all_goals (intro hc13; try (exfalso; (first | exact hc13 rfl | omega)))); all_goals (apply od_mv; exact rfl; exact rfl; apply s_move; exact rfl); all_goals (first | (apply od_gskip; exact rfl; exact rfl; exact rfl; (first | exact rfl | assumption); exact rfl) | (apply od_gmv; exact rfl; exact rfl; exact rfl; (first | exact rfl | assumption); exact rfl; apply s_move; exact rfl)); all_goals (first | (apply od_gskip; exact rfl; exact rfl; exact rfl; (first | exact rfl | assumption); exact rfl) | (apply od_gmv; exact rfl; exact rfl; exact rfl; (first | exact rfl | assumption); exact rfl; apply s_loadN; exact rfl; exact rfl; exact sz_32; (apply RdN.own; (focus ((repeat constructor); done)); (focus ((repeat (first | exact rfl | constructor)); done))))); all_goals (first | (apply od_gskip; exact rfl; exact rfl; exact rfl; (first | exact rfl | assumption); exact rfl) | (apply od_gmv; exact rfl; exact rfl; exact rfl; (first | exact rfl | assumption); exact rfl; apply s_move; exact rfl)); all_goals (first | (apply od_gskip; exact rfl; exact rfl; exact rfl; (first | exact rfl | assumption); exact rfl) | (apply od_gmv; exact rfl; exact rfl; exact rfl; (first | exact rfl | assumption); exact rfl; apply s_loadN; exact rfl; exact rfl; exact sz_32; (apply RdN.own; (focus ((repeat constructor); done)); (focus ((repeat (first | exact rfl | constructor)); done))))); all_goals (first | (apply od_gskip; exact rfl; exact rfl; exact rfl; (first | exact rfl | assumption); exact rfl) | (apply od_gmv; exact rfl; exact rfl; exact rfl; (first | exact rfl | assumption); exact rfl; apply s_move; exact rfl)); all_goals (apply od_fx; (first | exact Wk.refl _ _ | (focus (apply Wk.mk; exact View.le.refl _; (repeat constructor); done))); (first | (apply fx_gskip; exact rfl; exact rfl; exact rfl; (first | exact rfl | assumption); exact rfl) | (apply fx_gval; exact rfl; exact rfl; exact rfl; (first | exact rfl | assumption); exact rfl; apply s_callv; exact rfl; exact gf_31; (intro w' hw'; exact h1 w')))); all_goals (apply od_fx; (first | exact Wk.refl _ _ | (focus (apply Wk.mk; exact View.le.refl _; (repeat constructor); done))); (first | (apply fx_gskip; exact rfl; exact rfl; exact rfl; (first | exact rfl | assumption); exact rfl) | (apply fx_gval; exact rfl; exact rfl; exact rfl; (first | exact rfl | assumption); exact rfl; apply s_callv; exact rfl; exact gf_25; (intro w' hw'; exact h2 w')))); all_goals (first | (apply od_gskip; exact rfl; exact rfl; exact rfl; (first | exact rfl | assumption); exact rfl) | (apply od_gmv; exact rfl; exact rfl; exact rfl; (first | exact rfl | assumption); exact rfl; apply s_add64; exact rfl; exact rfl; omega)); all_goals (first | (apply od_gskip; exact rfl; exact rfl; exact rfl; (first | exact rfl | assumption); exact rfl) | (apply od_gcmp; exact rfl; exact rfl; exact rfl; (first | exact rfl | assumption); exact rfl; apply s_leq; exact rfl; exact rfl; all_goals (intro hc23; try (exfalso; (first | exact hc23 rfl | omega))))); all_goals (apply od_mv; exact rfl; exact rfl; first | (apply s_pick_t; exact rfl; (first | exact rfl | assumption); exact rfl) | (apply s_pick_f; exact rfl; (first | exact rfl | assumption); exact rfl)); all_goals (apply od_mv; exact rfl; exact rfl; apply s_assign; exact rfl); all_goals (apply od_nil; (first | exact Wk.refl _ _ | (focus (apply Wk.mk; exact View.le.refl _; (repeat constructor); done)))); all_goals (apply ol_nil))
      | (apply cw_cond_true; exact rfl; (first | exact rfl | assumption))
      | (apply cw_cond_false; exact rfl; (first | exact rfl | assumption))
      | apply cw_skip
      | apply cw_ret
      | apply cw_block
      | apply cw_exit
    all_goals (refine ends [] (RVal.tmp rfl RVal.nil) Pick.nil ?_; rfl)

theorem rNodes_spec (w : World) {d a b : Nat} (hd : d ≤ 5) (hab : a ≤ b) (hb : b ≤ 2 ^ d) :
    FnC Tryd.prog 19 [.int .i64 d, .int .i64 a, .int .i64 b] w (NodRow (nod d (2 ^ d) a b)) := by
  refine enterF (M := View.of w) Tryd.func19 rfl rfl rfl rfl (View.le.refl _) ?_
  have h32 := pow32 hd
  have h01 := Nat.one_le_two_pow (n := d)
  generalize hL0 : nod d (2 ^ d) a b = L0 at *
  refine cw_none 32 ?_
  repeat' first
    | apply cw_seq
    | (refine cw_region_id 0 ?_; (apply ol_as; exact rfl; exact rfl); (apply ol_nil))
    | (refine cw_region_id 1 ?_; (apply ol_as; exact rfl; exact rfl); (apply ol_nil))
    | (refine cw_region_id 2 ?_; (apply ol_mv; exact rfl; exact rfl); (apply ol_as; exact rfl; exact rfl); (apply ol_nil))
    | (apply cw_cond_true; exact rfl; (first | exact rfl | assumption))
    | (apply cw_cond_false; exact rfl; (first | exact rfl | assumption))
    | apply cw_skip
    | apply cw_ret
    | apply cw_block
    | apply cw_exit
  refine cw_loopK (σ := NSt) [0, 1, 2] (by (repeat (first | exact Keep.nil | (apply Keep.cons; exact rfl)))) (fun s => [(8, .int .i64 (s.at_ : Nat)), (7, .slice (base s.r none) s.out.length s.cp)]) (fun _ => View.of w) (fun s => [⟨s.r, flat C2.enc (s.out.map toC2) ++ s.sp, 32⟩]) (fun s => NInv d b L0 s ∧ a ≤ s.at_) (fun s => b - s.at_) ⟨a, 2 ^ d, [], none, 0, []⟩ (by (repeat (first | exact trivial | refine And.intro rfl ?_))) (View.le.refl _) (by (repeat (first | exact Pick.nil | (apply Pick.cons; (focus ((repeat (first | exact Spl.here | apply Spl.there)); done))) | exact Pick.refl))) ⟨⟨hab, by dsimp only; omega, by simpa using hL0, Nat.zero_le _, SO.nil 2⟩, Nat.le_refl _⟩ ?_
  rintro ⟨t, f, out, r, cp, sp⟩ ⟨⟨i1, i2, i3, i4, i5⟩, i6⟩
  dsimp only at i1 i2 i3 i4 i5 i6
  dsimp only
  by_cases ht : t < b
  · obtain ⟨f, rfl⟩ : ∃ f', f = f' + 1 := ⟨f - 1, by omega⟩
    rw [nod_succ ht] at i3
    obtain ⟨v1, v2⟩ := lvl_spec (d := d) ht
    repeat' first
      | apply cw_seq
      | (refine cw_region_id 3 ?_; (apply ol_mv; exact rfl; exact rfl); (apply ol_mv; exact rfl; exact rfl); (apply ol_val; exact rfl; apply stp_cmp; apply s_lss; exact rfl; exact rfl; all_goals (intro hc14; try (exfalso; (first | exact hc14 rfl | omega)))); all_goals (apply ol_nil))
      | (refine cw_region_id 4 ?_; (apply ol_as; exact rfl; exact rfl); (apply ol_nil))
      | (refine cw_region_id 11 ?_; (apply ol_mv; exact rfl; exact rfl); (apply ol_as; exact rfl; exact rfl); (apply ol_nil))
      | (apply cw_cond_true; exact rfl; (first | exact rfl | assumption))
      | (apply cw_cond_false; exact rfl; (first | exact rfl | assumption))
      | apply cw_skip
      | apply cw_ret
      | apply cw_block
      | apply cw_exit
    refine cw_loopK (σ := Nat) [0, 1, 2, 7, 8] (by (repeat (first | exact Keep.nil | (apply Keep.cons; exact rfl)))) (fun k => [(9, .int .i64 k)]) (fun _ => View.of w) (fun _ => [⟨r, flat C2.enc (out.map toC2) ++ sp, 32⟩]) (fun k => k ≤ lvl d t b ∧ ∀ j, j < k → ¬ fits d t b j) (fun k => d + 1 - k) 0 (by (repeat (first | exact trivial | refine And.intro rfl ?_))) (View.le.refl _) (by (repeat (first | exact Pick.nil | (apply Pick.cons; (focus ((repeat (first | exact Spl.here | apply Spl.there)); done))) | exact Pick.refl))) ⟨Nat.zero_le _, fun j hj => by omega⟩ ?_
    rintro k ⟨j1, j2⟩
    try dsimp only
    have hkd : k ≤ d := by omega
    have hpw := fun w' => power_spec w' (n := (d : Int) - (k : Int)) (by omega)
    rw [pow_sub] at hpw
    have hsp := sz_pos d k
    have hs32 : sz d k ≤ 32 := Nat.le_trans sz_le h32
    have hi : t / sz d k < 2 ^ k := by
      rw [Nat.div_lt_iff_lt_mul hsp, sz_mul hkd]; omega
    have hdiv : (t : Int) / ((sz d k : Nat) : Int) = ((t / sz d k : Nat) : Int) := (Int.natCast_ediv t (sz d k)).symm
    have hfs := fun w' => first_spec w' hkd hd hi
    have hsz := fun w' => size_spec w' ((t / sz d k : Nat) : Int) hkd hd
    have hle := Nat.div_mul_le_self t (sz d k)
    rw [← hdiv] at hfs hsz
    by_cases hf : t / sz d k * sz d k = t
    · have hins := fun w' => inside_spec w' hkd hd hi (a := a) (b := b) (by omega)
      rw [← hdiv] at hins
      rw [hf] at hfs hins
      by_cases hf2 : t + sz d k ≤ b
      · have hlv : lvl d t b = k := lvl_eq hkd ⟨by rw [← hf]; exact Nat.mul_mod_left _ _, hf2⟩ j2
        rw [hlv] at i3
        rw [decide_eq_true hf2] at hins
        clear hf hle hi v2
        generalize sz d k = S at *
        repeat' first
          | apply cw_seq
          | (refine cw_region_id 5 ?_; (apply ol_mv; exact rfl; exact rfl); (apply ol_mv; exact rfl; exact rfl); (apply ol_val; exact rfl; apply stp_cmp; apply s_leq; exact rfl; exact rfl; all_goals (intro hc17; try (exfalso; (first | exact hc17 rfl | omega)))); all_goals (apply ol_nil))
          | (refine cw_region_id 7 ?_; (apply ol_mv; exact rfl; exact rfl); (apply ol_mv; exact rfl; exact rfl); (apply ol_mv; exact rfl; exact rfl); (apply ol_mv; exact rfl; exact rfl); (apply ol_val; exact rfl; apply stp_pur; apply s_sub64; exact rfl; exact rfl; omega); (apply ol_val; exact rfl; apply s_callv; exact rfl; exact gf_18; (intro w' hw'; exact hpw w')); (apply ol_val; exact rfl; apply stp_pur; first | (apply s_quo64; exact rfl; exact rfl; omega) | (apply s_quoT; exact rfl; exact rfl; omega)); (apply ol_val; exact rfl; apply stp_pur; apply s_buildS; exact rfl; exact fs_32; exact zb_32; (focus ((repeat (first | exact rfl | constructor)); done))); (apply ol_val; exact rfl; apply s_alloc; exact zb_32; (focus ((repeat constructor); done)); intro bk10); (apply ol_eff; apply s_storeN; exact rfl; exact rfl; exact sz_32; exact rfl; exact rfl; (focus ((repeat constructor); done)); (focus ((repeat constructor); done))); (apply ol_nil))
          | (refine cw_region_id 8 ?_; (apply ol_mv; exact rfl; exact rfl); (apply ol_ldN; exact rfl; exact rfl; exact rfl; exact sz_32; (apply RdN.own; (focus ((repeat constructor); done)); (focus ((repeat (first | exact rfl | constructor)); done)))); (apply ol_val; exact rfl; apply s_callv; exact rfl; exact gf_31; (intro w' hw'; exact hfs w')); (apply ol_mv; exact rfl; exact rfl); (apply ol_val; exact rfl; apply stp_cmp; apply s_eql; exact rfl; exact rfl; all_goals (intro hc32; try (exfalso; (first | exact hc32 rfl | omega)))); all_goals (apply ol_mv; exact rfl; exact rfl); all_goals (first | (apply ol_gskip; exact rfl; exact rfl; (first | exact rfl | assumption); exact rfl) | (apply ol_gval; exact rfl; exact rfl; exact rfl; (first | exact rfl | assumption); apply stp_pur; apply s_move; exact rfl)); all_goals (first | (apply ol_gskip; exact rfl; exact rfl; (first | exact rfl | assumption); exact rfl) | (apply ol_gval; exact rfl; exact rfl; exact rfl; (first | exact rfl | assumption); apply stp_pur; apply s_loadN; exact rfl; exact rfl; exact sz_32; (apply RdN.own; (focus ((repeat constructor); done)); (focus ((repeat (first | exact rfl | constructor)); done))))); all_goals (first | (apply ol_gskip; exact rfl; exact rfl; (first | exact rfl | assumption); exact rfl) | (apply ol_gval; exact rfl; exact rfl; exact rfl; (first | exact rfl | assumption); apply stp_pur; apply s_move; exact rfl)); all_goals (first | (apply ol_gskip; exact rfl; exact rfl; (first | exact rfl | assumption); exact rfl) | (apply ol_gval; exact rfl; exact rfl; exact rfl; (first | exact rfl | assumption); apply stp_pur; apply s_move; exact rfl)); all_goals (first | (apply ol_gskip; exact rfl; exact rfl; (first | exact rfl | assumption); exact rfl) | (apply ol_gval; exact rfl; exact rfl; exact rfl; (first | exact rfl | assumption); apply s_callv; exact rfl; exact gf_44; (intro w' hw'; exact hins w'))); all_goals (apply ol_val; exact rfl; apply stp_pur; first | (apply s_pick_t; exact rfl; (first | exact rfl | assumption); exact rfl) | (apply s_pick_f; exact rfl; (first | exact rfl | assumption); exact rfl)); all_goals (apply ol_nil))
          | (refine cw_region_id 9 ?_; (apply ol_mv; exact rfl; exact rfl); (apply ol_ldN; exact rfl; exact rfl; exact rfl; exact sz_32; (apply RdN.own; (focus ((repeat constructor); done)); (focus ((repeat (first | exact rfl | constructor)); done)))); (apply ol_val; exact rfl; apply s_buildSl; exact rfl; exact el_24; exact sz_32; exact zb_32; (focus ((repeat constructor); done)); exact rfl; exact rfl; (exact Nat.le_of_ble_eq_true rfl); (focus ((repeat constructor); done)); (focus ((repeat (first | exact Fil.nil | (apply Fil.one; exact rfl; exact rfl; (repeat (first | exact SetAt.zero | apply SetAt.succ))) | (apply Fil.agg; exact rfl; exact rfl; (repeat (first | exact SetN.nil | (apply SetN.cons; (repeat (first | exact SetAt.zero | apply SetAt.succ))))); (exact Nat.le_of_ble_eq_true rfl)))); done)); intro bk42); (apply ol_val; exact rfl; first | (apply s_append_e; exact rfl; exact rfl; (focus ((repeat constructor); done)); exact el_24; exact sz_32; exact zb_32; exact rfl; exact by_32; (first | exact (fun _ => rfl)); (first | (apply RdN.own; (focus ((repeat constructor); done)); (focus ((repeat (first | exact rfl | constructor)); done)))); (first | exact rfl | exact rfl); (first | omega | (simp; omega) | (simp; done)); (first | omega | (simp; omega) | (simp; done)); intro rk43 sk43 ck43 ok43) | (apply s_append_r; exact rfl; exact rfl; (focus ((repeat constructor); done)); (first | exact rfl | exact (List.append_nil _).symm); exact el_24; exact sz_32; exact zb_32; exact rfl; exact by_32; (first | exact SO.nil _ | assumption | (exact ⟨by simp, by simp, Nat.le_refl _, by simp⟩)); (first | exact (fun _ => rfl)); (first | (apply RdN.own; (focus ((repeat constructor); done)); (focus ((repeat (first | exact rfl | constructor)); done)))); (first | exact rfl | exact rfl); (first | omega | (simp; omega) | (simp; done)); (first | omega | (simp; omega) | (simp; done)); intro rk43 sk43 ck43 ok43) | (apply s_append_b; exact rfl; exact rfl; (focus ((repeat constructor); done)); (first | exact rfl | exact (List.append_nil _).symm); exact el_24; exact sz_32; exact zb_32; exact rfl; exact by_32; (first | exact SO.nil _ | assumption | (exact ⟨by simp, by simp, Nat.le_refl _, by simp⟩)); (first | exact (fun _ => rfl)); (first | (apply RdN.own; (focus ((repeat constructor); done)); (focus ((repeat (first | exact rfl | constructor)); done)))); (first | exact rfl | exact rfl); (first | omega | (simp; omega) | (simp; done)); (first | omega | (simp; omega) | (simp; done)); intro rk43 sk43 ck43 ok43) | (apply s_append_n; exact rfl; exact rfl; (focus ((repeat constructor); done)); exact el_24; exact sz_32; exact zb_32; exact rfl; exact by_32; (first | exact (fun _ => rfl)); (first | (apply RdN.own; (focus ((repeat constructor); done)); (focus ((repeat (first | exact rfl | constructor)); done)))); (first | exact rfl | exact rfl); (first | omega | (simp; omega) | (simp; done)); (first | omega | (simp; omega) | (simp; done)); intro rk43 sk43 ck43 ok43)); (apply ol_as; exact rfl; exact rfl); (apply ol_nil))
          | (refine cw_region_id 10 ?_; (apply ol_mv; exact rfl; exact rfl); (apply ol_mv; exact rfl; exact rfl); (apply ol_ldN; exact rfl; exact rfl; exact rfl; exact sz_32; (apply RdN.own; (focus ((repeat constructor); done)); (focus ((repeat (first | exact rfl | constructor)); done)))); (apply ol_val; exact rfl; apply s_callv; exact rfl; exact gf_25; (intro w' hw'; exact hsz w')); (apply ol_val; exact rfl; apply stp_pur; apply s_add64; exact rfl; exact rfl; omega); (apply ol_as; exact rfl; exact rfl); (apply ol_nil))
          | (refine cw_region_id 6 ?_; (apply ol_mv; exact rfl; exact rfl); (apply ol_val; exact rfl; apply stp_pur; apply s_add64; exact rfl; exact rfl; omega); (apply ol_as; exact rfl; exact rfl); (apply ol_nil))
          | (apply cw_cond_true; exact rfl; (first | exact rfl | assumption))
          | (apply cw_cond_false; exact rfl; (first | exact rfl | assumption))
          | apply cw_skip
          | apply cw_ret
          | apply cw_block
          | apply cw_exit
        all_goals refine ⟨⟨t + S, f, out ++ [(k, t / S)], rk43, ck43, sk43⟩, ⟨?_, View.le.refl _, ?_, ⟨⟨by dsimp only; omega, by dsimp only; omega, ?_, ?_, ?_⟩, by dsimp only; omega⟩, by dsimp only; omega⟩⟩
        · dsimp only
          rw [List.length_append, List.length_singleton]
          (repeat (first | exact trivial | refine And.intro rfl ?_))
        · dsimp only
          rw [flat_snoc, ← hdiv]
          (repeat (first | exact Pick.nil | (apply Pick.cons; (focus ((repeat (first | exact Spl.here | apply Spl.there)); done))) | exact Pick.refl))
        · dsimp only
          rw [List.append_assoc]
          exact i3
        · dsimp only
          rw [List.length_append, List.length_singleton]
          omega
        · dsimp only
          rw [flat_snoc, List.length_append, List.length_singleton, ← hdiv]
          exact ok43
      · have hno : ¬ fits d t b k := fun e => hf2 e.2
        have hne : k ≠ lvl d t b := fun e => hno (e ▸ v2)
        rw [decide_eq_false hf2] at hins
        generalize sz d k = S at *
        repeat' first
          | apply cw_seq
          | (refine cw_region_id 5 ?_; (apply ol_mv; exact rfl; exact rfl); (apply ol_mv; exact rfl; exact rfl); (apply ol_val; exact rfl; apply stp_cmp; apply s_leq; exact rfl; exact rfl; all_goals (intro hc17; try (exfalso; (first | exact hc17 rfl | omega)))); all_goals (apply ol_nil))
          | (refine cw_region_id 7 ?_; (apply ol_mv; exact rfl; exact rfl); (apply ol_mv; exact rfl; exact rfl); (apply ol_mv; exact rfl; exact rfl); (apply ol_mv; exact rfl; exact rfl); (apply ol_val; exact rfl; apply stp_pur; apply s_sub64; exact rfl; exact rfl; omega); (apply ol_val; exact rfl; apply s_callv; exact rfl; exact gf_18; (intro w' hw'; exact hpw w')); (apply ol_val; exact rfl; apply stp_pur; first | (apply s_quo64; exact rfl; exact rfl; omega) | (apply s_quoT; exact rfl; exact rfl; omega)); (apply ol_val; exact rfl; apply stp_pur; apply s_buildS; exact rfl; exact fs_32; exact zb_32; (focus ((repeat (first | exact rfl | constructor)); done))); (apply ol_val; exact rfl; apply s_alloc; exact zb_32; (focus ((repeat constructor); done)); intro bk10); (apply ol_eff; apply s_storeN; exact rfl; exact rfl; exact sz_32; exact rfl; exact rfl; (focus ((repeat constructor); done)); (focus ((repeat constructor); done))); (apply ol_nil))
          | (refine cw_region_id 8 ?_; (apply ol_mv; exact rfl; exact rfl); (apply ol_ldN; exact rfl; exact rfl; exact rfl; exact sz_32; (apply RdN.own; (focus ((repeat constructor); done)); (focus ((repeat (first | exact rfl | constructor)); done)))); (apply ol_val; exact rfl; apply s_callv; exact rfl; exact gf_31; (intro w' hw'; exact hfs w')); (apply ol_mv; exact rfl; exact rfl); (apply ol_val; exact rfl; apply stp_cmp; apply s_eql; exact rfl; exact rfl; all_goals (intro hc32; try (exfalso; (first | exact hc32 rfl | omega)))); all_goals (apply ol_mv; exact rfl; exact rfl); all_goals (first | (apply ol_gskip; exact rfl; exact rfl; (first | exact rfl | assumption); exact rfl) | (apply ol_gval; exact rfl; exact rfl; exact rfl; (first | exact rfl | assumption); apply stp_pur; apply s_move; exact rfl)); all_goals (first | (apply ol_gskip; exact rfl; exact rfl; (first | exact rfl | assumption); exact rfl) | (apply ol_gval; exact rfl; exact rfl; exact rfl; (first | exact rfl | assumption); apply stp_pur; apply s_loadN; exact rfl; exact rfl; exact sz_32; (apply RdN.own; (focus ((repeat constructor); done)); (focus ((repeat (first | exact rfl | constructor)); done))))); all_goals (first | (apply ol_gskip; exact rfl; exact rfl; (first | exact rfl | assumption); exact rfl) | (apply ol_gval; exact rfl; exact rfl; exact rfl; (first | exact rfl | assumption); apply stp_pur; apply s_move; exact rfl)); all_goals (first | (apply ol_gskip; exact rfl; exact rfl; (first | exact rfl | assumption); exact rfl) | (apply ol_gval; exact rfl; exact rfl; exact rfl; (first | exact rfl | assumption); apply stp_pur; apply s_move; exact rfl)); all_goals (first | (apply ol_gskip; exact rfl; exact rfl; (first | exact rfl | assumption); exact rfl) | (apply ol_gval; exact rfl; exact rfl; exact rfl; (first | exact rfl | assumption); apply s_callv; exact rfl; exact gf_44; (intro w' hw'; exact hins w'))); all_goals (apply ol_val; exact rfl; apply stp_pur; first | (apply s_pick_t; exact rfl; (first | exact rfl | assumption); exact rfl) | (apply s_pick_f; exact rfl; (first | exact rfl | assumption); exact rfl)); all_goals (apply ol_nil))
          | (refine cw_region_id 9 ?_; (apply ol_mv; exact rfl; exact rfl); (apply ol_ldN; exact rfl; exact rfl; exact rfl; exact sz_32; (apply RdN.own; (focus ((repeat constructor); done)); (focus ((repeat (first | exact rfl | constructor)); done)))); (apply ol_val; exact rfl; apply s_buildSl; exact rfl; exact el_24; exact sz_32; exact zb_32; (focus ((repeat constructor); done)); exact rfl; exact rfl; (exact Nat.le_of_ble_eq_true rfl); (focus ((repeat constructor); done)); (focus ((repeat (first | exact Fil.nil | (apply Fil.one; exact rfl; exact rfl; (repeat (first | exact SetAt.zero | apply SetAt.succ))) | (apply Fil.agg; exact rfl; exact rfl; (repeat (first | exact SetN.nil | (apply SetN.cons; (repeat (first | exact SetAt.zero | apply SetAt.succ))))); (exact Nat.le_of_ble_eq_true rfl)))); done)); intro bk42); (apply ol_val; exact rfl; first | (apply s_append_e; exact rfl; exact rfl; (focus ((repeat constructor); done)); exact el_24; exact sz_32; exact zb_32; exact rfl; exact by_32; (first | exact (fun _ => rfl)); (first | (apply RdN.own; (focus ((repeat constructor); done)); (focus ((repeat (first | exact rfl | constructor)); done)))); (first | exact rfl); (first | omega | (simp; omega) | (simp; done)); (first | omega | (simp; omega) | (simp; done)); intro rk43 sk43 ck43 ok43) | (apply s_append_r; exact rfl; exact rfl; (focus ((repeat constructor); done)); (first | exact rfl | exact (List.append_nil _).symm); exact el_24; exact sz_32; exact zb_32; exact rfl; exact by_32; (first | exact SO.nil _ | assumption | (exact ⟨by simp, by simp, Nat.le_refl _, by simp⟩)); (first | exact (fun _ => rfl)); (first | (apply RdN.own; (focus ((repeat constructor); done)); (focus ((repeat (first | exact rfl | constructor)); done)))); (first | exact rfl); (first | omega | (simp; omega) | (simp; done)); (first | omega | (simp; omega) | (simp; done)); intro rk43 sk43 ck43 ok43) | (apply s_append_b; exact rfl; exact rfl; (focus ((repeat constructor); done)); (first | exact rfl | exact (List.append_nil _).symm); exact el_24; exact sz_32; exact zb_32; exact rfl; exact by_32; (first | exact SO.nil _ | assumption | (exact ⟨by simp, by simp, Nat.le_refl _, by simp⟩)); (first | exact (fun _ => rfl)); (first | (apply RdN.own; (focus ((repeat constructor); done)); (focus ((repeat (first | exact rfl | constructor)); done)))); (first | exact rfl); (first | omega | (simp; omega) | (simp; done)); (first | omega | (simp; omega) | (simp; done)); intro rk43 sk43 ck43 ok43) | (apply s_append_n; exact rfl; exact rfl; (focus ((repeat constructor); done)); exact el_24; exact sz_32; exact zb_32; exact rfl; exact by_32; (first | exact (fun _ => rfl)); (first | (apply RdN.own; (focus ((repeat constructor); done)); (focus ((repeat (first | exact rfl | constructor)); done)))); (first | exact rfl); (first | omega | (simp; omega) | (simp; done)); (first | omega | (simp; omega) | (simp; done)); intro rk43 sk43 ck43 ok43)); (apply ol_as; exact rfl; exact rfl); (apply ol_nil))
          | (refine cw_region_id 10 ?_; (apply ol_mv; exact rfl; exact rfl); (apply ol_mv; exact rfl; exact rfl); (apply ol_ldN; exact rfl; exact rfl; exact rfl; exact sz_32; (apply RdN.own; (focus ((repeat constructor); done)); (focus ((repeat (first | exact rfl | constructor)); done)))); (apply ol_val; exact rfl; apply s_callv; exact rfl; exact gf_25; (intro w' hw'; exact hsz w')); (apply ol_val; exact rfl; apply stp_pur; apply s_add64; exact rfl; exact rfl; omega); (apply ol_as; exact rfl; exact rfl); (apply ol_nil))
          | (refine cw_region_id 6 ?_; (apply ol_mv; exact rfl; exact rfl); (apply ol_val; exact rfl; apply stp_pur; apply s_add64; exact rfl; exact rfl; omega); (apply ol_as; exact rfl; exact rfl); (apply ol_nil))
          | (apply cw_cond_true; exact rfl; (first | exact rfl | assumption))
          | (apply cw_cond_false; exact rfl; (first | exact rfl | assumption))
          | apply cw_skip
          | apply cw_ret
          | apply cw_block
          | apply cw_exit
        all_goals exact ⟨k + 1, ⟨by (repeat (first | exact trivial | refine And.intro rfl ?_)), View.le.refl _, by (repeat (first | exact Pick.nil | (apply Pick.cons; (focus ((repeat (first | exact Spl.here | apply Spl.there)); done))) | exact Pick.refl)), ⟨by omega, fun j hj => by
          by_cases e : j = k
          · subst e; exact hno
          · exact j2 j (by omega)⟩, by omega⟩⟩
    · have hno : ¬ fits d t b k := fun e => hf (Nat.div_mul_cancel (Nat.dvd_of_mod_eq_zero e.1))
      have hne : k ≠ lvl d t b := fun e => hno (e ▸ v2)
      generalize hFe : t / sz d k * sz d k = F at *
      generalize sz d k = S at *
      repeat' first
        | apply cw_seq
        | (refine cw_region_id 5 ?_; (apply ol_mv; exact rfl; exact rfl); (apply ol_mv; exact rfl; exact rfl); (apply ol_val; exact rfl; apply stp_cmp; apply s_leq; exact rfl; exact rfl; all_goals (intro hc17; try (exfalso; (first | exact hc17 rfl | omega)))); all_goals (apply ol_nil))
        | (refine cw_region_id 7 ?_; (apply ol_mv; exact rfl; exact rfl); (apply ol_mv; exact rfl; exact rfl); (apply ol_mv; exact rfl; exact rfl); (apply ol_mv; exact rfl; exact rfl); (apply ol_val; exact rfl; apply stp_pur; apply s_sub64; exact rfl; exact rfl; omega); (apply ol_val; exact rfl; apply s_callv; exact rfl; exact gf_18; (intro w' hw'; exact hpw w')); (apply ol_val; exact rfl; apply stp_pur; first | (apply s_quo64; exact rfl; exact rfl; omega) | (apply s_quoT; exact rfl; exact rfl; omega)); (apply ol_val; exact rfl; apply stp_pur; apply s_buildS; exact rfl; exact fs_32; exact zb_32; (focus ((repeat (first | exact rfl | constructor)); done))); (apply ol_val; exact rfl; apply s_alloc; exact zb_32; (focus ((repeat constructor); done)); intro bk10); (apply ol_eff; apply s_storeN; exact rfl; exact rfl; exact sz_32; exact rfl; exact rfl; (focus ((repeat constructor); done)); (focus ((repeat constructor); done))); (apply ol_nil))
        | (refine cw_region_id 8 ?_; (apply ol_mv; exact rfl; exact rfl); (apply ol_ldN; exact rfl; exact rfl; exact rfl; exact sz_32; (apply RdN.own; (focus ((repeat constructor); done)); (focus ((repeat (first | exact rfl | constructor)); done)))); (apply ol_val; exact rfl; apply s_callv; exact rfl; exact gf_31; (intro w' hw'; exact hfs w')); (apply ol_mv; exact rfl; exact rfl); (apply ol_val; exact rfl; apply stp_cmp; apply s_eql; exact rfl; exact rfl; all_goals (intro hc32; try (exfalso; (first | exact hc32 rfl | omega)))); all_goals (apply ol_mv; exact rfl; exact rfl); all_goals (first | (apply ol_gskip; exact rfl; exact rfl; (first | exact rfl | assumption); exact rfl) | (apply ol_gval; exact rfl; exact rfl; exact rfl; (first | exact rfl | assumption); apply stp_pur; apply s_move; exact rfl)); all_goals (first | (apply ol_gskip; exact rfl; exact rfl; (first | exact rfl | assumption); exact rfl) | (apply ol_gval; exact rfl; exact rfl; exact rfl; (first | exact rfl | assumption); apply stp_pur; apply s_loadN; exact rfl; exact rfl; exact sz_32; (apply RdN.own; (focus ((repeat constructor); done)); (focus ((repeat (first | exact rfl | constructor)); done))))); all_goals (first | (apply ol_gskip; exact rfl; exact rfl; (first | exact rfl | assumption); exact rfl) | (apply ol_gval; exact rfl; exact rfl; exact rfl; (first | exact rfl | assumption); apply stp_pur; apply s_move; exact rfl)); all_goals (first | (apply ol_gskip; exact rfl; exact rfl; (first | exact rfl | assumption); exact rfl) | (apply ol_gval; exact rfl; exact rfl; exact rfl; (first | exact rfl | assumption); apply stp_pur; apply s_move; exact rfl)); all_goals (apply ol_gskip; exact rfl; exact rfl; (first | exact rfl | assumption); exact rfl); all_goals (apply ol_val; exact rfl; apply stp_pur; first | (apply s_pick_t; exact rfl; (first | exact rfl | assumption); exact rfl) | (apply s_pick_f; exact rfl; (first | exact rfl | assumption); exact rfl)); all_goals (apply ol_nil))
        | (refine cw_region_id 9 ?_; (apply ol_mv; exact rfl; exact rfl); (apply ol_ldN; exact rfl; exact rfl; exact rfl; exact sz_32; (apply RdN.own; (focus ((repeat constructor); done)); (focus ((repeat (first | exact rfl | constructor)); done)))); (apply ol_val; exact rfl; apply s_buildSl; exact rfl; exact el_24; exact sz_32; exact zb_32; (focus ((repeat constructor); done)); exact rfl; exact rfl; (exact Nat.le_of_ble_eq_true rfl); (focus ((repeat constructor); done)); (focus ((repeat (first | exact Fil.nil | (apply Fil.one; exact rfl; exact rfl; (repeat (first | exact SetAt.zero | apply SetAt.succ))) | (apply Fil.agg; exact rfl; exact rfl; (repeat (first | exact SetN.nil | (apply SetN.cons; (repeat (first | exact SetAt.zero | apply SetAt.succ))))); (exact Nat.le_of_ble_eq_true rfl)))); done)); intro bk42); (apply ol_val; exact rfl; first | (apply s_append_e; exact rfl; exact rfl; (focus ((repeat constructor); done)); exact el_24; exact sz_32; exact zb_32; exact rfl; exact by_32; (first | exact (fun _ => rfl)); (first | (apply RdN.own; (focus ((repeat constructor); done)); (focus ((repeat (first | exact rfl | constructor)); done)))); (first | exact rfl); (first | omega | (simp; omega) | (simp; done)); (first | omega | (simp; omega) | (simp; done)); intro rk43 sk43 ck43 ok43) | (apply s_append_r; exact rfl; exact rfl; (focus ((repeat constructor); done)); (first | exact rfl | exact (List.append_nil _).symm); exact el_24; exact sz_32; exact zb_32; exact rfl; exact by_32; (first | exact SO.nil _ | assumption | (exact ⟨by simp, by simp, Nat.le_refl _, by simp⟩)); (first | exact (fun _ => rfl)); (first | (apply RdN.own; (focus ((repeat constructor); done)); (focus ((repeat (first | exact rfl | constructor)); done)))); (first | exact rfl); (first | omega | (simp; omega) | (simp; done)); (first | omega | (simp; omega) | (simp; done)); intro rk43 sk43 ck43 ok43) | (apply s_append_b; exact rfl; exact rfl; (focus ((repeat constructor); done)); (first | exact rfl | exact (List.append_nil _).symm); exact el_24; exact sz_32; exact zb_32; exact rfl; exact by_32; (first | exact SO.nil _ | assumption | (exact ⟨by simp, by simp, Nat.le_refl _, by simp⟩)); (first | exact (fun _ => rfl)); (first | (apply RdN.own; (focus ((repeat constructor); done)); (focus ((repeat (first | exact rfl | constructor)); done)))); (first | exact rfl); (first | omega | (simp; omega) | (simp; done)); (first | omega | (simp; omega) | (simp; done)); intro rk43 sk43 ck43 ok43) | (apply s_append_n; exact rfl; exact rfl; (focus ((repeat constructor); done)); exact el_24; exact sz_32; exact zb_32; exact rfl; exact by_32; (first | exact (fun _ => rfl)); (first | (apply RdN.own; (focus ((repeat constructor); done)); (focus ((repeat (first | exact rfl | constructor)); done)))); (first | exact rfl); (first | omega | (simp; omega) | (simp; done)); (first | omega | (simp; omega) | (simp; done)); intro rk43 sk43 ck43 ok43)); (apply ol_as; exact rfl; exact rfl); (apply ol_nil))
        | (refine cw_region_id 10 ?_; (apply ol_mv; exact rfl; exact rfl); (apply ol_mv; exact rfl; exact rfl); (apply ol_ldN; exact rfl; exact rfl; exact rfl; exact sz_32; (apply RdN.own; (focus ((repeat constructor); done)); (focus ((repeat (first | exact rfl | constructor)); done)))); (apply ol_val; exact rfl; apply s_callv; exact rfl; exact gf_25; (intro w' hw'; exact hsz w')); (apply ol_val; exact rfl; apply stp_pur; apply s_add64; exact rfl; exact rfl; omega); (apply ol_as; exact rfl; exact rfl); (apply ol_nil))
        | (refine cw_region_id 6 ?_; (apply ol_mv; exact rfl; exact rfl); (apply ol_val; exact rfl; apply stp_pur; apply s_add64; exact rfl; exact rfl; omega); (apply ol_as; exact rfl; exact rfl); (apply ol_nil))
        | (apply cw_cond_true; exact rfl; (first | exact rfl | assumption))
        | (apply cw_cond_false; exact rfl; (first | exact rfl | assumption))
        | apply cw_skip
        | apply cw_ret
        | apply cw_block
        | apply cw_exit
      all_goals exact ⟨k + 1, ⟨by (repeat (first | exact trivial | refine And.intro rfl ?_)), View.le.refl _, by (repeat (first | exact Pick.nil | (apply Pick.cons; (focus ((repeat (first | exact Spl.here | apply Spl.there)); done))) | exact Pick.refl)), ⟨by omega, fun j hj => by
        by_cases e : j = k
        · subst e; exact hno
        · exact j2 j (by omega)⟩, by omega⟩⟩
  · have e : nod d f t b = [] := nod_end ht
    rw [e, List.append_nil] at i3
    subst i3
    repeat' first
      | apply cw_seq
      | (refine cw_region_id 3 ?_; (apply ol_mv; exact rfl; exact rfl); (apply ol_mv; exact rfl; exact rfl); (apply ol_val; exact rfl; apply stp_cmp; apply s_lss; exact rfl; exact rfl; all_goals (intro hc14; try (exfalso; (first | exact hc14 rfl | omega)))); all_goals (apply ol_nil))
      | (refine cw_region_id 4 ?_; (apply ol_as; exact rfl; exact rfl); (apply ol_nil))
      | (refine cw_region_id 11 ?_; (apply ol_mv; exact rfl; exact rfl); (apply ol_as; exact rfl; exact rfl); (apply ol_nil))
      | (apply cw_cond_true; exact rfl; (first | exact rfl | assumption))
      | (apply cw_cond_false; exact rfl; (first | exact rfl | assumption))
      | apply cw_skip
      | apply cw_ret
      | apply cw_block
      | apply cw_exit
    refine ends [⟨r, flat C2.enc (out.map toC2) ++ sp, 32⟩] (RVal.tmp rfl RVal.nil) (by (repeat (first | exact Pick.nil | (apply Pick.cons; (focus ((repeat (first | exact Spl.here | apply Spl.there)); done))) | exact Pick.refl))) ?_
    exact ⟨r, cp, sp, rfl, rfl, fun h => List.eq_nil_of_length_eq_zero (i5.empty h)⟩
end Go.Proofs.YtkmpiamfgmdihaaDoor
