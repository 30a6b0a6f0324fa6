/-
  The walk of Hex.
-/
import Derived.Test.YthhhleplbmpakaaDoorW10
import Derived.Test.YthhhleplbmpakaaDoorS3
import Derived.Test.YthhhleplbmpakaaDoorFw15
namespace Go.Proofs.YthhhleplbmpakaaDoor
set_option maxRecDepth 20000
set_option linter.unusedSimpArgs false
set_option linter.unusedVariables false
open Go Go.Fw
attribute [local irreducible] CW OL OD FX Stp FnC Ret DG
set_option maxHeartbeats 800000

structure HSt where
  k : Nat
  o : Option Addr
  r : Option Nat
  c : Nat
  sp : List Value

theorem hex_spec (w : World) {h : List Int} (hl : h.length = 32) (hb : isB h) :
    FnC Tryd.prog 16 [.agg (flat (eK .u8) h).toArray] w (fun v _ => v = .string (strOf (hexN h 32))) := by
  refine enterF (M := View.of w) Tryd.func16 rfl rfl rfl rfl (View.le.refl _) ?_
  refine cw_none 5 ?_
  repeat' first
    | apply cw_seq
    | (refine cw_region_id 0 ?_; (apply ol_val; exact rfl; first | (apply s_boxN; exact rfl; intro bk1) | (apply s_box1; exact rfl; exact rfl; intro bk1)); (apply ol_as; exact rfl; exact rfl); (apply ol_nil))
    | (refine cw_region_id 1 ?_; (apply ol_val; exact rfl; apply s_alloc; exact zb_70; (focus ((repeat constructor); done)); intro bk3); (apply ol_nil))
    | (refine cw_region_id 2 ?_; (apply ol_ldN; exact rfl; exact rfl; exact rfl; exact sz_25; (apply RdN.own; (focus ((repeat constructor); done)); (apply getNK_all; (first | assumption | (rw [List.length_replicate]))))); (apply ol_mv; exact rfl; exact rfl); (apply ol_nil))
    | (apply cw_cond_true; exact rfl; (first | exact rfl | assumption))
    | (apply cw_cond_false; exact rfl; (first | exact rfl | assumption))
    | apply cw_skip
    | apply cw_ret
    | apply cw_block
    | apply cw_exit
  refine cw_loopK (σ := HSt) [3, 6] (by (repeat (first | exact Keep.nil | (apply Keep.cons; exact rfl)))) (fun s => [(7, .int .i64 s.k)]) (fun _ => View.of w) (fun s => [⟨some bk3, [.pointer s.o, .slice (base s.r none) (hexN h s.k).length s.c], 70⟩, ⟨s.r, flat (eK .u8) (hexN h s.k) ++ s.sp, 5⟩]) (fun s => s.k ≤ 32 ∧ (s.o = none ∨ s.o = some ⟨bk3, 0, none⟩) ∧ SO s.r (hexN h s.k).length s.c (flat (eK .u8) (hexN h s.k)) s.sp 1) (fun s => 32 - s.k) ⟨0, none, none, 0, []⟩ (by (repeat (first | exact trivial | refine And.intro rfl ?_))) (View.le.refl _) (by (repeat (first | exact Pick.nil | (apply Pick.cons; (focus ((repeat (first | exact Spl.here | apply Spl.there)); done))) | exact Pick.refl))) ⟨by dsimp only; omega, .inl rfl, SO.nil 1⟩ ?_
  rintro ⟨k, o, r, c, sp⟩ ⟨hk, ho, so⟩
  dsimp only at hk ho so
  dsimp only
  have hlen := hexN_length h k
  by_cases hk' : k < 32
  · have hg := hb k
    have hst : hexN h (k + 1) = hexN h k ++ [DG.getD (h.getD k 0 / 16).toNat 0] ++ [DG.getD (h.getD k 0 % 16).toNat 0] := rfl
    have h15 := and15 hg
    have d1 := dg (i := h.getD k 0 / 16) (by omega)
    have d2 := dg (i := h.getD k 0 % 16) (by omega)
    rw [← h15] at d2
    generalize hexN h k = X at *
    repeat' first
      | apply cw_seq
      | (refine cw_region_id 3 ?_; (apply ol_val; exact rfl; apply stp_cmp; apply s_lss; exact rfl; exact rfl; all_goals (intro hc8; try (exfalso; (first | exact hc8 rfl | omega)))); all_goals (apply ol_nil))
      | (refine cw_region_id 4 ?_; (apply ol_val; exact rfl; apply stp_pur; first | (apply s_indexVK; exact rfl; exact rfl; exact ar_25; exact sz_5; exact rfl; (first | omega | (simp; omega) | (simp; done)); omega) | (apply s_indexVK; exact rfl; exact rfl; exact ar_25; exact sz_5; exact rfl; (first | exact (show 0 ≤ h.getD k 0 / 16 ∧ h.getD k 0 / 16 < 16 by omega) | exact (show 0 ≤ Go.bits .and .u8 (h.getD k 0) 15 ∧ Go.bits .and .u8 (h.getD k 0) 15 < 16 by omega)); (first | exact d1 | exact d2); omega)); (apply ol_as; exact rfl; exact rfl); (apply ol_nil))
      | (refine cw_region_id 5 ?_; (apply ol_mv; exact rfl; exact rfl); (apply ol_val; exact rfl; apply stp_pur; apply s_shr; exact rfl; exact rfl; (first | decide | omega | (simp [IntKind.bits]; omega) | (simp [IntKind.bits]; done))); (apply ol_val; exact rfl; apply stp_pur; apply s_indexS; exact rfl; exact rfl; exact us_9; (first | exact (show 0 ≤ h.getD k 0 / 16 ∧ h.getD k 0 / 16 < 16 by omega) | exact (show 0 ≤ Go.bits .and .u8 (h.getD k 0) 15 ∧ Go.bits .and .u8 (h.getD k 0) 15 < 16 by omega)); (first | exact d1 | exact d2)); (apply ol_val; exact rfl; apply writeByte_step; exact rfl; exact rfl; (first | exact ho | exact Or.inr rfl); assumption; (first | omega | (simp; omega)); intro r1 sp1 cap1 so1); all_goals (apply ol_nil))
      | (refine cw_region_id 6 ?_; (apply ol_mv; exact rfl; exact rfl); (apply ol_val; exact rfl; apply stp_pur; apply s_and; exact rfl; exact rfl); (apply ol_val; exact rfl; apply stp_pur; apply s_indexS; exact rfl; exact rfl; exact us_9; (first | exact (show 0 ≤ h.getD k 0 / 16 ∧ h.getD k 0 / 16 < 16 by omega) | exact (show 0 ≤ Go.bits .and .u8 (h.getD k 0) 15 ∧ Go.bits .and .u8 (h.getD k 0) 15 < 16 by omega)); (first | exact d1 | exact d2)); (apply ol_val; exact rfl; apply writeByte_step; exact rfl; exact rfl; (first | exact ho | exact Or.inr rfl); assumption; (first | omega | (simp; omega)); intro r1 sp1 cap1 so1); all_goals (apply ol_nil))
      | (refine cw_region_id 7 ?_; (apply ol_val; exact rfl; apply stp_pur; apply s_add64; exact rfl; exact rfl; omega); (apply ol_mv; exact rfl; exact rfl); (apply ol_nil))
      | (refine cw_region_id 8 ?_)
      | (apply cw_cond_true; exact rfl; (first | exact rfl | assumption))
      | (apply cw_cond_false; exact rfl; (first | exact rfl | assumption))
      | apply cw_skip
      | apply cw_ret
      | apply cw_block
      | apply cw_exit
    rw [← h15] at hst
    refine ⟨⟨k + 1, some ⟨bk3, 0, none⟩, r1, cap1, sp1⟩, ⟨by (repeat (first | exact trivial | refine And.intro rfl ?_)), View.le.refl _, ?_, ⟨hk', .inr rfl, ?_⟩, by dsimp only; omega⟩⟩
    · dsimp only
      rw [hst, List.length_append, List.length_append]
      (repeat (first | exact Pick.nil | (apply Pick.cons; (focus ((repeat (first | exact Spl.here | apply Spl.there)); done))) | exact Pick.refl))
    · dsimp only
      rw [hst, List.length_append, List.length_append]
      exact so1
  · have : k = 32 := by omega
    subst this
    have hB := hexN_B h 32
    obtain ⟨q, rfl⟩ : ∃ q, r = some q := ⟨_, some_ref so (by omega)⟩
    have hcap := so.hle
    generalize hexN h 32 = X at *
    repeat' first
      | apply cw_seq
      | (refine cw_region_id 3 ?_; (apply ol_val; exact rfl; apply stp_cmp; apply s_lss; exact rfl; exact rfl; all_goals (intro hc8; try (exfalso; (first | exact hc8 rfl | omega)))); all_goals (apply ol_nil))
      | (refine cw_region_id 4 ?_; (apply ol_val; exact rfl; apply stp_pur; apply s_indexVK; exact rfl; exact rfl; exact ar_25; exact sz_5; exact rfl; (first | omega | (simp; omega) | (simp; done)); omega); (apply ol_as; exact rfl; exact rfl); (apply ol_nil))
      | (refine cw_region_id 5 ?_; (apply ol_mv; exact rfl; exact rfl); (apply ol_val; exact rfl; apply stp_pur; apply s_shr; exact rfl; exact rfl; (first | decide | omega | (simp [IntKind.bits]; omega) | (simp [IntKind.bits]; done))))
      | (refine cw_region_id 6 ?_; (apply ol_mv; exact rfl; exact rfl); (apply ol_val; exact rfl; apply stp_pur; apply s_and; exact rfl; exact rfl))
      | (refine cw_region_id 7 ?_; (apply ol_val; exact rfl; apply stp_pur; apply s_add64; exact rfl; exact rfl; omega); (apply ol_mv; exact rfl; exact rfl); (apply ol_nil))
      | (refine cw_region_id 8 ?_; (apply ol_val; exact rfl; apply string_step; exact rfl; omega; exact hcap; omega; exact hB); all_goals (apply ol_as; exact rfl; exact rfl); all_goals (apply ol_nil))
      | (apply cw_cond_true; exact rfl; (first | exact rfl | assumption))
      | (apply cw_cond_false; exact rfl; (first | exact rfl | assumption))
      | apply cw_skip
      | apply cw_ret
      | apply cw_block
      | apply cw_exit
    refine ends [] (RVal.tmp rfl RVal.nil) Pick.nil ?_
    rfl
end Go.Proofs.YthhhleplbmpakaaDoor
