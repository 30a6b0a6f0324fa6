/-
  The walks of numbers in 8 bytes.
-/
import Derived.Test.YtelidojkpbaofaaDoorW1
namespace Go.Proofs.YtelidojkpbaofaaDoor
set_option maxRecDepth 20000
set_option linter.unusedSimpArgs false
set_option linter.unusedVariables false
open Go Go.Fw
attribute [local irreducible] CW OL OD FX Stp FnC Ret
set_option maxHeartbeats 1000000

theorem count_spec (w : World) (n : Int) : FnC Tryd.prog 46 [.int .u64 n] w (RowRes (eK .u8) 1 5 (be8 n)) := by
  refine enterF (M := View.of w) Tryd.func46 rfl rfl rfl rfl (View.le.refl _) ?_
  repeat' first
    | apply cw_seq
    | (refine cw_region_id 0 ?_; (apply ol_as; exact rfl; exact rfl); (apply ol_nil))
    | (refine cw_region_id 1 ?_; (apply ol_val; exact rfl; apply s_makeB (n := 8) (c := 8); exact rfl; exact rfl; exact el_22; exact sz_5; exact zb_5; exact rfl; exact by_5; omega; omega; omega; intro bk5); (apply ol_as; exact rfl; exact rfl); (apply ol_nil))
    | (refine cw_region_id 2 ?_; (apply ol_mv; exact rfl; exact rfl); (apply ol_val; exact rfl; apply stp_pur; apply s_len; exact rfl; exact el_22); (apply ol_mv; exact rfl; exact rfl); (apply ol_nil))
    | (apply cw_cond_true; exact rfl; (first | exact rfl | assumption))
    | (apply cw_cond_false; exact rfl; (first | exact rfl | assumption))
    | apply cw_skip
    | apply cw_ret
    | apply cw_block
    | apply cw_exit
  refine cw_loopK (σ := Nat) [0, 3, 7] (by (repeat (first | exact Keep.nil | (apply Keep.cons; exact rfl)))) (fun k => [(8, .int .i64 k)]) (fun _ => View.of w) (fun k => [⟨some bk5, flat (eK .u8) (beN n k ++ List.replicate (8 - k) 0), 5⟩]) (fun k => k ≤ 8) (fun k => 8 - k) 0 (by (repeat (first | exact trivial | refine And.intro rfl ?_))) (View.le.refl _) (by (repeat (first | exact Pick.nil | (apply Pick.cons; (focus ((repeat (first | exact Spl.here | apply Spl.there)); done))) | exact Pick.refl))) (by omega) ?_
  intro k hk
  have hlen : (beN n k ++ List.replicate (8 - k) 0).length = 8 := by rw [List.length_append, beN_length, List.length_replicate]; omega
  by_cases hk' : k < 8
  · have hst : beN n (k + 1) ++ List.replicate (8 - (k + 1)) 0 = (beN n k ++ List.replicate (8 - k) 0).set k (IntKind.u8.wrap (n / 2 ^ (56 - 8 * (k : Int)).toNat)) := by
      rw [set_fill (beN_length n k) (by omega), beN_succ, show (56 - 8 * (k : Int)).toNat = 56 - 8 * k by omega]
      rfl
    try dsimp only
    repeat' first
      | apply cw_seq
      | (refine cw_region_id 3 ?_; (apply ol_val; exact rfl; apply stp_cmp; apply s_lss; exact rfl; exact rfl; all_goals (intro hc9; try (exfalso; (first | exact hc9 rfl | omega)))); all_goals (apply ol_nil))
      | (refine cw_region_id 4 ?_; (apply ol_mv; exact rfl; exact rfl); (apply ol_as; exact rfl; exact rfl); (apply ol_nil))
      | (refine cw_region_id 5 ?_; (apply ol_mv; exact rfl; exact rfl); (apply ol_mv; exact rfl; exact rfl); (apply ol_mv; exact rfl; exact rfl); (apply ol_mv; exact rfl; exact rfl); (apply ol_val; exact rfl; apply stp_pur; apply s_mul64; exact rfl; exact rfl; omega); (apply ol_val; exact rfl; apply stp_pur; apply s_sub64; exact rfl; exact rfl; omega); (apply ol_val; exact rfl; apply stp_pur; apply s_shr; exact rfl; exact rfl; (first | decide | omega | (simp [IntKind.bits]; omega) | (simp [IntKind.bits]; done))); (apply ol_val; exact rfl; apply stp_pur; first | (apply s_conv; exact rfl; exact rfl; exact ti_5; (focus (apply wrap_u8; omega))) | (apply s_conv; exact rfl; exact rfl; exact ti_5; exact rfl)); (apply ol_val; exact rfl; apply stp_pur; first | (apply s_indexK; exact rfl; exact rfl; exact el_22; exact sz_5; (first | exact rfl | exact rfl); omega) | (apply s_indexO; exact rfl; exact rfl; exact el_22; exact sz_5; (first | exact rfl | exact rfl); omega)); (apply ol_eff; apply s_store1; exact rfl; exact rfl; exact sz_5; exact rfl; (focus ((repeat constructor); done)); (first | (focus ((repeat constructor); done)) | (apply setAt_ints_app; (first | omega | (simp; omega) | (simp; done))) | (apply setAt_ints; (first | omega | (simp; omega) | (simp; done))) | (apply setAtK0; omega) | (apply SetAt.set; (first | omega | (simp; omega) | (simp; done))))); (apply ol_nil))
      | (refine cw_region_id 6 ?_; (apply ol_val; exact rfl; apply stp_pur; apply s_add64; exact rfl; exact rfl; omega); (apply ol_mv; exact rfl; exact rfl); (apply ol_nil))
      | (refine cw_region_id 7 ?_; (apply ol_mv; exact rfl; exact rfl); (apply ol_as; exact rfl; exact rfl); (apply ol_nil))
      | (apply cw_cond_true; exact rfl; (first | exact rfl | assumption))
      | (apply cw_cond_false; exact rfl; (first | exact rfl | assumption))
      | apply cw_skip
      | apply cw_ret
      | apply cw_block
      | apply cw_exit
    refine ⟨k + 1, ⟨by (repeat (first | exact trivial | refine And.intro rfl ?_)), View.le.refl _, ?_, hk', by omega⟩⟩
    rw [hst]
    (repeat (first | exact Pick.nil | (apply Pick.cons; (focus ((repeat (first | exact Spl.here | apply Spl.there)); done))) | exact Pick.refl))
  · have : k = 8 := by omega
    subst this
    repeat' first
      | apply cw_seq
      | (refine cw_region_id 3 ?_; (apply ol_val; exact rfl; apply stp_cmp; apply s_lss; exact rfl; exact rfl; all_goals (intro hc9; try (exfalso; (first | exact hc9 rfl | omega)))); all_goals (apply ol_nil))
      | (refine cw_region_id 4 ?_; (apply ol_mv; exact rfl; exact rfl); (apply ol_as; exact rfl; exact rfl); (apply ol_nil))
      | (refine cw_region_id 5 ?_; (apply ol_mv; exact rfl; exact rfl); (apply ol_mv; exact rfl; exact rfl); (apply ol_mv; exact rfl; exact rfl); (apply ol_mv; exact rfl; exact rfl); (apply ol_val; exact rfl; apply stp_pur; apply s_mul64; exact rfl; exact rfl; omega); (apply ol_val; exact rfl; apply stp_pur; apply s_sub64; exact rfl; exact rfl; omega); (apply ol_val; exact rfl; apply stp_pur; apply s_shr; exact rfl; exact rfl; (first | decide | omega | (simp [IntKind.bits]; omega) | (simp [IntKind.bits]; done))); (apply ol_val; exact rfl; apply stp_pur; first | (apply s_conv; exact rfl; exact rfl; exact ti_5; (focus (apply wrap_u8; omega))) | (apply s_conv; exact rfl; exact rfl; exact ti_5; exact rfl)); (apply ol_val; exact rfl; apply stp_pur; first | (apply s_indexK; exact rfl; exact rfl; exact el_22; exact sz_5; (first | exact rfl); omega) | (apply s_indexO; exact rfl; exact rfl; exact el_22; exact sz_5; (first | exact rfl); omega)); (apply ol_eff; apply s_store1; exact rfl; exact rfl; exact sz_5; exact rfl; (focus ((repeat constructor); done)); (first | (focus ((repeat constructor); done)) | (apply setAt_ints_app; (first | omega | (simp; omega) | (simp; done))) | (apply setAt_ints; (first | omega | (simp; omega) | (simp; done))) | (apply SetAt.set; (first | omega | (simp; omega) | (simp; done))))); (apply ol_nil))
      | (refine cw_region_id 6 ?_; (apply ol_val; exact rfl; apply stp_pur; apply s_add64; exact rfl; exact rfl; omega); (apply ol_mv; exact rfl; exact rfl); (apply ol_nil))
      | (refine cw_region_id 7 ?_; (apply ol_mv; exact rfl; exact rfl); (apply ol_as; exact rfl; exact rfl); (apply ol_nil))
      | (apply cw_cond_true; exact rfl; (first | exact rfl | assumption))
      | (apply cw_cond_false; exact rfl; (first | exact rfl | assumption))
      | apply cw_skip
      | apply cw_ret
      | apply cw_block
      | apply cw_exit
    refine ends [⟨some bk5, flat (eK .u8) (be8 n) ++ [], 5⟩] (RVal.tmp rfl RVal.nil) (by rw [List.append_nil]; (repeat (first | exact Pick.nil | (apply Pick.cons; (focus ((repeat (first | exact Spl.here | apply Spl.there)); done))) | exact Pick.refl))) ?_
    refine ⟨some bk5, none, 8, [], ?_, rfl, ⟨?_, ?_, ?_, ?_⟩⟩
    · rw [be8_length]; rfl
    · rw [flatK_length]; omega
    · rw [flatK_length, be8_length]; rfl
    · rw [be8_length]; exact Nat.le_refl _
    · intro h; cases h

structure RSt where
  k : Nat
  r : Option Nat
  c : Nat
  sp : List Value

theorem bytes_spec (w : World) (n : Int) : FnC Tryd.prog 56 [.int .i64 n] w (RowRes (eK .u8) 1 5 (be8 n)) := by
  refine enterF (M := View.of w) Tryd.func56 rfl rfl rfl rfl (View.le.refl _) ?_
  refine cw_none 5 ?_
  repeat' first
    | apply cw_seq
    | (refine cw_region_id 0 ?_; (apply ol_as; exact rfl; exact rfl); (apply ol_nil))
    | (refine cw_region_id 1 ?_; (apply ol_as; exact rfl; exact rfl); (apply ol_nil))
    | (refine cw_region_id 2 ?_; (apply ol_as; exact rfl; exact rfl); (apply ol_nil))
    | (apply cw_cond_true; exact rfl; (first | exact rfl | assumption))
    | (apply cw_cond_false; exact rfl; (first | exact rfl | assumption))
    | apply cw_skip
    | apply cw_ret
    | apply cw_block
    | apply cw_exit
  refine cw_loopK (σ := RSt) [0] (by (repeat (first | exact Keep.nil | (apply Keep.cons; exact rfl)))) (fun s => [(3, .slice (base s.r none) s.k s.c), (4, .int .i64 (7 - (s.k : Int)))]) (fun _ => View.of w) (fun s => [⟨s.r, flat (eK .u8) (beN n s.k) ++ s.sp, 5⟩]) (fun s => s.k ≤ 8 ∧ SO s.r s.k s.c (flat (eK .u8) (beN n s.k)) s.sp 1) (fun s => 8 - s.k) ⟨0, none, 0, []⟩ (by (repeat (first | exact trivial | refine And.intro rfl ?_))) (View.le.refl _) (by (repeat (first | exact Pick.nil | (apply Pick.cons; (focus ((repeat (first | exact Spl.here | apply Spl.there)); done))) | exact Pick.refl))) ⟨by decide, SO.nil 1⟩ ?_
  rintro ⟨k, r, c, sp⟩ ⟨hk, so⟩
  dsimp only at hk so
  dsimp only
  by_cases hk' : k < 8
  · have hst : beN n (k + 1) = beN n k ++ [IntKind.u8.wrap (n / 2 ^ (8 * (7 - (k : Int))).toNat)] := by
      rw [beN_succ, show (8 * (7 - (k : Int))).toNat = 56 - 8 * k by omega]
    repeat' first
      | apply cw_seq
      | (refine cw_region_id 3 ?_; (apply ol_mv; exact rfl; exact rfl); (apply ol_val; exact rfl; apply stp_cmp; apply s_geq; exact rfl; exact rfl; all_goals (intro hc6; try (exfalso; (first | exact hc6 rfl | omega)))); all_goals (apply ol_nil))
      | (refine cw_region_id 5 ?_; (apply ol_mv; exact rfl; exact rfl); (apply ol_mv; exact rfl; exact rfl); (apply ol_mv; exact rfl; exact rfl); (apply ol_val; exact rfl; apply stp_pur; apply s_mul64; exact rfl; exact rfl; omega); (apply ol_val; exact rfl; apply stp_pur; apply s_shr; exact rfl; exact rfl; (first | decide | omega | (simp [IntKind.bits]; omega) | (simp [IntKind.bits]; done))); (apply ol_val; exact rfl; apply stp_pur; first | (apply s_conv; exact rfl; exact rfl; exact ti_5; (focus (apply wrap_u8; omega))) | (apply s_conv; exact rfl; exact rfl; exact ti_5; exact rfl)); (apply ol_val; exact rfl; apply s_buildSl; exact rfl; exact el_22; exact sz_5; exact zb_5; (focus ((repeat constructor); done)); exact rfl; exact rfl; (exact Nat.le_of_ble_eq_true rfl); (focus ((repeat constructor); done)); (focus ((repeat (first | exact rfl | constructor)); done)); intro bk15); (apply ol_val; exact rfl; first | (apply s_append_e; exact rfl; exact rfl; (focus ((repeat constructor); done)); exact el_22; exact sz_5; exact zb_5; exact rfl; exact by_5; (first | exact (fun _ => rfl)); (first | (apply RdN.own; (focus ((repeat constructor); done)); (focus ((repeat (first | exact rfl | constructor)); done)))); (first | exact rfl); (first | omega | (simp; omega) | (simp; done)); (first | omega | (simp; omega) | (simp; done)); intro rk16 sk16 ck16 ok16) | (apply s_append_r; exact rfl; exact rfl; (focus ((repeat constructor); done)); (first | exact rfl | exact (List.append_nil _).symm); exact el_22; exact sz_5; exact zb_5; exact rfl; exact by_5; (first | exact SO.nil _ | assumption | (exact ⟨by simp, by simp, Nat.le_refl _, by simp⟩)); (first | exact (fun _ => rfl)); (first | (apply RdN.own; (focus ((repeat constructor); done)); (focus ((repeat (first | exact rfl | constructor)); done)))); (first | exact rfl); (first | omega | (simp; omega) | (simp; done)); (first | omega | (simp; omega) | (simp; done)); intro rk16 sk16 ck16 ok16) | (apply s_append_b; exact rfl; exact rfl; (focus ((repeat constructor); done)); (first | exact rfl | exact (List.append_nil _).symm); exact el_22; exact sz_5; exact zb_5; exact rfl; exact by_5; (first | exact SO.nil _ | assumption | (exact ⟨by simp, by simp, Nat.le_refl _, by simp⟩)); (first | exact (fun _ => rfl)); (first | (apply RdN.own; (focus ((repeat constructor); done)); (focus ((repeat (first | exact rfl | constructor)); done)))); (first | exact rfl); (first | omega | (simp; omega) | (simp; done)); (first | omega | (simp; omega) | (simp; done)); intro rk16 sk16 ck16 ok16) | (apply s_append_n; exact rfl; exact rfl; (focus ((repeat constructor); done)); exact el_22; exact sz_5; exact zb_5; exact rfl; exact by_5; (first | exact (fun _ => rfl)); (first | (apply RdN.own; (focus ((repeat constructor); done)); (focus ((repeat (first | exact rfl | constructor)); done)))); (first | exact rfl); (first | omega | (simp; omega) | (simp; done)); (first | omega | (simp; omega) | (simp; done)); intro rk16 sk16 ck16 ok16)); (apply ol_as; exact rfl; exact rfl); (apply ol_nil))
      | (refine cw_region_id 4 ?_; (apply ol_mv; exact rfl; exact rfl); (apply ol_val; exact rfl; apply stp_pur; apply s_sub64; exact rfl; exact rfl; omega); (apply ol_as; exact rfl; exact rfl); (apply ol_nil))
      | (refine cw_region_id 6 ?_; (apply ol_mv; exact rfl; exact rfl); (apply ol_as; exact rfl; exact rfl); (apply ol_nil))
      | (apply cw_cond_true; exact rfl; (first | exact rfl | assumption))
      | (apply cw_cond_false; exact rfl; (first | exact rfl | assumption))
      | apply cw_skip
      | apply cw_ret
      | apply cw_block
      | apply cw_exit
    refine ⟨⟨k + 1, rk16, ck16, sk16⟩, ⟨?_, View.le.refl _, ?_, ⟨hk', ?_⟩, by dsimp only; omega⟩⟩
    · dsimp only
      rw [show (7 - ((k + 1 : Nat) : Int)) = 7 - (k : Int) - 1 by omega]
      (repeat (first | exact trivial | refine And.intro rfl ?_))
    · dsimp only
      rw [hst, flat_append]
      (repeat (first | exact Pick.nil | (apply Pick.cons; (focus ((repeat (first | exact Spl.here | apply Spl.there)); done))) | exact Pick.refl))
    · dsimp only
      rw [hst, flat_append]
      exact ok16
  · have : k = 8 := by omega
    subst this
    repeat' first
      | apply cw_seq
      | (refine cw_region_id 3 ?_; (apply ol_mv; exact rfl; exact rfl); (apply ol_val; exact rfl; apply stp_cmp; apply s_geq; exact rfl; exact rfl; all_goals (intro hc6; try (exfalso; (first | exact hc6 rfl | omega)))); all_goals (apply ol_nil))
      | (refine cw_region_id 5 ?_; (apply ol_mv; exact rfl; exact rfl); (apply ol_mv; exact rfl; exact rfl); (apply ol_mv; exact rfl; exact rfl); (apply ol_val; exact rfl; apply stp_pur; apply s_mul64; exact rfl; exact rfl; omega); (apply ol_val; exact rfl; apply stp_pur; apply s_shr; exact rfl; exact rfl; (first | decide | omega | (simp [IntKind.bits]; omega) | (simp [IntKind.bits]; done))); (apply ol_val; exact rfl; apply stp_pur; first | (apply s_conv; exact rfl; exact rfl; exact ti_5; (focus (apply wrap_u8; omega))) | (apply s_conv; exact rfl; exact rfl; exact ti_5; exact rfl)); (apply ol_val; exact rfl; apply s_buildSl; exact rfl; exact el_22; exact sz_5; exact zb_5; (focus ((repeat constructor); done)); exact rfl; exact rfl; (exact Nat.le_of_ble_eq_true rfl); (focus ((repeat constructor); done)); (focus ((repeat (first | exact rfl | constructor)); done)); intro bk15); (apply ol_val; exact rfl; first | (apply s_append_e; exact rfl; exact rfl; (focus ((repeat constructor); done)); exact el_22; exact sz_5; exact zb_5; exact rfl; exact by_5; (first | exact (fun _ => rfl)); (first | (apply RdN.own; (focus ((repeat constructor); done)); (focus ((repeat (first | exact rfl | constructor)); done)))); (first | exact rfl); (first | omega | (simp; omega) | (simp; done)); (first | omega | (simp; omega) | (simp; done)); intro rk16 sk16 ck16 ok16) | (apply s_append_r; exact rfl; exact rfl; (focus ((repeat constructor); done)); (first | exact rfl | exact (List.append_nil _).symm); exact el_22; exact sz_5; exact zb_5; exact rfl; exact by_5; (first | exact SO.nil _ | assumption | (exact ⟨by simp, by simp, Nat.le_refl _, by simp⟩)); (first | exact (fun _ => rfl)); (first | (apply RdN.own; (focus ((repeat constructor); done)); (focus ((repeat (first | exact rfl | constructor)); done)))); (first | exact rfl); (first | omega | (simp; omega) | (simp; done)); (first | omega | (simp; omega) | (simp; done)); intro rk16 sk16 ck16 ok16) | (apply s_append_b; exact rfl; exact rfl; (focus ((repeat constructor); done)); (first | exact rfl | exact (List.append_nil _).symm); exact el_22; exact sz_5; exact zb_5; exact rfl; exact by_5; (first | exact SO.nil _ | assumption | (exact ⟨by simp, by simp, Nat.le_refl _, by simp⟩)); (first | exact (fun _ => rfl)); (first | (apply RdN.own; (focus ((repeat constructor); done)); (focus ((repeat (first | exact rfl | constructor)); done)))); (first | exact rfl); (first | omega | (simp; omega) | (simp; done)); (first | omega | (simp; omega) | (simp; done)); intro rk16 sk16 ck16 ok16) | (apply s_append_n; exact rfl; exact rfl; (focus ((repeat constructor); done)); exact el_22; exact sz_5; exact zb_5; exact rfl; exact by_5; (first | exact (fun _ => rfl)); (first | (apply RdN.own; (focus ((repeat constructor); done)); (focus ((repeat (first | exact rfl | constructor)); done)))); (first | exact rfl); (first | omega | (simp; omega) | (simp; done)); (first | omega | (simp; omega) | (simp; done)); intro rk16 sk16 ck16 ok16)); (apply ol_as; exact rfl; exact rfl); (apply ol_nil))
      | (refine cw_region_id 4 ?_; (apply ol_mv; exact rfl; exact rfl); (apply ol_val; exact rfl; apply stp_pur; apply s_sub64; exact rfl; exact rfl; omega); (apply ol_as; exact rfl; exact rfl); (apply ol_nil))
      | (refine cw_region_id 6 ?_; (apply ol_mv; exact rfl; exact rfl); (apply ol_as; exact rfl; exact rfl); (apply ol_nil))
      | (apply cw_cond_true; exact rfl; (first | exact rfl | assumption))
      | (apply cw_cond_false; exact rfl; (first | exact rfl | assumption))
      | apply cw_skip
      | apply cw_ret
      | apply cw_block
      | apply cw_exit
    refine ends [⟨r, flat (eK .u8) (be8 n) ++ sp, 5⟩] (RVal.tmp rfl RVal.nil) (by (repeat (first | exact Pick.nil | (apply Pick.cons; (focus ((repeat (first | exact Spl.here | apply Spl.there)); done))) | exact Pick.refl))) ?_
    refine ⟨r, none, c, sp, ?_, rfl, ?_⟩
    · rw [be8_length]; rfl
    · rw [be8_length]; exact so
end Go.Proofs.YtelidojkpbaofaaDoor
