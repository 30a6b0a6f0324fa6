/-
  The walks of the reference's nodes and paths.
-/
import Derived.Test.YtckohecddaacnaaDoorT3
import Derived.Test.YtckohecddaacnaaDoorFw22
namespace Go.Proofs.YtckohecddaacnaaDoor
set_option maxRecDepth 20000
set_option linter.unusedSimpArgs false
set_option linter.unusedVariables false
open Go Go.Fw
theorem at_get {l : List HS} {i : Nat} (h : i < l.length) : l[i] = at_ l i := by simp [at_, List.getD, List.getElem?_eq_getElem h]
theorem SlA.hash {M : View} {l : List HS} {a : Option Addr} {b o : Nat} (s : SlA M HS.enc 32 a l b o) {i off : Nat} (hi : i < l.length) (e : off = o + i * 32) : GetN (M.cell b) off 32 (flat (eK .u8) (at_ l i).l) := by
  have := s.cells i hi
  rw [at_get hi] at this
  rw [e]
  exact this
end Go.Proofs.YtckohecddaacnaaDoor
namespace Go.Proofs.YtckohecddaacnaaDoor
set_option maxRecDepth 20000
set_option linter.unusedSimpArgs false
set_option linter.unusedVariables false
open Go Go.Fw
attribute [local irreducible] CW OL OD FX Stp FnC Ret sha strOf be8 nd inn at_ pth fol
set_option maxHeartbeats 800000

theorem rnode_spec {l : List HS} {n d : Nat} (hn : l.length = n) (hd : d ≤ 10) (hp : n = 2 ^ d) : ∀ (j k i : Nat), k + j = d → i < 2 ^ k → ∀ {M : View} {w : World}, View.le M (View.of w) → ∀ {a : Option Addr} {b o c : Nat}, SlA M HS.enc 32 a l b o → ∀ (ki ii : Int), ki = k → ii = i →
    FnC Tryd.prog 14 [.slice a n c, .int .i64 ki, .int .i64 ii] w (fun v _ => v = .agg (nd (at_ l) j i).enc.toArray) := by
  intro j
  induction j with
  | zero =>
    intro k i hk hi M w hM a b o c s ki ii hki hii
    subst hki hii
    obtain rfl : k = d := by omega
    refine enterF (M := M) Tryd.func14 rfl rfl rfl rfl hM ?_
    have hpw := one_pow_cast (l := k)
    have h24 := pow1024 hd
    rw [← hp] at hpw h24 hi
    have hgt := fun {off : Nat} (e : off = o + i * 32) => SlA.hash s (i := i) (by omega) e
    have e0 : nd (at_ l) 0 i = at_ l i := by simp only [nd]
    rw [e0]
    have hR := (at_ l i).hl
    generalize at_ l i = R at *
    repeat' first
      | apply cw_seq
      | (refine cw_region_id 0 ?_; (apply ol_val; exact rfl; apply s_allocK; exact zk_26; intro bk6); (apply ol_nil))
      | (refine cw_region_id 1 ?_; (apply ol_mv; exact rfl; exact rfl); (apply ol_val; exact rfl; apply stp_pur; apply s_shl64; exact rfl; exact rfl; (first | decide | omega | (simp [IntKind.bits]; omega) | (simp [IntKind.bits]; done)); omega); (apply ol_mv; exact rfl; exact rfl); (apply ol_val; exact rfl; apply stp_pur; apply s_len; exact rfl; exact el_22); (apply ol_val; exact rfl; apply stp_cmp; apply s_eql; exact rfl; exact rfl; all_goals (intro hc11; try (exfalso; (first | exact hc11 rfl | omega)))); all_goals (apply ol_nil))
      | (refine cw_region_id 2 ?_; (apply ol_mv; exact rfl; exact rfl); (apply ol_mv; exact rfl; exact rfl); (apply ol_val; exact rfl; apply stp_pur; first | (apply s_indexK; exact rfl; exact rfl; exact el_22; exact sz_26; (first | exact rfl | exact s.at_ (by omega)); omega) | (apply s_indexO; exact rfl; exact rfl; exact el_22; exact sz_26; (first | exact rfl | exact s.at_ (by omega)); omega)); (apply ol_ldN; exact rfl; exact rfl; exact rfl; exact sz_26; (first | (apply RdN.own; (focus ((repeat constructor); done)); (apply getNK_all; (first | assumption | (rw [List.length_replicate]) | exact rfl))) | (apply RdN.view; exact hgt rfl))); (apply ol_eff; apply s_storeK; exact rfl; exact rfl; exact sz_26; (focus ((repeat constructor); done)); (first | assumption | (rw [List.length_replicate]) | exact rfl); (first | assumption | (rw [List.length_replicate]) | exact rfl)); (apply ol_nil))
      | (refine cw_region_id 3 ?_; (apply ol_mv; exact rfl; exact rfl); (apply ol_mv; exact rfl; exact rfl); (apply ol_val; exact rfl; apply stp_pur; apply s_add64; exact rfl; exact rfl; omega); (apply ol_mv; exact rfl; exact rfl); (apply ol_val; exact rfl; apply stp_pur; apply s_mul64; exact rfl; exact rfl; omega))
      | (apply cw_cond_true; exact rfl; (first | exact rfl | assumption))
      | (apply cw_cond_false; exact rfl; (first | exact rfl | assumption))
      | apply cw_skip
      | apply cw_ret
      | apply cw_block
      | apply cw_exit
    refine ends [] (RVal.cellN rfl rfl rfl (RdN.own (by (repeat (first | exact Has.here | apply Has.there))) (getNK_all hR)) RVal.nil) Pick.nil ?_
    rfl
  | succ j ih =>
    intro k i hk hi M w hM a b o c s ki ii hki hii
    subst hki hii
    refine enterF (M := M) Tryd.func14 rfl rfl rfl rfl hM ?_
    have hpw := one_pow_cast (l := k)
    have h24 := pow1024 hd
    have hi2 : 2 * i + 1 < 2 ^ (k + 1) := by rw [Nat.pow_succ]; omega
    have hlt : 2 ^ k < n := by rw [hp]; exact Nat.pow_lt_pow_right (by decide) (by omega)
    rw [← hp] at h24
    have k1 := fun (w' : World) (hw' : View.le M (View.of w')) => ih (k + 1) (2 * i) (by omega) (by omega) hw' (c := c) s
    have k2 := fun (w' : World) (hw' : View.le M (View.of w')) => ih (k + 1) (2 * i + 1) (by omega) hi2 hw' (c := c) s
    have e0 : nd (at_ l) (j + 1) i = inn (nd (at_ l) j (2 * i)) (nd (at_ l) j (2 * i + 1)) := by simp only [nd]
    rw [e0]
    have k3 := fun (w' : World) => rinner_spec (View.le.refl (View.of w')) (nd (at_ l) j (2 * i)) (nd (at_ l) j (2 * i + 1))
    clear ih e0
    generalize nd (at_ l) j (2 * i) = X at *
    generalize nd (at_ l) j (2 * i + 1) = Y at *
    have hR := (inn X Y).hl
    generalize inn X Y = R at *
    generalize 2 ^ k = Q at hpw hlt hi
    clear hi2 hp
    repeat' first
      | apply cw_seq
      | (refine cw_region_id 0 ?_; (apply ol_val; exact rfl; apply s_allocK; exact zk_26; intro bk6); (apply ol_nil))
      | (refine cw_region_id 1 ?_; (apply ol_mv; exact rfl; exact rfl); (apply ol_val; exact rfl; apply stp_pur; apply s_shl64; exact rfl; exact rfl; (first | decide | omega | (simp [IntKind.bits]; omega) | (simp [IntKind.bits]; done)); omega); (apply ol_mv; exact rfl; exact rfl); (apply ol_val; exact rfl; apply stp_pur; apply s_len; exact rfl; exact el_22); (apply ol_val; exact rfl; apply stp_cmp; apply s_eql; exact rfl; exact rfl; all_goals (intro hc11; try (exfalso; (first | exact hc11 rfl | omega)))); all_goals (apply ol_nil))
      | (refine cw_region_id 2 ?_; (apply ol_mv; exact rfl; exact rfl); (apply ol_mv; exact rfl; exact rfl); (apply ol_val; exact rfl; apply stp_pur; first | (apply s_indexK; exact rfl; exact rfl; exact el_22; exact sz_26; (first | exact rfl); omega) | (apply s_indexO; exact rfl; exact rfl; exact el_22; exact sz_26; (first | exact rfl); omega)); (apply ol_ldN; exact rfl; exact rfl; exact rfl; exact sz_26; (apply RdN.own; (focus ((repeat constructor); done)); (apply getNK_all; (first | assumption | (rw [List.length_replicate]) | exact rfl)))); (apply ol_eff; apply s_storeK; exact rfl; exact rfl; exact sz_26; (focus ((repeat constructor); done)); (first | assumption | (rw [List.length_replicate]) | exact rfl); (first | assumption | (rw [List.length_replicate]) | exact rfl)); (apply ol_nil))
      | (refine cw_region_id 3 ?_; (apply ol_mv; exact rfl; exact rfl); (apply ol_mv; exact rfl; exact rfl); (apply ol_val; exact rfl; apply stp_pur; apply s_add64; exact rfl; exact rfl; omega); (apply ol_mv; exact rfl; exact rfl); (apply ol_val; exact rfl; apply stp_pur; apply s_mul64; exact rfl; exact rfl; omega); (apply ol_val; exact rfl; apply s_callv; exact rfl; exact gf_14; (intro w' hw'; (first | exact k1 w' hw'.le _ _ (by omega) (by omega) | exact k2 w' hw'.le _ _ (by omega) (by omega)))); (apply ol_mv; exact rfl; exact rfl); (apply ol_mv; exact rfl; exact rfl); (apply ol_val; exact rfl; apply stp_pur; apply s_add64; exact rfl; exact rfl; omega); (apply ol_mv; exact rfl; exact rfl); (apply ol_val; exact rfl; apply stp_pur; apply s_mul64; exact rfl; exact rfl; omega); (apply ol_val; exact rfl; apply stp_pur; apply s_add64; exact rfl; exact rfl; omega); (apply ol_val; exact rfl; apply s_callv; exact rfl; exact gf_14; (intro w' hw'; (first | exact k1 w' hw'.le _ _ (by omega) (by omega) | exact k2 w' hw'.le _ _ (by omega) (by omega)))); (apply ol_val; exact rfl; apply s_callv; exact rfl; exact gf_24; (intro w' hw'; exact k3 w')); (apply ol_eff; apply s_storeK; exact rfl; exact rfl; exact sz_26; (focus ((repeat constructor); done)); (first | assumption | (rw [List.length_replicate]) | exact rfl); (first | assumption | (rw [List.length_replicate]) | exact rfl)); (apply ol_nil))
      | (apply cw_cond_true; exact rfl; (first | exact rfl | assumption))
      | (apply cw_cond_false; exact rfl; (first | exact rfl | assumption))
      | apply cw_skip
      | apply cw_ret
      | apply cw_block
      | apply cw_exit
    refine ends [] (RVal.cellN rfl rfl rfl (RdN.own (by (repeat (first | exact Has.here | apply Has.there))) (getNK_all hR)) RVal.nil) Pick.nil ?_
    rfl
end Go.Proofs.YtckohecddaacnaaDoor
