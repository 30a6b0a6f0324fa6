/-
  The walk of the reference's path.
-/
import Derived.Test.YtckohecddaacnaaDoorT4
namespace Go.Proofs.YtckohecddaacnaaDoor
set_option maxRecDepth 20000
set_option linter.unusedSimpArgs false
set_option linter.unusedVariables false
open Go Go.Fw
theorem sib_lt {i k : Nat} (h : i < 2 ^ (k + 1)) : sib i < 2 ^ (k + 1) := by
  unfold sib
  rw [Nat.pow_succ] at *
  split <;> omega
theorem pth_succ (f : Nat → HS) (j k i : Nat) : pth f j (k + 1) i = nd f j (sib i) :: pth f (j + 1) k (i / 2) := rfl
/-- A path that is handed back. -/
def PathR (i : Nat) (L : List HS) (v : Value) (new : List OB) : Prop :=
  ∃ r cap sp, v = .agg [.int .i64 i, .slice (base r none) L.length cap].toArray ∧ new = [⟨r, flat HS.enc L ++ sp, 26⟩] ∧ (r = none → L = []) ∧ L.length ≤ cap
structure PSt where
  k : Nat
  i : Nat
  j : Nat
  out : List HS
  r : Option Nat
  cp : Nat
  sp : List Value
structure PInv (f : Nat → HS) (d m : Nat) (L0 : List HS) (s : PSt) : Prop where
  path : s.out ++ pth f s.j s.k s.i = L0
  dep : s.k + s.j = d
  idx : s.i < 2 ^ s.k
  len : s.out.length + s.k = m
  so : SO s.r s.out.length s.cp (flat HS.enc s.out) s.sp 32
end Go.Proofs.YtckohecddaacnaaDoor
namespace Go.Proofs.YtckohecddaacnaaDoor
set_option maxRecDepth 20000
set_option linter.unusedSimpArgs false
set_option linter.unusedVariables false
open Go Go.Fw
attribute [local irreducible] CW OL OD FX Stp FnC Ret sha strOf be8 nd inn at_ pth fol sib
set_option maxHeartbeats 800000

theorem rpath_spec {M : View} {w : World} (hM : View.le M (View.of w)) {l : List HS} {n c d : Nat} (hn : l.length = n) (hd : d ≤ 10) (hp : n = 2 ^ d) {a : Option Addr} {b o : Nat} (s : SlA M HS.enc 32 a l b o) {j k i : Nat} (hjk : k + j = d) (hi : i < 2 ^ k) :
    FnC Tryd.prog 16 [.slice a n c, .int .i64 k, .int .i64 i] w (PathR i (pth (at_ l) j k i)) := by
  refine enterF (M := M) Tryd.func16 rfl rfl rfl rfl hM ?_
  have hlen := pth_length (at_ l) j k i
  generalize hL0 : pth (at_ l) j k i = L0 at *
  have hk10 : k ≤ 10 := by omega
  refine cw_none 26 ?_
  repeat' first
    | apply cw_seq
    | (refine cw_region_id 0 ?_; (apply ol_val; exact rfl; apply s_alloc; exact zb_32; (focus ((repeat constructor); done)); intro bk6); (apply ol_nil))
    | (refine cw_region_id 1 ?_; (apply ol_mv; exact rfl; exact rfl); (apply ol_val; exact rfl; apply stp_pur; apply s_buildS; exact rfl; exact fs_32; exact zb_32; (focus ((repeat (first | exact rfl | constructor)); done))); (apply ol_val; exact rfl; apply s_alloc; exact zb_32; (focus ((repeat constructor); done)); intro bk7); (apply ol_eff; apply s_storeN; exact rfl; exact rfl; exact sz_32; exact rfl; exact rfl; (focus ((repeat constructor); done)); (focus ((repeat constructor); done))); (apply ol_nil))
    | (refine cw_region_id 2 ?_; (apply ol_mv; exact rfl; exact rfl); (apply ol_mv; exact rfl; exact rfl); (apply ol_as; exact rfl; exact rfl); (apply ol_as; exact rfl; exact rfl); (apply ol_nil))
    | (apply cw_cond_true; exact rfl; (first | exact rfl | assumption))
    | (apply cw_cond_false; exact rfl; (first | exact rfl | assumption))
    | apply cw_skip
    | apply cw_ret
    | apply cw_block
    | apply cw_exit
  refine cw_loopK (σ := PSt) [0, 6, 7] (by (repeat (first | exact Keep.nil | (apply Keep.cons; exact rfl)))) (fun s => [(8, .int .i64 s.k), (9, .int .i64 s.i)]) (fun _ => M) (fun s => [⟨some bk7, [.int .i64 i, .slice (base s.r none) s.out.length s.cp], 32⟩, ⟨some bk6, [.int .i64 0, .slice none 0 0], 32⟩, ⟨s.r, flat HS.enc s.out ++ s.sp, 26⟩]) (PInv (at_ l) d k L0) (fun s => s.k) ⟨k, i, j, [], none, 0, []⟩ (by (repeat (first | exact trivial | refine And.intro rfl ?_))) (View.le.refl _) (by (repeat (first | exact Pick.nil | (apply Pick.cons; (focus ((repeat (first | exact Spl.here | apply Spl.there)); done))) | exact Pick.refl))) ⟨by simpa using hL0, hjk, hi, by simp, SO.nil 32⟩ ?_
  clear hL0 hi hjk
  rintro ⟨k, i, j, out, r, cp, sp⟩ ⟨ip, idp, ii, il, iso⟩
  dsimp only at ip idp ii il iso
  dsimp only
  by_cases hk : 0 < k
  · obtain ⟨k, rfl⟩ : ∃ k', k = k' + 1 := ⟨k - 1, by omega⟩
    rw [pth_succ] at ip
    have hi24 : i < 1024 := Nat.lt_of_lt_of_le ii (pow1024 (by omega))
    have k1 := fun (w' : World) => sib_spec w' (i := i) (by omega)
    have k2 := fun (w' : World) (hw' : View.le M (View.of w')) => rnode_spec (w := w') hn hd hp j (k + 1) (sib i) idp (sib_lt ii) hw' (c := c) s ((k + 1 : Nat) : Int) (sib i : Nat) rfl rfl
    generalize sib i = si at *
    generalize nd (at_ l) j si = X at *
    repeat' first
      | apply cw_seq
      | (refine cw_region_id 3 ?_; (apply ol_mv; exact rfl; exact rfl); (apply ol_val; exact rfl; apply stp_cmp; apply s_gtr; exact rfl; exact rfl; all_goals (intro hc15; try (exfalso; (first | exact hc15 rfl | omega)))); all_goals (apply ol_nil))
      | (refine cw_draw (id := 5) 8 (.mv 0 (.mv 1 (.mv 2 (.mv 3 (.mv 4 (.fx 5 (.fx 6 (.fx 7 (PT.nil))))))))) mixed (by kernel_rfl) ?_; (apply od_mv; exact rfl; exact rfl; apply s_fieldAddr'; exact rfl; exact fd_32_1; (first | exact Nat.zero_add _ | exact Nat.add_zero _ | exact rfl)); (apply od_mv; exact rfl; exact rfl; apply s_load1; exact rfl; exact rfl; (apply RdN.own; (focus ((repeat constructor); done)); exact GetN.cons rfl GetN.nil)); (apply od_mv; exact rfl; exact rfl; apply s_move; exact rfl); (apply od_mv; exact rfl; exact rfl; apply s_move; exact rfl); (apply od_mv; exact rfl; exact rfl; apply s_move; exact rfl); (apply od_fx; (first | exact Wk.refl _ _ | (focus (apply Wk.mk; exact View.le.refl _; (repeat constructor); done))); (apply fx_val; exact rfl; exact rfl; apply s_callv; exact rfl; exact gf_27; (intro w' hw'; exact k1 w'))); (apply od_fx; (first | exact Wk.refl _ _ | (focus (apply Wk.mk; exact View.le.refl _; (repeat constructor); done))); (apply fx_val; exact rfl; exact rfl; apply s_callv; exact rfl; exact gf_14; (intro w' hw'; exact k2 w' hw'.le))); (apply od_fx; (first | exact Wk.refl _ _ | (focus (apply Wk.mk; exact View.le.refl _; (repeat constructor); done))); (apply fx_val; exact rfl; exact rfl; apply s_buildSl1; exact rfl; exact el_22; exact sz_26; exact zb_26; (focus ((repeat constructor); done)); exact rfl; exact rfl; (exact Nat.le_of_ble_eq_true rfl); (first | exact rfl | assumption | exact HS.enc_length _); intro bk27)); (apply od_nil; (first | exact Wk.refl _ _ | (focus (apply Wk.mk; exact View.le.refl _; (repeat constructor); done)))); (apply ol_val; exact rfl; first | (apply s_append_e; exact rfl; exact rfl; (focus ((repeat constructor); done)); exact el_22; exact sz_26; exact zb_26; exact rfl; exact by_26; (first | exact (fun _ => rfl)); (first | (apply RdN.own; (focus ((repeat constructor); done)); (focus ((repeat (first | exact rfl | constructor)); done))) | (apply RdN.own; (repeat (first | exact Has.here | apply Has.there)); exact getNK_all X.hl)); (first | exact rfl | exact flatK_ones); (first | omega | (simp; omega) | (simp; done)); (first | omega | (simp; omega) | (simp; done)); intro rk28 sk28 ck28 ok28) | (apply s_append_r; exact rfl; exact rfl; (focus ((repeat constructor); done)); (first | exact rfl | exact (List.append_nil _).symm); exact el_22; exact sz_26; exact zb_26; exact rfl; exact by_26; (first | exact SO.nil _ | assumption | (exact ⟨by simp, by simp, Nat.le_refl _, by simp⟩)); (first | exact (fun _ => rfl)); (first | (apply RdN.own; (focus ((repeat constructor); done)); (focus ((repeat (first | exact rfl | constructor)); done))) | (apply RdN.own; (repeat (first | exact Has.here | apply Has.there)); exact getNK_all X.hl)); (first | exact rfl | exact flatK_ones); (first | omega | (simp; omega) | (simp; done)); (first | omega | (simp; omega) | (simp; done)); intro rk28 sk28 ck28 ok28) | (apply s_append_b; exact rfl; exact rfl; (focus ((repeat constructor); done)); (first | exact rfl | exact (List.append_nil _).symm); exact el_22; exact sz_26; exact zb_26; exact rfl; exact by_26; (first | exact SO.nil _ | assumption | (exact ⟨by simp, by simp, Nat.le_refl _, by simp⟩)); (first | exact (fun _ => rfl)); (first | (apply RdN.own; (focus ((repeat constructor); done)); (focus ((repeat (first | exact rfl | constructor)); done))) | (apply RdN.own; (repeat (first | exact Has.here | apply Has.there)); exact getNK_all X.hl)); (first | exact rfl | exact flatK_ones); (first | omega | (simp; omega) | (simp; done)); (first | omega | (simp; omega) | (simp; done)); intro rk28 sk28 ck28 ok28) | (apply s_append_n; exact rfl; exact rfl; (focus ((repeat constructor); done)); exact el_22; exact sz_26; exact zb_26; exact rfl; exact by_26; (first | exact (fun _ => rfl)); (first | (apply RdN.own; (focus ((repeat constructor); done)); (focus ((repeat (first | exact rfl | constructor)); done))) | (apply RdN.own; (repeat (first | exact Has.here | apply Has.there)); exact getNK_all X.hl)); (first | exact rfl | exact flatK_ones); (first | omega | (simp; omega) | (simp; done)); (first | omega | (simp; omega) | (simp; done)); intro rk28 sk28 ck28 ok28)); (apply ol_fa; exact rfl; exact rfl; exact fd_32_1; (first | exact Nat.zero_add _ | exact Nat.add_zero _ | exact rfl)); (apply ol_eff; apply s_store1; exact rfl; exact rfl; exact sz_22; exact rfl; (focus ((repeat constructor); done)); (first | (focus ((repeat constructor); done)) | (apply setAt_ints_app; (first | omega | (simp; omega) | (simp; done))) | (apply setAt_ints; (first | omega | (simp; omega) | (simp; done))) | (apply SetAt.set; (first | omega | (simp; omega) | (simp; done))))); (apply ol_nil))
      | (refine cw_region_id 4 ?_; (apply ol_mv; exact rfl; exact rfl); (apply ol_val; exact rfl; apply stp_pur; apply s_sub64; exact rfl; exact rfl; omega); (apply ol_mv; exact rfl; exact rfl); (apply ol_val; exact rfl; apply stp_pur; first | (apply s_quo64; exact rfl; exact rfl; omega) | (apply s_quoT; exact rfl; exact rfl; omega)); (apply ol_as; exact rfl; exact rfl); (apply ol_as; exact rfl; exact rfl); (apply ol_nil))
      | (refine cw_region_id 6 ?_; (apply ol_ldN; exact rfl; exact rfl; exact rfl; exact sz_32; (apply RdN.own; (focus ((repeat constructor); done)); (focus ((repeat (first | exact rfl | constructor)); done)))); (apply ol_eff; apply s_storeN; exact rfl; exact rfl; exact sz_32; exact rfl; exact rfl; (focus ((repeat constructor); done)); (focus ((repeat constructor); done))); (apply ol_nil))
      | (apply cw_cond_true; exact rfl; (first | exact rfl | assumption))
      | (apply cw_cond_false; exact rfl; (first | exact rfl | assumption))
      | apply cw_skip
      | apply cw_ret
      | apply cw_block
      | apply cw_exit
    refine ⟨⟨k, i / 2, j + 1, out ++ [X], rk28, ck28, sk28⟩, ⟨?_, View.le.refl _, ?_, ⟨by dsimp only; rw [List.append_assoc]; exact ip, by dsimp only; omega, by dsimp only; rw [Nat.pow_succ] at ii; omega, by dsimp only; rw [List.length_append, List.length_singleton]; omega, ?_⟩, by dsimp only; omega⟩⟩
    · dsimp only
      rw [show ((i / 2 : Nat) : Int) = (i : Int) / 2 by omega, show ((k : Nat) : Int) = ((k + 1 : Nat) : Int) - 1 by omega]
      (repeat (first | exact trivial | refine And.intro rfl ?_))
    · dsimp only
      rw [flat_append, List.length_append, List.length_singleton, flat_one]
      (repeat (first | exact Pick.nil | (apply Pick.cons; (focus ((repeat (first | exact Spl.here | apply Spl.there)); done))) | exact Pick.refl))
    · dsimp only
      rw [flat_append, List.length_append, List.length_singleton, flat_one]
      exact ok28
  · have : k = 0 := by omega
    subst this
    have hl : out = L0 := by rw [← ip]; simp [pth]
    subst hl
    repeat' first
      | apply cw_seq
      | (refine cw_region_id 3 ?_; (apply ol_mv; exact rfl; exact rfl); (apply ol_val; exact rfl; apply stp_cmp; apply s_gtr; exact rfl; exact rfl; all_goals (intro hc15; try (exfalso; (first | exact hc15 rfl | omega)))); all_goals (apply ol_nil))
      | (refine cw_draw (id := 5) 8 (.mv 0 (.mv 1 (.mv 2 (.mv 3 (.mv 4 (.fx 5 (.fx 6 (.fx 7 (PT.nil))))))))) mixed (by kernel_rfl) ?_; (apply od_mv; exact rfl; exact rfl; apply s_fieldAddr'; exact rfl; exact fd_32_1; (first | exact Nat.zero_add _ | exact Nat.add_zero _ | exact rfl)); (apply od_mv; exact rfl; exact rfl; apply s_load1; exact rfl; exact rfl; (apply RdN.own; (focus ((repeat constructor); done)); exact GetN.cons rfl GetN.nil)); (apply od_mv; exact rfl; exact rfl; apply s_move; exact rfl); (apply od_mv; exact rfl; exact rfl; apply s_move; exact rfl); (apply od_mv; exact rfl; exact rfl; apply s_move; exact rfl))
      | (refine cw_region_id 4 ?_; (apply ol_mv; exact rfl; exact rfl); (apply ol_val; exact rfl; apply stp_pur; apply s_sub64; exact rfl; exact rfl; omega); (apply ol_mv; exact rfl; exact rfl); (apply ol_val; exact rfl; apply stp_pur; first | (apply s_quo64; exact rfl; exact rfl; omega) | (apply s_quoT; exact rfl; exact rfl; omega)); (apply ol_as; exact rfl; exact rfl); (apply ol_as; exact rfl; exact rfl); (apply ol_nil))
      | (refine cw_region_id 6 ?_; (apply ol_ldN; exact rfl; exact rfl; exact rfl; exact sz_32; (apply RdN.own; (focus ((repeat constructor); done)); (focus ((repeat (first | exact rfl | constructor)); done)))); (apply ol_eff; apply s_storeN; exact rfl; exact rfl; exact sz_32; exact rfl; exact rfl; (focus ((repeat constructor); done)); (focus ((repeat constructor); done))); (apply ol_nil))
      | (apply cw_cond_true; exact rfl; (first | exact rfl | assumption))
      | (apply cw_cond_false; exact rfl; (first | exact rfl | assumption))
      | apply cw_skip
      | apply cw_ret
      | apply cw_block
      | apply cw_exit
    refine ends [⟨r, flat HS.enc out ++ sp, 26⟩] (RVal.cellN rfl rfl rfl (RdN.own (by (repeat (first | exact Has.here | apply Has.there))) (GetN.cons rfl (GetN.cons rfl GetN.nil))) RVal.nil) (by (repeat (first | exact Pick.nil | (apply Pick.cons; (focus ((repeat (first | exact Spl.here | apply Spl.there)); done))) | exact Pick.refl))) ?_
    exact ⟨r, cp, sp, rfl, rfl, fun h => iso.emp h, iso.hle⟩
end Go.Proofs.YtckohecddaacnaaDoor
