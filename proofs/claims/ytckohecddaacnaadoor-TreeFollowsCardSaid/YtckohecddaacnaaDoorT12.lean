/-
  The walk of paths.
-/
import Derived.Test.YtckohecddaacnaaDoorT11
import Derived.Test.YtckohecddaacnaaDoorT5
import Derived.Test.YtckohecddaacnaaDoorFw19
namespace Go.Proofs.YtckohecddaacnaaDoor
set_option maxRecDepth 20000
set_option linter.unusedSimpArgs false
set_option linter.unusedVariables false
open Go Go.Fw
theorem xor_one : ∀ i : Nat, i < 1024 → (i ^^^ 1 = sib i ∧ sib i < 1024) := by
  unfold sib
  decide +kernel
theorem xor_sib {i : Nat} (h : i < 1024) : Go.bits .xor .i64 (i : Int) 1 = ((sib i : Nat) : Int) := by
  obtain ⟨e1, e2⟩ := xor_one i h
  have e : Go.bits .xor .i64 (i : Int) 1 = IntKind.i64.wrap (((BitVec.ofInt 64 (i : Int) ^^^ BitVec.ofInt 64 ((1 : Nat) : Int)) : BitVec 64).toNat : Int) := rfl
  rw [e, BitVec.toNat_xor, BitVec.ofInt_natCast, BitVec.ofInt_natCast, BitVec.toNat_ofNat, BitVec.toNat_ofNat, Nat.mod_eq_of_lt (by omega), Nat.mod_eq_of_lt (by omega), e1]
  exact wrap_i64 (by omega)
def TPathR (i : Nat) (L : List HS) (v : Value) (new : List OB) : Prop := ∃ u, v = .tuple #[u, .int .i64 0] ∧ PathR i L u new
end Go.Proofs.YtckohecddaacnaaDoor
namespace Go.Proofs.YtckohecddaacnaaDoor
set_option maxRecDepth 20000
set_option linter.unusedSimpArgs false
set_option linter.unusedVariables false
open Go Go.Fw
attribute [local irreducible] CW OL OD FX Stp FnC Ret CWM CR FnV sha strOf be8 nd inn at_ pth fol sib rowN
set_option maxHeartbeats 800000

theorem path_no (w : World) {n : Nat} (hn : noTree n) (a : Option Addr) (c : Nat) (lv ix : Int) :
    FnC Tryd.prog 12 [.slice a n c, .int .i64 lv, .int .i64 ix] w (fun v _ => v = .tuple #[.agg #[.int .i64 0, .slice none 0 0], .int .i64 1]) := by
  refine enterF (M := View.of w) Tryd.func12 rfl rfl rfl rfl (View.le.refl _) ?_
  repeat' first
    | apply cw_seq
    | (refine cw_region_id 0 ?_; (apply ol_val; exact rfl; apply s_alloc; exact zb_32; (focus ((repeat constructor); done)); intro bk6); (apply ol_as; exact rfl; exact rfl); (apply ol_nil))
    | (refine cw_region_id 1 ?_; (apply ol_mv; exact rfl; exact rfl); (apply ol_mv; exact rfl; exact rfl); (apply ol_mv; exact rfl; exact rfl); (apply ol_val; exact rfl; apply s_callv; exact rfl; exact gf_25; (intro w' hw'; exact open_no w' hn a c lv ix)); (apply ol_mv; exact rfl; exact rfl); (apply ol_ex; exact rfl; exact rfl; exact rfl); (apply ol_ex; exact rfl; exact rfl; exact rfl); (apply ol_as; exact rfl; exact rfl); (apply ol_as; exact rfl; exact rfl); (apply ol_nil))
    | (refine cw_region_id 2 ?_; (apply ol_mv; exact rfl; exact rfl); (apply ol_val; exact rfl; apply stp_cmp; apply s_neq; exact rfl; exact rfl; all_goals (intro hc22; try (exfalso; (first | exact hc22 rfl | omega)))); all_goals (apply ol_nil))
    | (refine cw_region_id 3 ?_; (apply ol_val; exact rfl; apply stp_pur; apply s_buildS; exact rfl; exact fs_32; exact zb_32; (focus ((repeat (first | exact rfl | constructor)); done))); (apply ol_mv; exact rfl; exact rfl); (apply ol_eff; apply s_storeN; exact rfl; exact rfl; exact sz_32; exact rfl; exact rfl; (focus ((repeat constructor); done)); (focus ((repeat constructor); done))); (apply ol_as; exact rfl; exact rfl); (apply ol_nil))
    | (refine cw_region_id 4 ?_; (apply ol_mv; exact rfl; exact rfl); (apply ol_val; exact rfl; apply stp_pur; apply s_buildS; exact rfl; exact fs_32; exact zb_32; (focus ((repeat (first | exact rfl | constructor)); done))); (apply ol_val; exact rfl; apply s_alloc; exact zb_32; (focus ((repeat constructor); done)); intro bk10); (apply ol_eff; apply s_storeN; exact rfl; exact rfl; exact sz_32; exact rfl; exact rfl; (focus ((repeat constructor); done)); (focus ((repeat constructor); done))); (apply ol_nil))
    | (refine cw_region_id 5 ?_; (apply ol_val; exact rfl; apply stp_pur; apply s_makeFunc; exact rfl; exact rfl); (apply ol_as; exact rfl; exact rfl); (apply ol_nil))
    | (refine cw_region_id 6 ?_; (apply ol_mv; exact rfl; exact rfl); (apply ol_mv; exact rfl; exact rfl); (apply ol_as; exact rfl; exact rfl); (apply ol_as; exact rfl; exact rfl); (apply ol_nil))
    | (apply cw_cond_true; exact rfl; (first | exact rfl | assumption))
    | (apply cw_cond_false; exact rfl; (first | exact rfl | assumption))
    | apply cw_skip
    | apply cw_ret
    | apply cw_block
    | apply cw_exit
  refine ends [] (RVal.cellN rfl rfl rfl (RdN.own (by (repeat (first | exact Has.here | apply Has.there))) (GetN.cons rfl (GetN.cons rfl GetN.nil))) (RVal.tmp rfl RVal.nil)) Pick.nil ?_
  rfl

theorem path_range (w : World) {n d : Nat} (hd : d ≤ 10) (hp : n = 2 ^ d) (a : Option Addr) (c : Nat) {lv ix : Int} (hpl : ¬ placeP d lv ix) :
    FnC Tryd.prog 12 [.slice a n c, .int .i64 lv, .int .i64 ix] w (fun v _ => v = .tuple #[.agg #[.int .i64 0, .slice none 0 0], .int .i64 2]) := by
  refine enterF (M := View.of w) Tryd.func12 rfl rfl rfl rfl (View.le.refl _) ?_
  have hno := fun (w' : World) => open_range w' hd hp a c hpl
  repeat' first
    | apply cw_seq
    | (refine cw_region_id 0 ?_; (apply ol_val; exact rfl; apply s_alloc; exact zb_32; (focus ((repeat constructor); done)); intro bk6); (apply ol_as; exact rfl; exact rfl); (apply ol_nil))
    | (refine cw_region_id 1 ?_; (apply ol_mv; exact rfl; exact rfl); (apply ol_mv; exact rfl; exact rfl); (apply ol_mv; exact rfl; exact rfl); (apply ol_val; exact rfl; apply s_callv; exact rfl; exact gf_25; (intro w' hw'; exact hno w')); (apply ol_mv; exact rfl; exact rfl); (apply ol_ex; exact rfl; exact rfl; exact rfl); (apply ol_ex; exact rfl; exact rfl; exact rfl); (apply ol_as; exact rfl; exact rfl); (apply ol_as; exact rfl; exact rfl); (apply ol_nil))
    | (refine cw_region_id 2 ?_; (apply ol_mv; exact rfl; exact rfl); (apply ol_val; exact rfl; apply stp_cmp; apply s_neq; exact rfl; exact rfl; all_goals (intro hc22; try (exfalso; (first | exact hc22 rfl | omega)))); all_goals (apply ol_nil))
    | (refine cw_region_id 3 ?_; (apply ol_val; exact rfl; apply stp_pur; apply s_buildS; exact rfl; exact fs_32; exact zb_32; (focus ((repeat (first | exact rfl | constructor)); done))); (apply ol_mv; exact rfl; exact rfl); (apply ol_eff; apply s_storeN; exact rfl; exact rfl; exact sz_32; exact rfl; exact rfl; (focus ((repeat constructor); done)); (focus ((repeat constructor); done))); (apply ol_as; exact rfl; exact rfl); (apply ol_nil))
    | (refine cw_region_id 4 ?_; (apply ol_mv; exact rfl; exact rfl); (apply ol_val; exact rfl; apply stp_pur; apply s_buildS; exact rfl; exact fs_32; exact zb_32; (focus ((repeat (first | exact rfl | constructor)); done))); (apply ol_val; exact rfl; apply s_alloc; exact zb_32; (focus ((repeat constructor); done)); intro bk10); (apply ol_eff; apply s_storeN; exact rfl; exact rfl; exact sz_32; exact rfl; exact rfl; (focus ((repeat constructor); done)); (focus ((repeat constructor); done))); (apply ol_nil))
    | (refine cw_region_id 5 ?_; (apply ol_val; exact rfl; apply stp_pur; apply s_makeFunc; exact rfl; exact rfl); (apply ol_as; exact rfl; exact rfl); (apply ol_nil))
    | (refine cw_region_id 6 ?_; (apply ol_mv; exact rfl; exact rfl); (apply ol_mv; exact rfl; exact rfl); (apply ol_as; exact rfl; exact rfl); (apply ol_as; exact rfl; exact rfl); (apply ol_nil))
    | (apply cw_cond_true; exact rfl; (first | exact rfl | assumption))
    | (apply cw_cond_false; exact rfl; (first | exact rfl | assumption))
    | apply cw_skip
    | apply cw_ret
    | apply cw_block
    | apply cw_exit
  refine ends [] (RVal.cellN rfl rfl rfl (RdN.own (by (repeat (first | exact Has.here | apply Has.there))) (GetN.cons rfl (GetN.cons rfl GetN.nil))) (RVal.tmp rfl RVal.nil)) Pick.nil ?_
  rfl

theorem path_spec {M : View} {w : World} (hM : View.le M (View.of w)) (hL : Laid M) {l : List HS} {n c d : Nat} (hn : l.length = n) (hd : d ≤ 10) (hp : n = 2 ^ d) {a : Option Addr} {b o : Nat} (s : SlA M HS.enc 32 a l b o) (hnc : n ≤ c) {k i : Nat} (hk : k ≤ d) (hi : i < 2 ^ k) :
    FnC Tryd.prog 12 [.slice a n c, .int .i64 k, .int .i64 i] w (TPathR i (pth (at_ l) (d - k) k i)) := by
  refine enterF (M := M) Tryd.func12 rfl rfl rfl rfl hM ?_
  have hop := fun (w' : World) (hw' : View.le M (View.of w')) => open_spec hw' hL hn hd hp s hnc hk hi
  clear s hp hn
  have hlen := pth_length (at_ l) (d - k) k i
  generalize hL0 : pth (at_ l) (d - k) k i = L0 at *
  generalize at_ l = f at *
  repeat' first
    | apply cw_seq
    | (refine cw_region_id 0 ?_; (apply ol_val; exact rfl; apply s_alloc; exact zb_32; (focus ((repeat constructor); done)); intro bk6); (apply ol_as; exact rfl; exact rfl); (apply ol_nil))
    | (refine cw_region_id 1 ?_; (apply ol_mv; exact rfl; exact rfl); (apply ol_mv; exact rfl; exact rfl); (apply ol_mv; exact rfl; exact rfl); (apply ol_val; exact rfl; (apply s_callV; exact rfl; exact gf_25; (intro w' hw'; exact hop w' hw'.le); (intro v F new M' hor hMM hFM hFf; obtain ⟨rb, cap, cells, rfl, rfl, hrows⟩ := hor.out hMM hFM))); all_goals (apply ol_mv; exact rfl; exact rfl); all_goals (apply ol_ex; exact rfl; exact rfl; exact rfl); all_goals (apply ol_ex; exact rfl; exact rfl; exact rfl); all_goals (apply ol_as; exact rfl; exact rfl); all_goals (apply ol_as; exact rfl; exact rfl); all_goals (apply ol_nil))
    | (refine cw_region_id 2 ?_; (apply ol_mv; exact rfl; exact rfl); (apply ol_val; exact rfl; apply stp_cmp; apply s_neq; exact rfl; exact rfl; all_goals (intro hc22; try (exfalso; (first | exact hc22 rfl | omega)))); all_goals (apply ol_nil))
    | (refine cw_region_id 3 ?_; (apply ol_val; exact rfl; apply stp_pur; apply s_buildS; exact rfl; exact fs_32; exact zb_32; (focus ((repeat (first | exact rfl | constructor)); done))); (apply ol_mv; exact rfl; exact rfl); (apply ol_eff; apply s_storeN; exact rfl; exact rfl; exact sz_32; exact rfl; exact rfl; (focus ((repeat constructor); done)); (focus ((repeat constructor); done))); (apply ol_as; exact rfl; exact rfl); (apply ol_nil))
    | (refine cw_region_id 4 ?_; (apply ol_mv; exact rfl; exact rfl); (apply ol_val; exact rfl; apply stp_pur; apply s_buildS; exact rfl; exact fs_32; exact zb_32; (focus ((repeat (first | exact rfl | constructor)); done))); (apply ol_val; exact rfl; apply s_alloc; exact zb_32; (focus ((repeat constructor); done)); intro bk10); (apply ol_eff; apply s_storeN; exact rfl; exact rfl; exact sz_32; exact rfl; exact rfl; (focus ((repeat constructor); done)); (focus ((repeat constructor); done))); (apply ol_nil))
    | (refine cw_region_id 5 ?_; (apply ol_val; exact rfl; apply stp_pur; apply s_makeFunc; exact rfl; exact rfl); (apply ol_as; exact rfl; exact rfl); (apply ol_nil))
    | (refine cw_region_id 6 ?_; (apply ol_mv; exact rfl; exact rfl); (apply ol_mv; exact rfl; exact rfl); (apply ol_as; exact rfl; exact rfl); (apply ol_as; exact rfl; exact rfl); (apply ol_nil))
    | (apply cw_cond_true; exact rfl; (first | exact rfl | assumption))
    | (apply cw_cond_false; exact rfl; (first | exact rfl | assumption))
    | apply cw_skip
    | apply cw_ret
    | apply cw_block
    | apply cw_exit
  clear hor
  refine cw_none 26 ?_
  refine cw_loopK (σ := PSt) [6, 8, 10, 11] (by (repeat (first | exact Keep.nil | (apply Keep.cons; exact rfl)))) (fun s => [(12, .int .i64 s.k), (13, .int .i64 s.i)]) (fun _ => M') (fun s => [⟨some bk10, [.int .i64 i, .slice (base s.r none) s.out.length s.cp], 32⟩, ⟨some bk6, [.int .i64 0, .slice none 0 0], 32⟩, ⟨some rb, cells, 22⟩, ⟨s.r, flat HS.enc s.out ++ s.sp, 26⟩]) (PInv f d k L0) (fun s => s.k) ⟨k, i, d - k, [], none, 0, []⟩ (by (repeat (first | exact trivial | refine And.intro rfl ?_))) (View.le.refl _) (by (repeat (first | exact Pick.nil | (apply Pick.cons; (focus ((repeat (first | exact Spl.here | apply Spl.there)); done))) | exact Pick.refl))) ⟨by simpa using hL0, by dsimp only; omega, hi, by simp, SO.nil 32⟩ ?_
  clear hL0
  have hk10 : k ≤ 10 := by omega
  rintro ⟨k', i', j, out, r, cp, sp⟩ ⟨ip, idp, ii, il, iso⟩
  dsimp only at ip idp ii il iso
  dsimp only
  by_cases hk : 0 < k'
  · obtain ⟨k', rfl⟩ : ∃ k1, k' = k1 + 1 := ⟨k' - 1, by omega⟩
    rw [pth_succ] at ip
    have hi24 : i' < 1024 := Nat.lt_of_lt_of_le ii (pow1024 (by omega))
    have hxor := xor_sib hi24
    have hsl := sib_lt ii
    obtain ⟨cb, co, cc, hg1, hg2⟩ := hrows (k' + 1) (by omega)
    have hg3 := fun {off : Nat} (e : off = co + sib i' * 32) => hg2 (sib i') hsl e
    rw [show d - (k' + 1) = j by omega] at hg3
    clear hg2 hrows
    generalize hXe : nd f j (sib i') = X at *
    generalize sib i' = si at *
    generalize hQ : 2 ^ (k' + 1) = Q at *
    repeat' first
      | apply cw_seq
      | (refine cw_region_id 7 ?_; (apply ol_mv; exact rfl; exact rfl); (apply ol_val; exact rfl; apply stp_cmp; apply s_gtr; exact rfl; exact rfl; all_goals (intro hc31; try (exfalso; (first | exact hc31 rfl | omega)))); all_goals (apply ol_nil))
      | (refine cw_region_id 9 ?_; (apply ol_mv; exact rfl; exact rfl); (apply ol_mv; exact rfl; exact rfl); (apply ol_mv; exact rfl; exact rfl); (apply ol_val; exact rfl; apply stp_pur; first | (apply s_indexK; exact rfl; exact rfl; exact el_53; exact sz_22; (first | exact rfl); omega) | (apply s_indexO; exact rfl; exact rfl; exact el_53; exact sz_22; (first | exact rfl); omega)); (apply ol_ld; exact rfl; exact rfl; exact rfl; (apply RdN.own; (focus ((repeat constructor); done)); exact GetN.cons rfl GetN.nil)); (apply ol_mv; exact rfl; exact rfl); (apply ol_val; exact rfl; apply stp_pur; apply s_xor; exact rfl; exact rfl); (apply ol_val; exact rfl; apply stp_pur; first | (apply s_indexK; exact rfl; exact rfl; exact el_22; exact sz_26; (first | exact rfl); omega) | (apply s_indexO; exact rfl; exact rfl; exact el_22; exact sz_26; (first | exact rfl); omega)); (apply ol_ldN; exact rfl; exact rfl; exact rfl; exact sz_26; (apply RdN.own; (focus ((repeat constructor); done)); (apply getNK_all; (first | assumption | (rw [List.length_replicate]))))); (apply ol_val; exact rfl; fail); all_goals (apply ol_nil))
      | (refine cw_region_id 8 ?_; (apply ol_mv; exact rfl; exact rfl); (apply ol_val; exact rfl; apply stp_pur; apply s_sub64; exact rfl; exact rfl; omega); (apply ol_mv; exact rfl; exact rfl); (apply ol_val; exact rfl; apply stp_pur; first | (apply s_quo64; exact rfl; exact rfl; omega) | (apply s_quoT; exact rfl; exact rfl; omega)); (apply ol_as; exact rfl; exact rfl); (apply ol_as; exact rfl; exact rfl); (apply ol_nil))
      | (refine cw_region_id 10 ?_; (apply ol_ldN; exact rfl; exact rfl; exact rfl; exact sz_32; (apply RdN.own; (focus ((repeat constructor); done)); (focus ((repeat (first | exact rfl | constructor)); done)))); (apply ol_eff; apply s_storeN; exact rfl; exact rfl; exact sz_32; exact rfl; exact rfl; (focus ((repeat constructor); done)); (focus ((repeat constructor); done))); (apply ol_as; exact rfl; exact rfl); (apply ol_nil))
      | (apply cw_cond_true; exact rfl; (first | exact rfl | assumption))
      | (apply cw_cond_false; exact rfl; (first | exact rfl | assumption))
      | apply cw_skip
      | apply cw_ret
      | apply cw_block
      | apply cw_exit
    refine cw_region_id 9 ?_
    (apply ol_mv; exact rfl; exact rfl); (apply ol_mv; exact rfl; exact rfl); (apply ol_mv; exact rfl; exact rfl); (apply ol_val; exact rfl; apply stp_pur; first | (apply s_indexK; exact rfl; exact rfl; exact el_53; exact sz_22; (first | exact rfl); omega) | (apply s_indexO; exact rfl; exact rfl; exact el_53; exact sz_22; (first | exact rfl); omega)); (apply ol_ld; exact rfl; exact rfl; exact rfl; (first | (apply RdN.own; (focus ((repeat constructor); done)); exact GetN.cons rfl GetN.nil) | (apply RdN.own; (repeat (first | exact Has.here | apply Has.there)); exact hg1 (by omega)) | (apply RdN.view; exact hg3 (by omega)))); (apply ol_mv; exact rfl; exact rfl); (apply ol_val; exact rfl; apply stp_pur; apply s_xor; exact rfl; exact rfl); (apply ol_val; exact rfl; apply stp_pur; first | (apply s_indexK; exact rfl; exact rfl; exact el_22; exact sz_26; (first | exact rfl); omega) | (apply s_indexO; exact rfl; exact rfl; exact el_22; exact sz_26; (first | exact rfl); omega)); (apply ol_ldN; exact rfl; exact rfl; exact rfl; exact sz_26; (first | (apply RdN.own; (focus ((repeat constructor); done)); (apply getNK_all; (first | assumption | (rw [List.length_replicate])))) | (apply RdN.own; (repeat (first | exact Has.here | apply Has.there)); exact hg1 (by omega)) | (apply RdN.view; exact hg3 (by omega))))
    apply ol_val; exact rfl
    refine s_inlineC (fs := []) (cs := [.pointer (some ⟨bk10, 0, none⟩)]) rfl rfl (by kernel_rfl) Tryd.func26 rfl rfl rfl rfl ?_
    have hR := X.hl
    repeat' first
      | apply cw_seq
      | (refine cw_region_id 0 ?_; (apply ol_val; exact rfl; first | (apply s_boxN; exact rfl; intro bk2) | (apply s_box1; exact rfl; exact rfl; intro bk2)); (apply ol_nil))
      | (refine cw_region_id 1 ?_; (apply ol_fa; exact rfl; exact rfl; exact fd_32_1; (first | exact Nat.zero_add _ | exact Nat.add_zero _ | exact rfl)); (apply ol_ld; exact rfl; exact rfl; exact rfl; (first | (apply RdN.own; (focus ((repeat constructor); done)); exact GetN.cons rfl GetN.nil) | (apply RdN.own; (repeat (first | exact Has.here | apply Has.there)); exact getNK_all hR))); (apply ol_ldN; exact rfl; exact rfl; exact rfl; exact sz_26; (first | (apply RdN.own; (focus ((repeat constructor); done)); (apply getNK_all; (first | assumption | (rw [List.length_replicate]) | exact HS.enc_length _))) | (apply RdN.own; (repeat (first | exact Has.here | apply Has.there)); exact getNK_all hR))); (apply ol_val; exact rfl; apply s_buildSl1; exact rfl; exact el_22; exact sz_26; exact zb_26; (focus ((repeat constructor); done)); exact rfl; exact rfl; (exact Nat.le_of_ble_eq_true rfl); (first | exact rfl | assumption | exact HS.enc_length _); intro bk6); (apply ol_val; exact rfl; first | (apply s_append_e; exact rfl; exact rfl; (focus ((repeat constructor); done)); exact el_22; exact sz_26; exact zb_26; exact rfl; exact by_26; (first | exact (fun _ => rfl)); (first | (apply RdN.own; (focus ((repeat constructor); done)); (focus ((repeat (first | exact rfl | constructor)); done))) | (apply RdN.own; (repeat (first | exact Has.here | apply Has.there)); exact getNK_all hR)); (first | exact rfl | exact flatK_ones); (first | omega | (simp; omega) | (simp; done)); (first | omega | (simp; omega) | (simp; done)); intro rk7 sk7 ck7 ok7) | (apply s_append_r; exact rfl; exact rfl; (focus ((repeat constructor); done)); (first | exact rfl | exact (List.append_nil _).symm); exact el_22; exact sz_26; exact zb_26; exact rfl; exact by_26; (first | exact SO.nil _ | assumption | (exact ⟨by simp, by simp, Nat.le_refl _, by simp⟩)); (first | exact (fun _ => rfl)); (first | (apply RdN.own; (focus ((repeat constructor); done)); (focus ((repeat (first | exact rfl | constructor)); done))) | (apply RdN.own; (repeat (first | exact Has.here | apply Has.there)); exact getNK_all hR)); (first | exact rfl | exact flatK_ones); (first | omega | (simp; omega) | (simp; done)); (first | omega | (simp; omega) | (simp; done)); intro rk7 sk7 ck7 ok7) | (apply s_append_b; exact rfl; exact rfl; (focus ((repeat constructor); done)); (first | exact rfl | exact (List.append_nil _).symm); exact el_22; exact sz_26; exact zb_26; exact rfl; exact by_26; (first | exact SO.nil _ | assumption | (exact ⟨by simp, by simp, Nat.le_refl _, by simp⟩)); (first | exact (fun _ => rfl)); (first | (apply RdN.own; (focus ((repeat constructor); done)); (focus ((repeat (first | exact rfl | constructor)); done))) | (apply RdN.own; (repeat (first | exact Has.here | apply Has.there)); exact getNK_all hR)); (first | exact rfl | exact flatK_ones); (first | omega | (simp; omega) | (simp; done)); (first | omega | (simp; omega) | (simp; done)); intro rk7 sk7 ck7 ok7) | (apply s_append_n; exact rfl; exact rfl; (focus ((repeat constructor); done)); exact el_22; exact sz_26; exact zb_26; exact rfl; exact by_26; (first | exact (fun _ => rfl)); (first | (apply RdN.own; (focus ((repeat constructor); done)); (focus ((repeat (first | exact rfl | constructor)); done))) | (apply RdN.own; (repeat (first | exact Has.here | apply Has.there)); exact getNK_all hR)); (first | exact rfl | exact flatK_ones); (first | omega | (simp; omega) | (simp; done)); (first | omega | (simp; omega) | (simp; done)); intro rk7 sk7 ck7 ok7)); (apply ol_fa; exact rfl; exact rfl; exact fd_32_1; (first | exact Nat.zero_add _ | exact Nat.add_zero _ | exact rfl)); (apply ol_eff; apply s_store1; exact rfl; exact rfl; exact sz_22; exact rfl; (focus ((repeat constructor); done)); (first | (focus ((repeat constructor); done)) | (apply setAt_ints_app; (first | omega | (simp; omega) | (simp; done))) | (apply setAt_ints; (first | omega | (simp; omega) | (simp; done))) | (apply SetAt.set; (first | omega | (simp; omega) | (simp; done))))); (apply ol_nil))
      | (apply cw_cond_true; exact rfl; (first | exact rfl | assumption))
      | (apply cw_cond_false; exact rfl; (first | exact rfl | assumption))
      | apply cw_skip
      | apply cw_ret
      | apply cw_block
      | apply cw_exit
    refine endI RVal.nil Pick.refl ?_
    apply ol_nil
    repeat' first
      | apply cw_seq
      | (refine cw_region_id 7 ?_; (apply ol_mv; exact rfl; exact rfl); (apply ol_val; exact rfl; apply stp_cmp; apply s_gtr; exact rfl; exact rfl; all_goals (intro hc31; try (exfalso; (first | exact hc31 rfl | omega)))); all_goals (apply ol_nil))
      | (refine cw_region_id 9 ?_; (apply ol_mv; exact rfl; exact rfl); (apply ol_mv; exact rfl; exact rfl); (apply ol_mv; exact rfl; exact rfl); (apply ol_val; exact rfl; apply stp_pur; first | (apply s_indexK; exact rfl; exact rfl; exact el_53; exact sz_22; (first | exact rfl); omega) | (apply s_indexO; exact rfl; exact rfl; exact el_53; exact sz_22; (first | exact rfl); omega)); (apply ol_ld; exact rfl; exact rfl; exact rfl; (apply RdN.own; (focus ((repeat constructor); done)); exact GetN.cons rfl GetN.nil)); (apply ol_mv; exact rfl; exact rfl); (apply ol_val; exact rfl; apply stp_pur; apply s_xor; exact rfl; exact rfl); (apply ol_val; exact rfl; apply stp_pur; first | (apply s_indexK; exact rfl; exact rfl; exact el_22; exact sz_26; (first | exact rfl); omega) | (apply s_indexO; exact rfl; exact rfl; exact el_22; exact sz_26; (first | exact rfl); omega)); (apply ol_ldN; exact rfl; exact rfl; exact rfl; exact sz_26; (apply RdN.own; (focus ((repeat constructor); done)); (apply getNK_all; (first | assumption | (rw [List.length_replicate]))))); (apply ol_val; exact rfl; fail); all_goals (apply ol_nil))
      | (refine cw_region_id 8 ?_; (apply ol_mv; exact rfl; exact rfl); (apply ol_val; exact rfl; apply stp_pur; apply s_sub64; exact rfl; exact rfl; omega); (apply ol_mv; exact rfl; exact rfl); (apply ol_val; exact rfl; apply stp_pur; first | (apply s_quo64; exact rfl; exact rfl; omega) | (apply s_quoT; exact rfl; exact rfl; omega)); (apply ol_as; exact rfl; exact rfl); (apply ol_as; exact rfl; exact rfl); (apply ol_nil))
      | (refine cw_region_id 10 ?_; (apply ol_ldN; exact rfl; exact rfl; exact rfl; exact sz_32; (apply RdN.own; (focus ((repeat constructor); done)); (focus ((repeat (first | exact rfl | constructor)); done)))); (apply ol_eff; apply s_storeN; exact rfl; exact rfl; exact sz_32; exact rfl; exact rfl; (focus ((repeat constructor); done)); (focus ((repeat constructor); done))); (apply ol_as; exact rfl; exact rfl); (apply ol_nil))
      | (apply cw_cond_true; exact rfl; (first | exact rfl | assumption))
      | (apply cw_cond_false; exact rfl; (first | exact rfl | assumption))
      | apply cw_skip
      | apply cw_ret
      | apply cw_block
      | apply cw_exit
    refine ⟨⟨k', i' / 2, j + 1, out ++ [X], rk7, ck7, sk7⟩, ⟨?_, View.le.refl _, ?_, ⟨by dsimp only; rw [List.append_assoc]; exact ip, by dsimp only; omega, by dsimp only; rw [← hQ, Nat.pow_succ] at ii; omega, by dsimp only; rw [List.length_append, List.length_singleton]; omega, ?_⟩, by dsimp only; omega⟩⟩
    · dsimp only
      rw [show ((i' / 2 : Nat) : Int) = (i' : Int) / 2 by omega, show ((k' : Nat) : Int) = ((k' + 1 : Nat) : Int) - 1 by omega]
      (repeat (first | exact trivial | refine And.intro rfl ?_))
    · dsimp only
      rw [flat_append, List.length_append, List.length_singleton, flat_one]
      (repeat (first | exact Pick.nil | (apply Pick.cons; (focus ((repeat (first | exact Spl.here | apply Spl.there)); done))) | exact Pick.refl))
    · dsimp only
      rw [flat_append, List.length_append, List.length_singleton, flat_one]
      exact ok7
  · have : k' = 0 := by omega
    subst this
    have hl : out = L0 := by rw [← ip]; simp [pth]
    subst hl
    repeat' first
      | apply cw_seq
      | (refine cw_region_id 7 ?_; (apply ol_mv; exact rfl; exact rfl); (apply ol_val; exact rfl; apply stp_cmp; apply s_gtr; exact rfl; exact rfl; all_goals (intro hc31; try (exfalso; (first | exact hc31 rfl | omega)))); all_goals (apply ol_nil))
      | (refine cw_region_id 9 ?_; (apply ol_mv; exact rfl; exact rfl); (apply ol_mv; exact rfl; exact rfl); (apply ol_mv; exact rfl; exact rfl); (apply ol_val; exact rfl; apply stp_pur; first | (apply s_indexK; exact rfl; exact rfl; exact el_53; exact sz_22; (first | exact rfl); omega) | (apply s_indexO; exact rfl; exact rfl; exact el_53; exact sz_22; (first | exact rfl); omega)); (apply ol_ld; exact rfl; exact rfl; exact rfl; (apply RdN.own; (focus ((repeat constructor); done)); exact GetN.cons rfl GetN.nil)); (apply ol_mv; exact rfl; exact rfl); (apply ol_val; exact rfl; apply stp_pur; apply s_xor; exact rfl; exact rfl); (apply ol_val; exact rfl; apply stp_pur; first | (apply s_indexK; exact rfl; exact rfl; exact el_22; exact sz_26; (first | exact rfl); omega) | (apply s_indexO; exact rfl; exact rfl; exact el_22; exact sz_26; (first | exact rfl); omega)); (apply ol_ldN; exact rfl; exact rfl; exact rfl; exact sz_26; (apply RdN.own; (focus ((repeat constructor); done)); (apply getNK_all; (first | assumption | (rw [List.length_replicate]))))))
      | (refine cw_region_id 8 ?_; (apply ol_mv; exact rfl; exact rfl); (apply ol_val; exact rfl; apply stp_pur; apply s_sub64; exact rfl; exact rfl; omega); (apply ol_mv; exact rfl; exact rfl); (apply ol_val; exact rfl; apply stp_pur; first | (apply s_quo64; exact rfl; exact rfl; omega) | (apply s_quoT; exact rfl; exact rfl; omega)); (apply ol_as; exact rfl; exact rfl); (apply ol_as; exact rfl; exact rfl); (apply ol_nil))
      | (refine cw_region_id 10 ?_; (apply ol_ldN; exact rfl; exact rfl; exact rfl; exact sz_32; (apply RdN.own; (focus ((repeat constructor); done)); (focus ((repeat (first | exact rfl | constructor)); done)))); (apply ol_eff; apply s_storeN; exact rfl; exact rfl; exact sz_32; exact rfl; exact rfl; (focus ((repeat constructor); done)); (focus ((repeat constructor); done))); (apply ol_as; exact rfl; exact rfl); (apply ol_nil))
      | (apply cw_cond_true; exact rfl; (first | exact rfl | assumption))
      | (apply cw_cond_false; exact rfl; (first | exact rfl | assumption))
      | apply cw_skip
      | apply cw_ret
      | apply cw_block
      | apply cw_exit
    refine ends [⟨r, flat HS.enc out ++ sp, 26⟩] (RVal.cellN rfl rfl rfl (RdN.own (by (repeat (first | exact Has.here | apply Has.there))) (GetN.cons rfl (GetN.cons rfl GetN.nil))) (RVal.tmp rfl RVal.nil)) (by (repeat (first | exact Pick.nil | (apply Pick.cons; (focus ((repeat (first | exact Spl.here | apply Spl.there)); done))) | exact Pick.refl))) ?_
    exact ⟨_, rfl, r, cp, sp, rfl, rfl, fun h => iso.emp h, iso.hle⟩
end Go.Proofs.YtckohecddaacnaaDoor
