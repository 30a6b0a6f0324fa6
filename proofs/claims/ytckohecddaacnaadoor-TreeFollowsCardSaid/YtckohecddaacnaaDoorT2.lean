/-
  The walks of the digests of nodes and of leaves.
-/
import Derived.Test.YtckohecddaacnaaDoorT1
namespace Go.Proofs.YtckohecddaacnaaDoor
set_option maxRecDepth 20000
set_option linter.unusedSimpArgs false
set_option linter.unusedVariables false
open Go Go.Fw
attribute [local irreducible] CW OL OD FX Stp FnC Ret sha strOf be8
set_option maxHeartbeats 800000
theorem concatGrow_spec {w : World} {n : Nat} (hn : n ≤ 1073741824) :
    FnC Tryd.prog 39 [.slice none 0 0, .int .i64 (n : Nat)] w (fun v new => ∃ r cap sp, v = .slice (base r none) 0 cap ∧ new = [⟨r, sp, 5⟩] ∧ SO r 0 cap [] sp 1) := by
  refine enterF (M := View.of w) Tryd.func39 rfl rfl rfl rfl (View.le.refl _) ?_
  refine cw_none 5 ?_
  by_cases h0 : n = 0
  · subst h0
    repeat' first
      | apply cw_seq
      | (refine cw_region_id 0 ?_; (apply ol_as; exact rfl; exact rfl); (apply ol_nil))
      | (refine cw_region_id 1 ?_; (apply ol_mv; exact rfl; exact rfl); (apply ol_val; exact rfl; apply stp_cmp; apply s_lss; exact rfl; exact rfl; all_goals (intro hc6; try (exfalso; (first | exact hc6 rfl | omega)))); all_goals (apply ol_nil))
      | (refine cw_region_id 2 ?_)
      | (refine cw_region_id 3 ?_; (apply ol_mv; exact rfl; exact rfl); (apply ol_mv; exact rfl; exact rfl); (apply ol_val; exact rfl; apply stp_pur; apply s_cap; exact rfl; exact el_46); (apply ol_mv; exact rfl; exact rfl); (apply ol_val; exact rfl; apply stp_pur; apply s_len; exact rfl; exact el_46); (apply ol_val; exact rfl; apply stp_pur; apply s_sub64; exact rfl; exact rfl; omega); (apply ol_val; exact rfl; apply stp_pur; apply s_sub64; exact rfl; exact rfl; omega); (apply ol_as; exact rfl; exact rfl); (apply ol_nil))
      | (refine cw_region_id 4 ?_; (apply ol_mv; exact rfl; exact rfl); (apply ol_val; exact rfl; apply stp_cmp; apply s_gtr; exact rfl; exact rfl; all_goals (intro hc16; try (exfalso; (first | exact hc16 rfl | omega)))); all_goals (apply ol_nil))
      | (refine cw_region_id 5 ?_; (apply ol_mv; exact rfl; exact rfl); (apply ol_mv; exact rfl; exact rfl); (apply ol_val; exact rfl; apply stp_pur; apply s_cap; exact rfl; exact el_46); (apply ol_val; exact rfl; apply stp_pur; apply s_slice; exact rfl; exact el_46; exact sz_5; exact rfl; exact Exists.intro _ rfl; exact rfl; (intro h; first | exact rfl | cases h); (first | omega | (simp; omega) | (simp; done)); (first | omega | (simp; omega) | (simp; done)); (first | omega | (simp; omega) | (simp; done))); (apply ol_mv; exact rfl; exact rfl); (apply ol_val; exact rfl; apply s_appendZ; exact rfl; exact rfl; (focus ((repeat constructor); done)); exact el_46; exact ti_3; exact sz_5; exact zb_5; exact rfl; exact by_5; exact rfl; omega; omega; omega; intro bk22 sk22 ck22 zk22 lk22); (apply ol_mv; exact rfl; exact rfl); (apply ol_val; exact rfl; apply stp_pur; apply s_len; exact rfl; exact el_46); (apply ol_val; exact rfl; apply stp_pur; apply s_slice; exact rfl; exact el_46; exact sz_5; exact rfl; exact Exists.intro _ rfl; exact rfl; (intro h; first | exact rfl | cases h); (first | omega | (simp; omega) | (simp; done)); (first | omega | (simp; omega) | (simp; done)); (first | omega | (simp; omega) | (simp; done))); (apply ol_as; exact rfl; exact rfl); (apply ol_nil))
      | (refine cw_region_id 6 ?_; (apply ol_mv; exact rfl; exact rfl); (apply ol_as; exact rfl; exact rfl); (apply ol_nil))
      | (apply cw_cond_true; exact rfl; (first | exact rfl | assumption))
      | (apply cw_cond_false; exact rfl; (first | exact rfl | assumption))
      | apply cw_skip
      | apply cw_ret
      | apply cw_block
      | apply cw_exit
    refine ends [⟨none, [], 5⟩] (RVal.tmp rfl RVal.nil) (by (repeat (first | exact Pick.nil | (apply Pick.cons; (focus ((repeat (first | exact Spl.here | apply Spl.there)); done))) | exact Pick.refl))) ?_
    exact ⟨none, 0, [], rfl, rfl, SO.nil 1⟩
  ·
    repeat' first
      | apply cw_seq
      | (refine cw_region_id 0 ?_; (apply ol_as; exact rfl; exact rfl); (apply ol_nil))
      | (refine cw_region_id 1 ?_; (apply ol_mv; exact rfl; exact rfl); (apply ol_val; exact rfl; apply stp_cmp; apply s_lss; exact rfl; exact rfl; all_goals (intro hc6; try (exfalso; (first | exact hc6 rfl | omega)))); all_goals (apply ol_nil))
      | (refine cw_region_id 2 ?_)
      | (refine cw_region_id 3 ?_; (apply ol_mv; exact rfl; exact rfl); (apply ol_mv; exact rfl; exact rfl); (apply ol_val; exact rfl; apply stp_pur; apply s_cap; exact rfl; exact el_46); (apply ol_mv; exact rfl; exact rfl); (apply ol_val; exact rfl; apply stp_pur; apply s_len; exact rfl; exact el_46); (apply ol_val; exact rfl; apply stp_pur; apply s_sub64; exact rfl; exact rfl; omega); (apply ol_val; exact rfl; apply stp_pur; apply s_sub64; exact rfl; exact rfl; omega); (apply ol_as; exact rfl; exact rfl); (apply ol_nil))
      | (refine cw_region_id 4 ?_; (apply ol_mv; exact rfl; exact rfl); (apply ol_val; exact rfl; apply stp_cmp; apply s_gtr; exact rfl; exact rfl; all_goals (intro hc16; try (exfalso; (first | exact hc16 rfl | omega)))); all_goals (apply ol_nil))
      | (refine cw_region_id 5 ?_; (apply ol_mv; exact rfl; exact rfl); (apply ol_mv; exact rfl; exact rfl); (apply ol_val; exact rfl; apply stp_pur; apply s_cap; exact rfl; exact el_46); (apply ol_val; exact rfl; apply stp_pur; apply s_slice; exact rfl; exact el_46; exact sz_5; exact rfl; exact Exists.intro _ rfl; exact rfl; (intro h; first | exact rfl | cases h); (first | omega | (simp; omega) | (simp; done)); (first | omega | (simp; omega) | (simp; done)); (first | omega | (simp; omega) | (simp; done))); (apply ol_mv; exact rfl; exact rfl); (apply ol_val; exact rfl; apply s_appendZ (m := n); exact rfl; (refine congrArg some (congrArg (Value.int .i64) ?_); omega); (focus ((repeat constructor); done)); exact el_46; exact ti_3; exact sz_5; exact zb_5; exact rfl; exact by_5; exact rfl; omega; omega; omega; intro bk22 sk22 ck22 zk22 lk22); (apply ol_mv; exact rfl; exact rfl); (apply ol_val; exact rfl; apply stp_pur; apply s_len; exact rfl; exact el_46); (apply ol_val; exact rfl; apply stp_pur; apply s_slice; exact rfl; exact el_46; exact sz_5; exact rfl; exact Exists.intro _ rfl; exact rfl; (intro h; first | exact rfl | cases h); (first | omega | (simp; omega) | (simp; done)); (first | omega | (simp; omega) | (simp; done)); (first | omega | (simp; omega) | (simp; done))); (apply ol_as; exact rfl; exact rfl); (apply ol_nil))
      | (refine cw_region_id 6 ?_; (apply ol_mv; exact rfl; exact rfl); (apply ol_as; exact rfl; exact rfl); (apply ol_nil))
      | (apply cw_cond_true; exact rfl; (first | exact rfl | assumption))
      | (apply cw_cond_false; exact rfl; (first | exact rfl | assumption))
      | apply cw_skip
      | apply cw_ret
      | apply cw_block
      | apply cw_exit
    refine ends [⟨some bk22, sk22, 5⟩] (RVal.tmp rfl RVal.nil) (by (repeat (first | exact Pick.nil | (apply Pick.cons; (focus ((repeat (first | exact Spl.here | apply Spl.there)); done))) | exact Pick.refl))) ?_
    refine ⟨some bk22, ck22, sk22, ?_, rfl, ⟨by simp, by simpa using lk22, by omega, by simp⟩⟩
    simp [tup, slicedA_zero, base]

structure concatSt where
  k : Nat
  r : Option Nat
  A : Option Addr
  c : Nat
  sp : List Value

theorem concat_spec {M : View} {w : World} (hM : View.le M (View.of w)) {L : List (Sl Int)} {n : Nat} (hn : L.length = n) {A : Option Addr} {b o c : Nat} (s : SlA M Sl.enc 1 A L b o) (hs : ∀ x ∈ L, SlA M (eK .u8) 1 x.a x.xs x.b x.o) (hl : catLen L ≤ 1073741824) (hL : L.length ≤ 1073741824) :
    FnC Tryd.prog 32 [.slice A n c] w (RowRes (eK .u8) 1 5 (catAll L)) := by
  subst hn
  refine enterF (M := M) Tryd.func32 rfl rfl rfl rfl hM ?_
  repeat' first
    | apply cw_seq
    | (refine cw_region_id 0 ?_; (apply ol_as; exact rfl; exact rfl); (apply ol_nil))
    | (refine cw_region_id 1 ?_; (apply ol_as; exact rfl; exact rfl); (apply ol_nil))
    | (refine cw_region_id 2 ?_; (apply ol_mv; exact rfl; exact rfl); (apply ol_val; exact rfl; apply stp_pur; apply s_len; exact rfl; exact el_67); (apply ol_mv; exact rfl; exact rfl); (apply ol_nil))
    | (apply cw_cond_true; exact rfl; (first | exact rfl | assumption))
    | (apply cw_cond_false; exact rfl; (first | exact rfl | assumption))
    | apply cw_skip
    | apply cw_ret
    | apply cw_block
    | apply cw_exit
  refine cw_loopK (σ := Nat) [0, 9, 10] (by (repeat (first | exact Keep.nil | (apply Keep.cons; exact rfl)))) (fun k => [(3, .int .i64 (catLen (L.take k))), (11, .int .i64 k)]) (fun _ => M) (fun _ => []) (fun k => k ≤ L.length) (fun k => L.length - k) 0 (by (repeat (first | exact trivial | refine And.intro rfl ?_))) (View.le.refl _) (by (repeat (first | exact Pick.nil | (apply Pick.cons; (focus ((repeat (first | exact Spl.here | apply Spl.there)); done))) | exact Pick.refl))) (by omega) ?_
  intro k hk
  have hc := catLen_take L k
  by_cases hk' : k < L.length
  · have hc' := catLen_take L (k + 1)
    have hst : catLen (L.take (k + 1)) = catLen (L.take k) + L[k].xs.length := by rw [List.take_succ_eq_append_getElem hk', catLen_snoc]
    repeat' first
      | apply cw_seq
      | (refine cw_region_id 3 ?_; (apply ol_val; exact rfl; apply stp_cmp; apply s_lss; exact rfl; exact rfl; all_goals (intro hc12; try (exfalso; (first | exact hc12 rfl | omega)))); all_goals (apply ol_nil))
      | (refine cw_region_id 4 ?_; (apply ol_val; exact rfl; apply stp_pur; first | (apply s_indexK; exact rfl; exact rfl; exact el_67; exact sz_46; (first | exact rfl | exact s.at_ (by omega)); omega) | (apply s_indexO; exact rfl; exact rfl; exact el_67; exact sz_46; (first | exact rfl | exact s.at_ (by omega)); omega)); (apply ol_ld; exact rfl; exact rfl; exact rfl; (first | (apply RdN.own; (focus ((repeat constructor); done)); exact GetN.cons rfl GetN.nil) | (apply RdN.view; exact s.cells k hk'))); (apply ol_as; exact rfl; exact rfl); (apply ol_nil))
      | (refine cw_region_id 5 ?_; (apply ol_mv; exact rfl; exact rfl); (apply ol_mv; exact rfl; exact rfl); (apply ol_val; exact rfl; apply stp_pur; apply s_len; exact rfl; exact el_46); (apply ol_val; exact rfl; apply stp_pur; apply s_add64; exact rfl; exact rfl; omega); (apply ol_as; exact rfl; exact rfl); (apply ol_nil))
      | (refine cw_region_id 6 ?_; (apply ol_mv; exact rfl; exact rfl); (apply ol_val; exact rfl; apply stp_cmp; apply s_lss; exact rfl; exact rfl; all_goals (intro hc20; try (exfalso; (first | exact hc20 rfl | omega)))); all_goals (apply ol_nil))
      | (refine cw_region_id 7 ?_)
      | (refine cw_region_id 8 ?_; (apply ol_val; exact rfl; apply stp_pur; apply s_add64; exact rfl; exact rfl; omega); (apply ol_mv; exact rfl; exact rfl); (apply ol_nil))
      | (refine cw_region_id 9 ?_; (apply ol_mv; exact rfl; exact rfl))
      | (refine cw_region_id 10 ?_; (apply ol_mv; exact rfl; exact rfl); (apply ol_val; exact rfl; apply stp_pur; apply s_len; exact rfl; exact el_67); (apply ol_mv; exact rfl; exact rfl); (apply ol_nil))
      | (apply cw_cond_true; exact rfl; (first | exact rfl | assumption))
      | (apply cw_cond_false; exact rfl; (first | exact rfl | assumption))
      | apply cw_skip
      | apply cw_ret
      | apply cw_block
      | apply cw_exit
    refine ⟨k + 1, ⟨?_, View.le.refl _, by (repeat (first | exact Pick.nil | (apply Pick.cons; (focus ((repeat (first | exact Spl.here | apply Spl.there)); done))) | exact Pick.refl)), hk', by omega⟩⟩
    rw [hst]
    (repeat (first | exact trivial | refine And.intro rfl ?_))
  · have : k = L.length := by omega
    subst this
    rw [List.take_length]
    repeat' first
      | apply cw_seq
      | (refine cw_region_id 3 ?_; (apply ol_val; exact rfl; apply stp_cmp; apply s_lss; exact rfl; exact rfl; all_goals (intro hc12; try (exfalso; (first | exact hc12 rfl | omega)))); all_goals (apply ol_nil))
      | (refine cw_region_id 4 ?_; (apply ol_val; exact rfl; apply stp_pur; first | (apply s_indexK; exact rfl; exact rfl; exact el_67; exact sz_46; (first | exact rfl); omega) | (apply s_indexO; exact rfl; exact rfl; exact el_67; exact sz_46; (first | exact rfl); omega)); (apply ol_ld; exact rfl; exact rfl; exact rfl; (apply RdN.own; (focus ((repeat constructor); done)); exact GetN.cons rfl GetN.nil)); (apply ol_as; exact rfl; exact rfl); (apply ol_nil))
      | (refine cw_region_id 5 ?_; (apply ol_mv; exact rfl; exact rfl); (apply ol_mv; exact rfl; exact rfl); (apply ol_val; exact rfl; apply stp_pur; apply s_len; exact rfl; exact el_46); (apply ol_val; exact rfl; apply stp_pur; apply s_add64; exact rfl; exact rfl; omega); (apply ol_as; exact rfl; exact rfl); (apply ol_nil))
      | (refine cw_region_id 6 ?_; (apply ol_mv; exact rfl; exact rfl); (apply ol_val; exact rfl; apply stp_cmp; apply s_lss; exact rfl; exact rfl; all_goals (intro hc20; try (exfalso; (first | exact hc20 rfl | omega)))); all_goals (apply ol_nil))
      | (refine cw_region_id 7 ?_)
      | (refine cw_region_id 8 ?_; (apply ol_val; exact rfl; apply stp_pur; apply s_add64; exact rfl; exact rfl; omega); (apply ol_mv; exact rfl; exact rfl); (apply ol_nil))
      | (refine cw_region_id 9 ?_; (apply ol_mv; exact rfl; exact rfl); (apply ol_val; exact rfl; apply s_call; exact rfl; exact gf_39; (intro w' hw'; exact concatGrow_spec hl); ((intro v new h; obtain ⟨r, cap, sp, rfl, rfl, so⟩ := h))); (apply ol_as; exact rfl; exact rfl); (apply ol_nil))
      | (refine cw_region_id 10 ?_; (apply ol_mv; exact rfl; exact rfl); (apply ol_val; exact rfl; apply stp_pur; apply s_len; exact rfl; exact el_67); (apply ol_mv; exact rfl; exact rfl); (apply ol_nil))
      | (apply cw_cond_true; exact rfl; (first | exact rfl | assumption))
      | (apply cw_cond_false; exact rfl; (first | exact rfl | assumption))
      | apply cw_skip
      | apply cw_ret
      | apply cw_block
      | apply cw_exit
    refine cw_loopK (σ := concatSt) [25, 26] (by (repeat (first | exact Keep.nil | (apply Keep.cons; exact rfl)))) (fun s => [(6, .slice (base s.r s.A) (catLen (L.take s.k)) s.c), (27, .int .i64 s.k)]) (fun _ => M) (fun s => [⟨s.r, flat (eK .u8) (catAll (L.take s.k)) ++ s.sp, 5⟩]) (fun s => s.k ≤ L.length ∧ SO s.r (catLen (L.take s.k)) s.c (flat (eK .u8) (catAll (L.take s.k))) s.sp 1) (fun s => L.length - s.k) ⟨0, r, none, cap, sp⟩ (by (repeat (first | exact trivial | refine And.intro rfl ?_))) (View.le.refl _) (by (repeat (first | exact Pick.nil | (apply Pick.cons; (focus ((repeat (first | exact Spl.here | apply Spl.there)); done))) | exact Pick.refl))) ⟨by dsimp only; omega, so⟩ ?_
    rintro ⟨k, r, A', c', sp⟩ ⟨hk, so⟩
    dsimp only at hk so
    dsimp only
    have hc := catLen_take L k
    by_cases hk' : k < L.length
    · have hc' := catLen_take L (k + 1)
      have hst : catLen (L.take (k + 1)) = catLen (L.take k) + L[k].xs.length := by rw [List.take_succ_eq_append_getElem hk', catLen_snoc]
      have hst2 : catAll (L.take (k + 1)) = catAll (L.take k) ++ L[k].xs := by rw [List.take_succ_eq_append_getElem hk', catAll_snoc]
      have sx := hs L[k] (List.getElem_mem _)
      have hset := s.cells k hk'
      generalize L[k] = x at *
      repeat' first
        | apply cw_seq
        | (refine cw_region_id 11 ?_; (apply ol_val; exact rfl; apply stp_cmp; apply s_lss; exact rfl; exact rfl; all_goals (intro hc28; try (exfalso; (first | exact hc28 rfl | omega)))); all_goals (apply ol_nil))
        | (refine cw_region_id 12 ?_; (apply ol_val; exact rfl; apply stp_pur; first | (apply s_indexK; exact rfl; exact rfl; exact el_67; exact sz_46; (first | exact rfl | exact s.at_ (by omega) | exact sx.at_ (by omega)); omega) | (apply s_indexO; exact rfl; exact rfl; exact el_67; exact sz_46; (first | exact rfl | exact s.at_ (by omega) | exact sx.at_ (by omega)); omega)); (apply ol_ld; exact rfl; exact rfl; exact rfl; (first | (apply RdN.own; (focus ((repeat constructor); done)); exact GetN.cons rfl GetN.nil) | (apply RdN.view; exact hset))); (apply ol_as; exact rfl; exact rfl); (apply ol_nil))
        | (refine cw_region_id 13 ?_; (apply ol_mv; exact rfl; exact rfl); (apply ol_mv; exact rfl; exact rfl); (apply ol_val; exact rfl; first | (apply s_append_e; exact rfl; exact rfl; (focus ((repeat constructor); done)); exact el_46; exact sz_5; exact zb_5; exact rfl; exact by_5; (first | exact (fun _ => rfl) | (intro _; exact s.at_ (by omega)) | (intro _; exact sx.at_ (by omega))); (first | (apply RdN.own; (focus ((repeat constructor); done)); (focus ((repeat (first | exact rfl | constructor)); done))) | (apply RdN.view; exact SlA.all (eK_length .u8) sx)); (first | exact rfl | exact ones_flat (eK_ones .u8) _); (first | omega | (simp; omega) | (simp; done)); (first | omega | (simp; omega) | (simp; done)); intro rk33 sk33 ck33 ok33) | (apply s_append_r; exact rfl; exact rfl; (focus ((repeat constructor); done)); (first | exact rfl | exact (List.append_nil _).symm); exact el_46; exact sz_5; exact zb_5; exact rfl; exact by_5; (first | exact SO.nil _ | assumption | (exact ⟨by simp, by simp, Nat.le_refl _, by simp⟩)); (first | exact (fun _ => rfl) | (intro _; exact s.at_ (by omega)) | (intro _; exact sx.at_ (by omega))); (first | (apply RdN.own; (focus ((repeat constructor); done)); (focus ((repeat (first | exact rfl | constructor)); done))) | (apply RdN.view; exact SlA.all (eK_length .u8) sx)); (first | exact rfl | exact ones_flat (eK_ones .u8) _); (first | omega | (simp; omega) | (simp; done)); (first | omega | (simp; omega) | (simp; done)); intro rk33 sk33 ck33 ok33) | (apply s_append_b; exact rfl; exact rfl; (focus ((repeat constructor); done)); (first | exact rfl | exact (List.append_nil _).symm); exact el_46; exact sz_5; exact zb_5; exact rfl; exact by_5; (first | exact SO.nil _ | assumption | (exact ⟨by simp, by simp, Nat.le_refl _, by simp⟩)); (first | exact (fun _ => rfl) | (intro _; exact s.at_ (by omega)) | (intro _; exact sx.at_ (by omega))); (first | (apply RdN.own; (focus ((repeat constructor); done)); (focus ((repeat (first | exact rfl | constructor)); done))) | (apply RdN.view; exact SlA.all (eK_length .u8) sx)); (first | exact rfl | exact ones_flat (eK_ones .u8) _); (first | omega | (simp; omega) | (simp; done)); (first | omega | (simp; omega) | (simp; done)); intro rk33 sk33 ck33 ok33) | (apply s_append_n; exact rfl; exact rfl; (focus ((repeat constructor); done)); exact el_46; exact sz_5; exact zb_5; exact rfl; exact by_5; (first | exact (fun _ => rfl) | (intro _; exact s.at_ (by omega)) | (intro _; exact sx.at_ (by omega))); (first | (apply RdN.own; (focus ((repeat constructor); done)); (focus ((repeat (first | exact rfl | constructor)); done))) | (apply RdN.view; exact SlA.all (eK_length .u8) sx)); (first | exact rfl | exact ones_flat (eK_ones .u8) _); (first | omega | (simp; omega) | (simp; done)); (first | omega | (simp; omega) | (simp; done)); intro rk33 sk33 ck33 ok33)); (apply ol_as; exact rfl; exact rfl); (apply ol_nil))
        | (refine cw_region_id 14 ?_; (apply ol_val; exact rfl; apply stp_pur; apply s_add64; exact rfl; exact rfl; omega); (apply ol_mv; exact rfl; exact rfl); (apply ol_nil))
        | (refine cw_region_id 15 ?_; (apply ol_mv; exact rfl; exact rfl); (apply ol_as; exact rfl; exact rfl); (apply ol_nil))
        | (apply cw_cond_true; exact rfl; (first | exact rfl | assumption))
        | (apply cw_cond_false; exact rfl; (first | exact rfl | assumption))
        | apply cw_skip
        | apply cw_ret
        | apply cw_block
        | apply cw_exit
      refine ⟨⟨k + 1, rk33, A', ck33, sk33⟩, ⟨?_, View.le.refl _, ?_, ⟨hk', ?_⟩, by dsimp only; omega⟩⟩
      · dsimp only; rw [hst]; (repeat (first | exact trivial | refine And.intro rfl ?_))
      · dsimp only; rw [hst2, flat_append]; (repeat (first | exact Pick.nil | (apply Pick.cons; (focus ((repeat (first | exact Spl.here | apply Spl.there)); done))) | exact Pick.refl))
      · dsimp only; rw [hst, hst2, flat_append]; exact ok33
    · have : k = L.length := by omega
      subst this
      rw [List.take_length] at so ⊢
      repeat' first
        | apply cw_seq
        | (refine cw_region_id 11 ?_; (apply ol_val; exact rfl; apply stp_cmp; apply s_lss; exact rfl; exact rfl; all_goals (intro hc28; try (exfalso; (first | exact hc28 rfl | omega)))); all_goals (apply ol_nil))
        | (refine cw_region_id 12 ?_; (apply ol_val; exact rfl; apply stp_pur; first | (apply s_indexK; exact rfl; exact rfl; exact el_67; exact sz_46; (first | exact rfl); omega) | (apply s_indexO; exact rfl; exact rfl; exact el_67; exact sz_46; (first | exact rfl); omega)); (apply ol_ld; exact rfl; exact rfl; exact rfl; (apply RdN.own; (focus ((repeat constructor); done)); exact GetN.cons rfl GetN.nil)); (apply ol_as; exact rfl; exact rfl); (apply ol_nil))
        | (refine cw_region_id 13 ?_; (apply ol_mv; exact rfl; exact rfl); (apply ol_mv; exact rfl; exact rfl); (apply ol_val; exact rfl; first | (apply s_append_e; exact rfl; exact rfl; (focus ((repeat constructor); done)); exact el_46; exact sz_5; exact zb_5; exact rfl; exact by_5; (first | exact (fun _ => rfl)); (first | (apply RdN.own; (focus ((repeat constructor); done)); (focus ((repeat (first | exact rfl | constructor)); done)))); (first | exact rfl); (first | omega | (simp; omega) | (simp; done)); (first | omega | (simp; omega) | (simp; done)); intro rk33 sk33 ck33 ok33) | (apply s_append_r; exact rfl; exact rfl; (focus ((repeat constructor); done)); (first | exact rfl | exact (List.append_nil _).symm); exact el_46; exact sz_5; exact zb_5; exact rfl; exact by_5; (first | exact SO.nil _ | assumption | (exact ⟨by simp, by simp, Nat.le_refl _, by simp⟩)); (first | exact (fun _ => rfl)); (first | (apply RdN.own; (focus ((repeat constructor); done)); (focus ((repeat (first | exact rfl | constructor)); done)))); (first | exact rfl); (first | omega | (simp; omega) | (simp; done)); (first | omega | (simp; omega) | (simp; done)); intro rk33 sk33 ck33 ok33) | (apply s_append_b; exact rfl; exact rfl; (focus ((repeat constructor); done)); (first | exact rfl | exact (List.append_nil _).symm); exact el_46; exact sz_5; exact zb_5; exact rfl; exact by_5; (first | exact SO.nil _ | assumption | (exact ⟨by simp, by simp, Nat.le_refl _, by simp⟩)); (first | exact (fun _ => rfl)); (first | (apply RdN.own; (focus ((repeat constructor); done)); (focus ((repeat (first | exact rfl | constructor)); done)))); (first | exact rfl); (first | omega | (simp; omega) | (simp; done)); (first | omega | (simp; omega) | (simp; done)); intro rk33 sk33 ck33 ok33) | (apply s_append_n; exact rfl; exact rfl; (focus ((repeat constructor); done)); exact el_46; exact sz_5; exact zb_5; exact rfl; exact by_5; (first | exact (fun _ => rfl)); (first | (apply RdN.own; (focus ((repeat constructor); done)); (focus ((repeat (first | exact rfl | constructor)); done)))); (first | exact rfl); (first | omega | (simp; omega) | (simp; done)); (first | omega | (simp; omega) | (simp; done)); intro rk33 sk33 ck33 ok33)); (apply ol_as; exact rfl; exact rfl); (apply ol_nil))
        | (refine cw_region_id 14 ?_; (apply ol_val; exact rfl; apply stp_pur; apply s_add64; exact rfl; exact rfl; omega); (apply ol_mv; exact rfl; exact rfl); (apply ol_nil))
        | (refine cw_region_id 15 ?_; (apply ol_mv; exact rfl; exact rfl); (apply ol_as; exact rfl; exact rfl); (apply ol_nil))
        | (apply cw_cond_true; exact rfl; (first | exact rfl | assumption))
        | (apply cw_cond_false; exact rfl; (first | exact rfl | assumption))
        | apply cw_skip
        | apply cw_ret
        | apply cw_block
        | apply cw_exit
      refine ends [⟨r, flat (eK .u8) (catAll L) ++ sp, 5⟩] (RVal.tmp rfl RVal.nil) (by (repeat (first | exact Pick.nil | (apply Pick.cons; (focus ((repeat (first | exact Spl.here | apply Spl.there)); done))) | exact Pick.refl))) ?_
      refine ⟨r, A', c', sp, ?_, rfl, ?_⟩
      · rw [catAll_length]; rfl
      · rw [catAll_length]; exact so

abbrev nodeB : ByteArray := ⟨#[115, 112, 101, 99, 105, 101, 47, 110, 111, 100, 101]⟩
abbrev leafB : ByteArray := ⟨#[115, 112, 101, 99, 105, 101, 47, 108, 101, 97, 102]⟩
theorem nodeB_ints : intsB nodeB = nodeT := by decide +kernel
theorem leafB_ints : intsB leafB = leafT := by decide +kernel

theorem inner_spec {M : View} {w : World} (hM : View.le M (View.of w)) (hL : Laid M) (x y : HS) :
    FnC Tryd.prog 28 [.agg x.enc.toArray, .agg y.enc.toArray] w (fun v _ => v = .agg (inn x y).enc.toArray) := by
  obtain ⟨x, hx, hbx⟩ := x
  obtain ⟨y, hy, hby⟩ := y
  show FnC _ _ [.agg (flat (eK .u8) x).toArray, .agg (flat (eK .u8) y).toArray] w (fun v _ => v = .agg (flat (eK .u8) (tagd nodeT (x ++ y))).toArray)
  refine enterF (M := M) Tryd.func28 rfl rfl rfl rfl hM ?_
  have hcat : ∀ (w' : World) {q k l : Nat}, View.le M (View.of w') → OB.ok ⟨some q, [.slice (some ⟨k, 0, none⟩) 32 32, .slice (some ⟨l, 0, none⟩) 32 32], 46⟩ w' → OB.ok ⟨some k, flat (eK .u8) x, 26⟩ w' → OB.ok ⟨some l, flat (eK .u8) y, 26⟩ w' → FnC Tryd.prog 32 [.slice (some ⟨q, 0, none⟩) 2 2] w' (RowRes (eK .u8) 1 5 (x ++ y)) := fun w' q k l h1 h2 h3 h4 => by
    have hs : SlA (View.of w') (eK .u8) 1 (some ⟨k, 0, none⟩) x k 0 := SlA.part0 h3
    have hs2 : SlA (View.of w') (eK .u8) 1 (some ⟨l, 0, none⟩) y l 0 := SlA.part0 h4
    have hL3 : flat Sl.enc [⟨x, some ⟨k, 0, none⟩, k, 0, 32⟩, ⟨y, some ⟨l, 0, none⟩, l, 0, 32⟩] = [.slice (some ⟨k, 0, none⟩) 32 32, .slice (some ⟨l, 0, none⟩) 32 32] := by
      simp [flat, hx, hy]
    rw [← hL3] at h2
    have hrow := SlA.own (A := none) (sz := 1) (fun s : Sl Int => s.enc_length) (sp := []) (by rw [List.append_nil]; exact h2) (fun h => by cases h)
    have := concat_spec (View.le.refl (View.of w')) (n := 2) (c := 2) rfl hrow (fun x hx => by
      simp only [List.mem_cons, List.not_mem_nil, or_false] at hx
      rcases hx with rfl | rfl
      · exact hs
      · exact hs2) (by simp [catLen]; omega) (by simp)
    have e : catAll [(⟨x, some ⟨k, 0, none⟩, k, 0, 32⟩ : Sl Int), ⟨y, some ⟨l, 0, none⟩, l, 0, 32⟩] = x ++ y := by simp [catAll]
    rw [e] at this
    exact this
  have htag : ∀ (w' : World) {r : Option Nat} {A : Option Addr} {m c : Nat} {sp : List Value}, View.le M (View.of w') → OB.ok ⟨r, flat (eK .u8) (x ++ y) ++ sp, 5⟩ w' → m = (x ++ y).length → (r = none → False) → FnC Tryd.prog 29 [.string nodeB, .slice (base r A) m c] w' (fun v _ => v = .tuple #[.agg (flat (eK .u8) (tagd nodeT (x ++ y))).toArray, .int .i64 0]) := fun w' r A m c sp h1 h2 h3 h4 => by
    have := tagged_spec (View.le.refl (View.of w')) (hL.mono h1) (t := nodeB) (by decide) (c := c) h3.symm (by rw [h3]; simp; omega) (hbx.append hby) (SlA.ownK (A := A) h2 (fun h => (h4 h).elim))
    rw [nodeB_ints] at this
    exact this
  have hR : (tagd nodeT (x ++ y)).length = 32 := tagd_length _ _
  have hxy : (x ++ y).length = 64 := by simp; omega
  generalize tagd nodeT (x ++ y) = R at *
  repeat' first
    | apply cw_seq
    | (refine cw_region_id 0 ?_; (apply ol_val; exact rfl; first | (apply s_boxN; exact rfl; intro bk2) | (apply s_box1; exact rfl; exact rfl; intro bk2)); (apply ol_val; exact rfl; first | (apply s_boxN; exact rfl; intro bk3) | (apply s_box1; exact rfl; exact rfl; intro bk3)); (apply ol_val; exact rfl; apply s_allocK; exact zk_26; intro bk4); (apply ol_nil))
    | (refine cw_draw (id := 1) 11 (.mv 0 (.mv 1 (.br 2 (.br 3 (.br 4 (.mv 5 (.mv 6 (.mv 7 (.fx 8 (.fx 9 (.mv 10 (PT.nil))))))) 8 (.fx 4 (.mv 5 (.mv 6 (.mv 7 (.fx 9 (.mv 10 (PT.nil)))))))) 8 (.fx 3 (.fx 4 (.mv 5 (.mv 6 (.mv 7 (.fx 9 (.mv 10 (PT.nil))))))))) 8 (.fx 2 (.fx 3 (.fx 4 (.mv 5 (.mv 6 (.mv 7 (.fx 9 (.mv 10 (PT.nil)))))))))))) mixed (by kernel_rfl) ?_; (apply od_mv; exact rfl; exact rfl; apply s_sliceP; exact rfl; exact ar_26; exact sz_5; exact rfl; exact rfl; exact rfl; (intro h; first | exact rfl | cases h); (first | omega | (simp; omega) | (simp; done)); (first | omega | (simp; omega) | (simp; done)); (first | omega | (simp; omega) | (simp; done))); (apply od_mv; exact rfl; exact rfl; apply s_sliceP; exact rfl; exact ar_26; exact sz_5; exact rfl; exact rfl; exact rfl; (intro h; first | exact rfl | cases h); (first | omega | (simp; omega) | (simp; done)); (first | omega | (simp; omega) | (simp; done)); (first | omega | (simp; omega) | (simp; done))); (apply od_br; (first | exact Wk.refl _ _ | (focus (apply Wk.mk; exact View.le.refl _; (repeat constructor); done)))); all_goals (first | (refine fx_at 2 ?_; (apply fx_val; exact rfl; exact rfl; apply s_buildSl; exact rfl; exact el_67; exact sz_46; exact zb_46; (focus ((repeat constructor); done)); exact rfl; exact rfl; (exact Nat.le_of_ble_eq_true rfl); (focus ((repeat constructor); done)); (focus ((repeat (first | exact rfl | constructor)); done)); intro bk10); (apply od_br; (first | exact Wk.refl _ _ | (focus (apply Wk.mk; exact View.le.refl _; (repeat constructor); done)))); all_goals (first | (refine fx_at 3 ?_; (apply fx_val; exact rfl; exact rfl; apply s_call; exact rfl; exact gf_32; (intro w' hw'; exact hcat w' hw'.le (hw'.ok_ (by (repeat (first | exact Has.here | apply Has.there)))) (hw'.ok_ (by (repeat (first | exact Has.here | apply Has.there)))) (hw'.ok_ (by (repeat (first | exact Has.here | apply Has.there))))); ((intro v new h; obtain ⟨r11, A11, c11, s11, rfl, rfl, so11⟩ := h))); (apply od_br; (first | exact Wk.refl _ _ | (focus (apply Wk.mk; exact View.le.refl _; (repeat constructor); done)))); all_goals (first | (refine fx_at 4 ?_; (apply fx_val; exact rfl; exact rfl; apply s_callv; exact rfl; exact gf_29; (intro w' hw'; exact htag w' hw'.le (hw'.ok_ (by (repeat (first | exact Has.here | apply Has.there)))) rfl (fun h => by have := so11.empty h; omega))); (apply od_mv; exact rfl; exact rfl; apply s_move; exact rfl); (apply od_mv; exact rfl; exact rfl; apply s_extract; exact rfl; exact rfl); (apply od_mv; exact rfl; exact rfl; apply s_extract; exact rfl; exact rfl); (apply od_fx; (first | exact Wk.refl _ _ | (focus (apply Wk.mk; exact View.le.refl _; (repeat constructor); done))); (apply fx_val; exact rfl; exact rfl; apply s_allocK; exact zk_26; intro bk5)); (apply od_fx; (first | exact Wk.refl _ _ | (focus (apply Wk.mk; exact View.le.refl _; (repeat constructor); done))); (apply fx_eff; exact rfl; apply s_storeK; exact rfl; exact rfl; exact sz_26; (focus ((repeat constructor); done)); (first | assumption | (rw [List.length_replicate]) | exact rfl); (first | assumption | (rw [List.length_replicate]) | exact rfl))); (apply od_mv; exact rfl; exact rfl; apply s_assign; exact rfl); (apply od_nil; (first | exact Wk.refl _ _ | (focus (apply Wk.mk; exact View.le.refl _; (repeat constructor); done)))); (apply ol_nil)) | (refine fx_at 8 ?_; (apply fx_val; exact rfl; exact rfl; apply s_allocK; exact zk_26; intro bk5); (apply od_fx; (first | exact Wk.refl _ _ | (focus (apply Wk.mk; exact View.le.refl _; (repeat constructor); done))); (apply fx_val; exact rfl; exact rfl; apply s_callv; exact rfl; exact gf_29; (intro w' hw'; exact htag w' hw'.le (hw'.ok_ (by (repeat (first | exact Has.here | apply Has.there)))) rfl (fun h => by have := so11.empty h; omega)))); (apply od_mv; exact rfl; exact rfl; apply s_move; exact rfl); (apply od_mv; exact rfl; exact rfl; apply s_extract; exact rfl; exact rfl); (apply od_mv; exact rfl; exact rfl; apply s_extract; exact rfl; exact rfl); (apply od_fx; (first | exact Wk.refl _ _ | (focus (apply Wk.mk; exact View.le.refl _; (repeat constructor); done))); (apply fx_eff; exact rfl; apply s_storeK; exact rfl; exact rfl; exact sz_26; (focus ((repeat constructor); done)); (first | assumption | (rw [List.length_replicate]) | exact rfl); (first | assumption | (rw [List.length_replicate]) | exact rfl))); (apply od_mv; exact rfl; exact rfl; apply s_assign; exact rfl); (apply od_nil; (first | exact Wk.refl _ _ | (focus (apply Wk.mk; exact View.le.refl _; (repeat constructor); done)))); (apply ol_nil)))) | (refine fx_at 8 ?_; (apply fx_val; exact rfl; exact rfl; apply s_allocK; exact zk_26; intro bk5); (apply od_fx; (first | exact Wk.refl _ _ | (focus (apply Wk.mk; exact View.le.refl _; (repeat constructor); done))); (apply fx_val; exact rfl; exact rfl; apply s_call; exact rfl; exact gf_32; (intro w' hw'; exact hcat w' hw'.le (hw'.ok_ (by (repeat (first | exact Has.here | apply Has.there)))) (hw'.ok_ (by (repeat (first | exact Has.here | apply Has.there)))) (hw'.ok_ (by (repeat (first | exact Has.here | apply Has.there))))); ((intro v new h; obtain ⟨r11, A11, c11, s11, rfl, rfl, so11⟩ := h)))); (apply od_fx; (first | exact Wk.refl _ _ | (focus (apply Wk.mk; exact View.le.refl _; (repeat constructor); done))); (apply fx_val; exact rfl; exact rfl; apply s_callv; exact rfl; exact gf_29; (intro w' hw'; exact htag w' hw'.le (hw'.ok_ (by (repeat (first | exact Has.here | apply Has.there)))) rfl (fun h => by have := so11.empty h; omega)))); (apply od_mv; exact rfl; exact rfl; apply s_move; exact rfl); (apply od_mv; exact rfl; exact rfl; apply s_extract; exact rfl; exact rfl); (apply od_mv; exact rfl; exact rfl; apply s_extract; exact rfl; exact rfl); (apply od_fx; (first | exact Wk.refl _ _ | (focus (apply Wk.mk; exact View.le.refl _; (repeat constructor); done))); (apply fx_eff; exact rfl; apply s_storeK; exact rfl; exact rfl; exact sz_26; (focus ((repeat constructor); done)); (first | assumption | (rw [List.length_replicate]) | exact rfl); (first | assumption | (rw [List.length_replicate]) | exact rfl))); (apply od_mv; exact rfl; exact rfl; apply s_assign; exact rfl); (apply od_nil; (first | exact Wk.refl _ _ | (focus (apply Wk.mk; exact View.le.refl _; (repeat constructor); done)))); (apply ol_nil)))) | (refine fx_at 8 ?_; (apply fx_val; exact rfl; exact rfl; apply s_allocK; exact zk_26; intro bk5); (apply od_fx; (first | exact Wk.refl _ _ | (focus (apply Wk.mk; exact View.le.refl _; (repeat constructor); done))); (apply fx_val; exact rfl; exact rfl; apply s_buildSl; exact rfl; exact el_67; exact sz_46; exact zb_46; (focus ((repeat constructor); done)); exact rfl; exact rfl; (exact Nat.le_of_ble_eq_true rfl); (focus ((repeat constructor); done)); (focus ((repeat (first | exact rfl | constructor)); done)); intro bk10)); (apply od_fx; (first | exact Wk.refl _ _ | (focus (apply Wk.mk; exact View.le.refl _; (repeat constructor); done))); (apply fx_val; exact rfl; exact rfl; apply s_call; exact rfl; exact gf_32; (intro w' hw'; exact hcat w' hw'.le (hw'.ok_ (by (repeat (first | exact Has.here | apply Has.there)))) (hw'.ok_ (by (repeat (first | exact Has.here | apply Has.there)))) (hw'.ok_ (by (repeat (first | exact Has.here | apply Has.there))))); ((intro v new h; obtain ⟨r11, A11, c11, s11, rfl, rfl, so11⟩ := h)))); (apply od_fx; (first | exact Wk.refl _ _ | (focus (apply Wk.mk; exact View.le.refl _; (repeat constructor); done))); (apply fx_val; exact rfl; exact rfl; apply s_callv; exact rfl; exact gf_29; (intro w' hw'; exact htag w' hw'.le (hw'.ok_ (by (repeat (first | exact Has.here | apply Has.there)))) rfl (fun h => by have := so11.empty h; omega)))); (apply od_mv; exact rfl; exact rfl; apply s_move; exact rfl); (apply od_mv; exact rfl; exact rfl; apply s_extract; exact rfl; exact rfl); (apply od_mv; exact rfl; exact rfl; apply s_extract; exact rfl; exact rfl); (apply od_fx; (first | exact Wk.refl _ _ | (focus (apply Wk.mk; exact View.le.refl _; (repeat constructor); done))); (apply fx_eff; exact rfl; apply s_storeK; exact rfl; exact rfl; exact sz_26; (focus ((repeat constructor); done)); (first | assumption | (rw [List.length_replicate]) | exact rfl); (first | assumption | (rw [List.length_replicate]) | exact rfl))); (apply od_mv; exact rfl; exact rfl; apply s_assign; exact rfl); (apply od_nil; (first | exact Wk.refl _ _ | (focus (apply Wk.mk; exact View.le.refl _; (repeat constructor); done)))); (apply ol_nil))))
    | (refine cw_drawW (id := 1) (own0 := [⟨some bk2, flat (eK .u8) x, 26⟩, ⟨some bk3, flat (eK .u8) y, 26⟩]) 11 (.mv 0 (.mv 1 (.br 2 (.br 3 (.br 4 (.mv 5 (.mv 6 (.mv 7 (.fx 8 (.fx 9 (.mv 10 (PT.nil))))))) 8 (.fx 4 (.mv 5 (.mv 6 (.mv 7 (.fx 9 (.mv 10 (PT.nil)))))))) 8 (.fx 3 (.fx 4 (.mv 5 (.mv 6 (.mv 7 (.fx 9 (.mv 10 (PT.nil))))))))) 8 (.fx 2 (.fx 3 (.fx 4 (.mv 5 (.mv 6 (.mv 7 (.fx 9 (.mv 10 (PT.nil)))))))))))) mixed (by kernel_rfl) (by (first | exact Wk.refl _ _ | (focus (apply Wk.mk; exact View.le.refl _; (repeat constructor); done)))) ?_; (apply od_mv; exact rfl; exact rfl; apply s_sliceP; exact rfl; exact ar_26; exact sz_5; exact rfl; exact rfl; exact rfl; (intro h; first | exact rfl | cases h); (first | omega | (simp; omega) | (simp; done)); (first | omega | (simp; omega) | (simp; done)); (first | omega | (simp; omega) | (simp; done))); (apply od_mv; exact rfl; exact rfl; apply s_sliceP; exact rfl; exact ar_26; exact sz_5; exact rfl; exact rfl; exact rfl; (intro h; first | exact rfl | cases h); (first | omega | (simp; omega) | (simp; done)); (first | omega | (simp; omega) | (simp; done)); (first | omega | (simp; omega) | (simp; done))); (apply od_br; (first | exact Wk.refl _ _ | (focus (apply Wk.mk; exact View.le.refl _; (repeat constructor); done)))); all_goals (first | (refine fx_at 2 ?_; (apply fx_val; exact rfl; exact rfl; apply s_buildSl; exact rfl; exact el_67; exact sz_46; exact zb_46; (focus ((repeat constructor); done)); exact rfl; exact rfl; (exact Nat.le_of_ble_eq_true rfl); (focus ((repeat constructor); done)); (focus ((repeat (first | exact rfl | constructor)); done)); intro bk10); (apply od_br; (first | exact Wk.refl _ _ | (focus (apply Wk.mk; exact View.le.refl _; (repeat constructor); done)))); all_goals (first | (refine fx_at 3 ?_; (apply fx_val; exact rfl; exact rfl; apply s_call; exact rfl; exact gf_32; (intro w' hw'; exact hcat w' hw'.le (hw'.ok_ (by (repeat (first | exact Has.here | apply Has.there)))) (hw'.ok_ (by (repeat (first | exact Has.here | apply Has.there)))) (hw'.ok_ (by (repeat (first | exact Has.here | apply Has.there))))); ((intro v new h; obtain ⟨r11, A11, c11, s11, rfl, rfl, so11⟩ := h))); (apply od_br; (first | exact Wk.refl _ _ | (focus (apply Wk.mk; exact View.le.refl _; (repeat constructor); done)))); all_goals (first | (refine fx_at 4 ?_; (apply fx_val; exact rfl; exact rfl; apply s_callv; exact rfl; exact gf_29; (intro w' hw'; exact htag w' hw'.le (hw'.ok_ (by (repeat (first | exact Has.here | apply Has.there)))) rfl (fun h => by have := so11.empty h; omega))); (apply od_mv; exact rfl; exact rfl; apply s_move; exact rfl); (apply od_mv; exact rfl; exact rfl; apply s_extract; exact rfl; exact rfl); (apply od_mv; exact rfl; exact rfl; apply s_extract; exact rfl; exact rfl); (apply od_fx; (first | exact Wk.refl _ _ | (focus (apply Wk.mk; exact View.le.refl _; (repeat constructor); done))); (apply fx_val; exact rfl; exact rfl; apply s_allocK; exact zk_26; intro bk5)); (apply od_fx; (first | exact Wk.refl _ _ | (focus (apply Wk.mk; exact View.le.refl _; (repeat constructor); done))); (apply fx_eff; exact rfl; apply s_storeK; exact rfl; exact rfl; exact sz_26; (focus ((repeat constructor); done)); (first | assumption | (rw [List.length_replicate]) | exact rfl); (first | assumption | (rw [List.length_replicate]) | exact rfl))); (apply od_mv; exact rfl; exact rfl; apply s_assign; exact rfl); (apply od_nil; (first | exact Wk.refl _ _ | (focus (apply Wk.mk; exact View.le.refl _; (repeat constructor); done)))); (apply ol_nil)) | (refine fx_at 8 ?_; (apply fx_val; exact rfl; exact rfl; apply s_allocK; exact zk_26; intro bk5); (apply od_fx; (first | exact Wk.refl _ _ | (focus (apply Wk.mk; exact View.le.refl _; (repeat constructor); done))); (apply fx_val; exact rfl; exact rfl; apply s_callv; exact rfl; exact gf_29; (intro w' hw'; exact htag w' hw'.le (hw'.ok_ (by (repeat (first | exact Has.here | apply Has.there)))) rfl (fun h => by have := so11.empty h; omega)))); (apply od_mv; exact rfl; exact rfl; apply s_move; exact rfl); (apply od_mv; exact rfl; exact rfl; apply s_extract; exact rfl; exact rfl); (apply od_mv; exact rfl; exact rfl; apply s_extract; exact rfl; exact rfl); (apply od_fx; (first | exact Wk.refl _ _ | (focus (apply Wk.mk; exact View.le.refl _; (repeat constructor); done))); (apply fx_eff; exact rfl; apply s_storeK; exact rfl; exact rfl; exact sz_26; (focus ((repeat constructor); done)); (first | assumption | (rw [List.length_replicate]) | exact rfl); (first | assumption | (rw [List.length_replicate]) | exact rfl))); (apply od_mv; exact rfl; exact rfl; apply s_assign; exact rfl); (apply od_nil; (first | exact Wk.refl _ _ | (focus (apply Wk.mk; exact View.le.refl _; (repeat constructor); done)))); (apply ol_nil)))) | (refine fx_at 8 ?_; (apply fx_val; exact rfl; exact rfl; apply s_allocK; exact zk_26; intro bk5); (apply od_fx; (first | exact Wk.refl _ _ | (focus (apply Wk.mk; exact View.le.refl _; (repeat constructor); done))); (apply fx_val; exact rfl; exact rfl; apply s_call; exact rfl; exact gf_32; (intro w' hw'; exact hcat w' hw'.le (hw'.ok_ (by (repeat (first | exact Has.here | apply Has.there)))) (hw'.ok_ (by (repeat (first | exact Has.here | apply Has.there)))) (hw'.ok_ (by (repeat (first | exact Has.here | apply Has.there))))); ((intro v new h; obtain ⟨r11, A11, c11, s11, rfl, rfl, so11⟩ := h)))); (apply od_fx; (first | exact Wk.refl _ _ | (focus (apply Wk.mk; exact View.le.refl _; (repeat constructor); done))); (apply fx_val; exact rfl; exact rfl; apply s_callv; exact rfl; exact gf_29; (intro w' hw'; exact htag w' hw'.le (hw'.ok_ (by (repeat (first | exact Has.here | apply Has.there)))) rfl (fun h => by have := so11.empty h; omega)))); (apply od_mv; exact rfl; exact rfl; apply s_move; exact rfl); (apply od_mv; exact rfl; exact rfl; apply s_extract; exact rfl; exact rfl); (apply od_mv; exact rfl; exact rfl; apply s_extract; exact rfl; exact rfl); (apply od_fx; (first | exact Wk.refl _ _ | (focus (apply Wk.mk; exact View.le.refl _; (repeat constructor); done))); (apply fx_eff; exact rfl; apply s_storeK; exact rfl; exact rfl; exact sz_26; (focus ((repeat constructor); done)); (first | assumption | (rw [List.length_replicate]) | exact rfl); (first | assumption | (rw [List.length_replicate]) | exact rfl))); (apply od_mv; exact rfl; exact rfl; apply s_assign; exact rfl); (apply od_nil; (first | exact Wk.refl _ _ | (focus (apply Wk.mk; exact View.le.refl _; (repeat constructor); done)))); (apply ol_nil)))) | (refine fx_at 8 ?_; (apply fx_val; exact rfl; exact rfl; apply s_allocK; exact zk_26; intro bk5); (apply od_fx; (first | exact Wk.refl _ _ | (focus (apply Wk.mk; exact View.le.refl _; (repeat constructor); done))); (apply fx_val; exact rfl; exact rfl; apply s_buildSl; exact rfl; exact el_67; exact sz_46; exact zb_46; (focus ((repeat constructor); done)); exact rfl; exact rfl; (exact Nat.le_of_ble_eq_true rfl); (focus ((repeat constructor); done)); (focus ((repeat (first | exact rfl | constructor)); done)); intro bk10)); (apply od_fx; (first | exact Wk.refl _ _ | (focus (apply Wk.mk; exact View.le.refl _; (repeat constructor); done))); (apply fx_val; exact rfl; exact rfl; apply s_call; exact rfl; exact gf_32; (intro w' hw'; exact hcat w' hw'.le (hw'.ok_ (by (repeat (first | exact Has.here | apply Has.there)))) (hw'.ok_ (by (repeat (first | exact Has.here | apply Has.there)))) (hw'.ok_ (by (repeat (first | exact Has.here | apply Has.there))))); ((intro v new h; obtain ⟨r11, A11, c11, s11, rfl, rfl, so11⟩ := h)))); (apply od_fx; (first | exact Wk.refl _ _ | (focus (apply Wk.mk; exact View.le.refl _; (repeat constructor); done))); (apply fx_val; exact rfl; exact rfl; apply s_callv; exact rfl; exact gf_29; (intro w' hw'; exact htag w' hw'.le (hw'.ok_ (by (repeat (first | exact Has.here | apply Has.there)))) rfl (fun h => by have := so11.empty h; omega)))); (apply od_mv; exact rfl; exact rfl; apply s_move; exact rfl); (apply od_mv; exact rfl; exact rfl; apply s_extract; exact rfl; exact rfl); (apply od_mv; exact rfl; exact rfl; apply s_extract; exact rfl; exact rfl); (apply od_fx; (first | exact Wk.refl _ _ | (focus (apply Wk.mk; exact View.le.refl _; (repeat constructor); done))); (apply fx_eff; exact rfl; apply s_storeK; exact rfl; exact rfl; exact sz_26; (focus ((repeat constructor); done)); (first | assumption | (rw [List.length_replicate]) | exact rfl); (first | assumption | (rw [List.length_replicate]) | exact rfl))); (apply od_mv; exact rfl; exact rfl; apply s_assign; exact rfl); (apply od_nil; (first | exact Wk.refl _ _ | (focus (apply Wk.mk; exact View.le.refl _; (repeat constructor); done)))); (apply ol_nil))))
    | (refine cw_region_id 2 ?_; (apply ol_ldN; exact rfl; exact rfl; exact rfl; exact sz_26; (apply RdN.own; (focus ((repeat constructor); done)); (apply getNK_all; (first | assumption | (rw [List.length_replicate]) | exact rfl)))); (apply ol_eff; apply s_storeK; exact rfl; exact rfl; exact sz_26; (focus ((repeat constructor); done)); (first | assumption | (rw [List.length_replicate]) | exact rfl); (first | assumption | (rw [List.length_replicate]) | exact rfl)); (apply ol_nil))
    | (apply cw_cond_true; exact rfl; (first | exact rfl | assumption))
    | (apply cw_cond_false; exact rfl; (first | exact rfl | assumption))
    | apply cw_skip
    | apply cw_ret
    | apply cw_block
    | apply cw_exit
  all_goals (refine ends [] (RVal.cellN rfl rfl rfl (RdN.own (by (repeat (first | exact Has.here | apply Has.there))) (getNK_all hR)) RVal.nil) Pick.nil ?_; rfl)

theorem take_step {h : List Int} {k : Nat} (p : List Int) (hk : k < h.length) : flat (eK .u8) (p ++ h.take (k + 1)) = flat (eK .u8) (p ++ h.take k) ++ [.int .u8 (h.getD k 0)] := by
  rw [List.take_succ_eq_append_getElem hk, ← List.append_assoc, flat_append, flat_one]
  simp [List.getD, List.getElem?_eq_getElem hk]

theorem rinner_spec {M : View} {w : World} (hM : View.le M (View.of w)) (x y : HS) :
    FnC Tryd.prog 24 [.agg x.enc.toArray, .agg y.enc.toArray] w (fun v _ => v = .agg (inn x y).enc.toArray) := by
  obtain ⟨x, hx, hbx⟩ := x
  obtain ⟨y, hy, hby⟩ := y
  show FnC _ _ [.agg (flat (eK .u8) x).toArray, .agg (flat (eK .u8) y).toArray] w (fun v _ => v = .agg (flat (eK .u8) (tagd nodeT (x ++ y))).toArray)
  refine enterF (M := M) Tryd.func24 rfl rfl rfl rfl hM ?_
  have htag : ∀ (w' : World) {r : Option Nat} {m c : Nat} {sp : List Value}, View.le M (View.of w') → OB.ok ⟨r, flat (eK .u8) (x ++ y) ++ sp, 5⟩ w' → m = (x ++ y).length → (r = none → False) → FnC Tryd.prog 30 [.string nodeB, .slice (base r none) m c] w' (fun v _ => v = .agg (flat (eK .u8) (tagd nodeT (x ++ y))).toArray) := fun w' r m c sp h1 h2 h3 h4 => by
    have := rtagged_spec (View.le.refl (View.of w')) (t := nodeB) (by decide) (c := c) h3.symm (by rw [h3]; simp; omega) (hbx.append hby) (SlA.ownK (A := none) h2 (fun h => (h4 h).elim))
    rw [nodeB_ints] at this
    exact this
  have hR : (tagd nodeT (x ++ y)).length = 32 := tagd_length _ _
  have hxy : (x ++ y).length = 64 := by simp; omega
  generalize tagd nodeT (x ++ y) = R at *
  refine cw_none 5 ?_
  repeat' first
    | apply cw_seq
    | (refine cw_region_id 0 ?_; (apply ol_val; exact rfl; first | (apply s_boxN; exact rfl; intro bk2) | (apply s_box1; exact rfl; exact rfl; intro bk2)); (apply ol_val; exact rfl; first | (apply s_boxN; exact rfl; intro bk3) | (apply s_box1; exact rfl; exact rfl; intro bk3)); (apply ol_val; exact rfl; apply s_allocK; exact zk_26; intro bk4); (apply ol_nil))
    | (refine cw_region_id 1 ?_; (apply ol_as; exact rfl; exact rfl); (apply ol_nil))
    | (refine cw_region_id 2 ?_; (apply ol_as; exact rfl; exact rfl); (apply ol_nil))
    | (apply cw_cond_true; exact rfl; (first | exact rfl | assumption))
    | (apply cw_cond_false; exact rfl; (first | exact rfl | assumption))
    | apply cw_skip
    | apply cw_ret
    | apply cw_block
    | apply cw_exit
  refine cw_loopK (σ := RSt) [2, 3, 4] (by (repeat (first | exact Keep.nil | (apply Keep.cons; exact rfl)))) (fun s => [(5, .slice (base s.r none) s.k s.c), (6, .int .i64 s.k)]) (fun _ => M) (fun s => [⟨some bk4, flat (eK .u8) (List.replicate 32 0), 26⟩, ⟨some bk3, flat (eK .u8) y, 26⟩, ⟨some bk2, flat (eK .u8) x, 26⟩, ⟨s.r, flat (eK .u8) ([] ++ x.take s.k) ++ s.sp, 5⟩]) (fun s => s.k ≤ 32 ∧ SO s.r s.k s.c (flat (eK .u8) ([] ++ x.take s.k)) s.sp 1) (fun s => 32 - s.k) ⟨0, none, 0, []⟩ (by (repeat (first | exact trivial | refine And.intro rfl ?_))) (View.le.refl _) (by (repeat (first | exact Pick.nil | (apply Pick.cons; (focus ((repeat (first | exact Spl.here | apply Spl.there)); done))) | exact Pick.refl))) ⟨by dsimp only; omega, by dsimp only; rw [List.take_zero]; exact SO.nil 1⟩ ?_
  rintro ⟨k, r, c', sp⟩ ⟨hk, so⟩
  dsimp only at hk so
  dsimp only
  by_cases hk' : k < 32
  · have hst := take_step (h := x) (k := k) [] (by omega)
    repeat' first
      | apply cw_seq
      | (refine cw_region_id 3 ?_; (apply ol_mv; exact rfl; exact rfl); (apply ol_val; exact rfl; apply stp_cmp; apply s_lss; exact rfl; exact rfl; all_goals (intro hc9; try (exfalso; (first | exact hc9 rfl | omega)))); all_goals (apply ol_nil))
      | (refine cw_region_id 5 ?_; (apply ol_mv; exact rfl; exact rfl); (apply ol_mv; exact rfl; exact rfl); (apply ol_val; exact rfl; apply stp_pur; first | (apply s_indexAK; exact rfl; exact rfl; exact ar_26; exact sz_5; omega) | (apply s_indexAO; exact rfl; exact rfl; exact ar_26; exact sz_5; omega)); (apply ol_ld; exact rfl; exact rfl; exact rfl; (first | (apply RdN.own; (focus ((repeat constructor); done)); (first | exact GetN.cons rfl GetN.nil | (apply getN_ints_app; (first | omega | (simp; omega) | (simp; done))) | (apply getN_ints; (first | omega | (simp; omega) | (simp; done))))) | (apply RdN.own; (repeat (first | exact Has.here | apply Has.there)); (apply getNK0; omega)))); (apply ol_val; exact rfl; apply s_buildSl; exact rfl; exact el_46; exact sz_5; exact zb_5; (focus ((repeat constructor); done)); exact rfl; exact rfl; (exact Nat.le_of_ble_eq_true rfl); (focus ((repeat constructor); done)); (focus ((repeat (first | exact rfl | constructor)); done)); intro bk16); (apply ol_val; exact rfl; first | (apply s_append_e; exact rfl; exact rfl; (focus ((repeat constructor); done)); exact el_46; exact sz_5; exact zb_5; exact rfl; exact by_5; (first | exact (fun _ => rfl)); (first | (apply RdN.own; (focus ((repeat constructor); done)); (focus ((repeat (first | exact rfl | constructor)); done)))); (first | exact rfl); (first | omega | (simp; omega) | (simp; done)); (first | omega | (simp; omega) | (simp; done)); intro rk17 sk17 ck17 ok17) | (apply s_append_r; exact rfl; exact rfl; (focus ((repeat constructor); done)); (first | exact rfl | exact (List.append_nil _).symm); exact el_46; exact sz_5; exact zb_5; exact rfl; exact by_5; (first | exact SO.nil _ | assumption | (exact ⟨by simp, by simp, Nat.le_refl _, by simp⟩)); (first | exact (fun _ => rfl)); (first | (apply RdN.own; (focus ((repeat constructor); done)); (focus ((repeat (first | exact rfl | constructor)); done)))); (first | exact rfl); (first | omega | (simp; omega) | (simp; done)); (first | omega | (simp; omega) | (simp; done)); intro rk17 sk17 ck17 ok17) | (apply s_append_b; exact rfl; exact rfl; (focus ((repeat constructor); done)); (first | exact rfl | exact (List.append_nil _).symm); exact el_46; exact sz_5; exact zb_5; exact rfl; exact by_5; (first | exact SO.nil _ | assumption | (exact ⟨by simp, by simp, Nat.le_refl _, by simp⟩)); (first | exact (fun _ => rfl)); (first | (apply RdN.own; (focus ((repeat constructor); done)); (focus ((repeat (first | exact rfl | constructor)); done)))); (first | exact rfl); (first | omega | (simp; omega) | (simp; done)); (first | omega | (simp; omega) | (simp; done)); intro rk17 sk17 ck17 ok17) | (apply s_append_n; exact rfl; exact rfl; (focus ((repeat constructor); done)); exact el_46; exact sz_5; exact zb_5; exact rfl; exact by_5; (first | exact (fun _ => rfl)); (first | (apply RdN.own; (focus ((repeat constructor); done)); (focus ((repeat (first | exact rfl | constructor)); done)))); (first | exact rfl); (first | omega | (simp; omega) | (simp; done)); (first | omega | (simp; omega) | (simp; done)); intro rk17 sk17 ck17 ok17)); (apply ol_as; exact rfl; exact rfl); (apply ol_nil))
      | (refine cw_region_id 4 ?_; (apply ol_mv; exact rfl; exact rfl); (apply ol_val; exact rfl; apply stp_pur; apply s_add64; exact rfl; exact rfl; omega); (apply ol_as; exact rfl; exact rfl); (apply ol_nil))
      | (refine cw_region_id 6 ?_; (apply ol_as; exact rfl; exact rfl); (apply ol_nil))
      | (apply cw_cond_true; exact rfl; (first | exact rfl | assumption))
      | (apply cw_cond_false; exact rfl; (first | exact rfl | assumption))
      | apply cw_skip
      | apply cw_ret
      | apply cw_block
      | apply cw_exit
    refine ⟨⟨k + 1, rk17, ck17, sk17⟩, ⟨?_, View.le.refl _, ?_, ⟨hk', ?_⟩, by dsimp only; omega⟩⟩
    · (repeat (first | exact trivial | refine And.intro rfl ?_))
    · dsimp only
      rw [hst]
      (repeat (first | exact Pick.nil | (apply Pick.cons; (focus ((repeat (first | exact Spl.here | apply Spl.there)); done))) | exact Pick.refl))
    · dsimp only
      rw [hst]
      exact ok17
  · have : k = 32 := by omega
    subst this
    rw [List.take_of_length_le (by omega), List.nil_append] at so ⊢
    repeat' first
      | apply cw_seq
      | (refine cw_region_id 3 ?_; (apply ol_mv; exact rfl; exact rfl); (apply ol_val; exact rfl; apply stp_cmp; apply s_lss; exact rfl; exact rfl; all_goals (intro hc9; try (exfalso; (first | exact hc9 rfl | omega)))); all_goals (apply ol_nil))
      | (refine cw_region_id 5 ?_; (apply ol_mv; exact rfl; exact rfl); (apply ol_mv; exact rfl; exact rfl); (apply ol_val; exact rfl; apply stp_pur; first | (apply s_indexAK; exact rfl; exact rfl; exact ar_26; exact sz_5; omega) | (apply s_indexAO; exact rfl; exact rfl; exact ar_26; exact sz_5; omega)); (apply ol_ld; exact rfl; exact rfl; exact rfl; (apply RdN.own; (focus ((repeat constructor); done)); (first | exact GetN.cons rfl GetN.nil | (apply getN_ints_app; (first | omega | (simp; omega) | (simp; done))) | (apply getN_ints; (first | omega | (simp; omega) | (simp; done)))))); (apply ol_val; exact rfl; apply s_buildSl; exact rfl; exact el_46; exact sz_5; exact zb_5; (focus ((repeat constructor); done)); exact rfl; exact rfl; (exact Nat.le_of_ble_eq_true rfl); (focus ((repeat constructor); done)); (focus ((repeat (first | exact rfl | constructor)); done)); intro bk16); (apply ol_val; exact rfl; first | (apply s_append_e; exact rfl; exact rfl; (focus ((repeat constructor); done)); exact el_46; exact sz_5; exact zb_5; exact rfl; exact by_5; (first | exact (fun _ => rfl)); (first | (apply RdN.own; (focus ((repeat constructor); done)); (focus ((repeat (first | exact rfl | constructor)); done)))); (first | exact rfl); (first | omega | (simp; omega) | (simp; done)); (first | omega | (simp; omega) | (simp; done)); intro rk17 sk17 ck17 ok17) | (apply s_append_r; exact rfl; exact rfl; (focus ((repeat constructor); done)); (first | exact rfl | exact (List.append_nil _).symm); exact el_46; exact sz_5; exact zb_5; exact rfl; exact by_5; (first | exact SO.nil _ | assumption | (exact ⟨by simp, by simp, Nat.le_refl _, by simp⟩)); (first | exact (fun _ => rfl)); (first | (apply RdN.own; (focus ((repeat constructor); done)); (focus ((repeat (first | exact rfl | constructor)); done)))); (first | exact rfl); (first | omega | (simp; omega) | (simp; done)); (first | omega | (simp; omega) | (simp; done)); intro rk17 sk17 ck17 ok17) | (apply s_append_b; exact rfl; exact rfl; (focus ((repeat constructor); done)); (first | exact rfl | exact (List.append_nil _).symm); exact el_46; exact sz_5; exact zb_5; exact rfl; exact by_5; (first | exact SO.nil _ | assumption | (exact ⟨by simp, by simp, Nat.le_refl _, by simp⟩)); (first | exact (fun _ => rfl)); (first | (apply RdN.own; (focus ((repeat constructor); done)); (focus ((repeat (first | exact rfl | constructor)); done)))); (first | exact rfl); (first | omega | (simp; omega) | (simp; done)); (first | omega | (simp; omega) | (simp; done)); intro rk17 sk17 ck17 ok17) | (apply s_append_n; exact rfl; exact rfl; (focus ((repeat constructor); done)); exact el_46; exact sz_5; exact zb_5; exact rfl; exact by_5; (first | exact (fun _ => rfl)); (first | (apply RdN.own; (focus ((repeat constructor); done)); (focus ((repeat (first | exact rfl | constructor)); done)))); (first | exact rfl); (first | omega | (simp; omega) | (simp; done)); (first | omega | (simp; omega) | (simp; done)); intro rk17 sk17 ck17 ok17)); (apply ol_as; exact rfl; exact rfl); (apply ol_nil))
      | (refine cw_region_id 4 ?_; (apply ol_mv; exact rfl; exact rfl); (apply ol_val; exact rfl; apply stp_pur; apply s_add64; exact rfl; exact rfl; omega); (apply ol_as; exact rfl; exact rfl); (apply ol_nil))
      | (refine cw_region_id 6 ?_; (apply ol_as; exact rfl; exact rfl); (apply ol_nil))
      | (apply cw_cond_true; exact rfl; (first | exact rfl | assumption))
      | (apply cw_cond_false; exact rfl; (first | exact rfl | assumption))
      | apply cw_skip
      | apply cw_ret
      | apply cw_block
      | apply cw_exit
    refine cw_loopK (σ := RSt) [3, 4] (by (repeat (first | exact Keep.nil | (apply Keep.cons; exact rfl)))) (fun s => [(5, .slice (base s.r none) (32 + s.k) s.c), (7, .int .i64 s.k)]) (fun _ => M) (fun s => [⟨some bk4, flat (eK .u8) (List.replicate 32 0), 26⟩, ⟨some bk3, flat (eK .u8) y, 26⟩, ⟨s.r, flat (eK .u8) (x ++ y.take s.k) ++ s.sp, 5⟩]) (fun s => s.k ≤ 32 ∧ SO s.r (32 + s.k) s.c (flat (eK .u8) (x ++ y.take s.k)) s.sp 1) (fun s => 32 - s.k) ⟨0, r, c', sp⟩ (by (repeat (first | exact trivial | refine And.intro rfl ?_))) (View.le.refl _) (by dsimp only; rw [List.take_zero, List.append_nil]; (repeat (first | exact Pick.nil | (apply Pick.cons; (focus ((repeat (first | exact Spl.here | apply Spl.there)); done))) | exact Pick.refl))) ⟨by dsimp only; omega, by dsimp only; rw [List.take_zero, List.append_nil]; exact so⟩ ?_
    clear so hk hk'
    rintro ⟨k, r, c', sp⟩ ⟨hk, so⟩
    dsimp only at hk so
    dsimp only
    by_cases hk' : k < 32
    · have hst := take_step (h := y) (k := k) x (by omega)
      repeat' first
        | apply cw_seq
        | (refine cw_region_id 7 ?_; (apply ol_mv; exact rfl; exact rfl); (apply ol_val; exact rfl; apply stp_cmp; apply s_lss; exact rfl; exact rfl; all_goals (intro hc19; try (exfalso; (first | exact hc19 rfl | omega)))); all_goals (apply ol_nil))
        | (refine cw_region_id 9 ?_; (apply ol_mv; exact rfl; exact rfl); (apply ol_mv; exact rfl; exact rfl); (apply ol_val; exact rfl; apply stp_pur; first | (apply s_indexAK; exact rfl; exact rfl; exact ar_26; exact sz_5; omega) | (apply s_indexAO; exact rfl; exact rfl; exact ar_26; exact sz_5; omega)); (apply ol_ld; exact rfl; exact rfl; exact rfl; (first | (apply RdN.own; (focus ((repeat constructor); done)); (first | exact GetN.cons rfl GetN.nil | (apply getN_ints_app; (first | omega | (simp; omega) | (simp; done))) | (apply getN_ints; (first | omega | (simp; omega) | (simp; done))))) | (apply RdN.own; (repeat (first | exact Has.here | apply Has.there)); (apply getNK0; omega)))); (apply ol_val; exact rfl; apply s_buildSl; exact rfl; exact el_46; exact sz_5; exact zb_5; (focus ((repeat constructor); done)); exact rfl; exact rfl; (exact Nat.le_of_ble_eq_true rfl); (focus ((repeat constructor); done)); (focus ((repeat (first | exact rfl | constructor)); done)); intro bk26); (apply ol_val; exact rfl; first | (apply s_append_e; exact rfl; exact rfl; (focus ((repeat constructor); done)); exact el_46; exact sz_5; exact zb_5; exact rfl; exact by_5; (first | exact (fun _ => rfl)); (first | (apply RdN.own; (focus ((repeat constructor); done)); (focus ((repeat (first | exact rfl | constructor)); done)))); (first | exact rfl); (first | omega | (simp; omega) | (simp; done)); (first | omega | (simp; omega) | (simp; done)); intro rk27 sk27 ck27 ok27) | (apply s_append_r; exact rfl; exact rfl; (focus ((repeat constructor); done)); (first | exact rfl | exact (List.append_nil _).symm); exact el_46; exact sz_5; exact zb_5; exact rfl; exact by_5; (first | exact SO.nil _ | assumption | (exact ⟨by simp, by simp, Nat.le_refl _, by simp⟩)); (first | exact (fun _ => rfl)); (first | (apply RdN.own; (focus ((repeat constructor); done)); (focus ((repeat (first | exact rfl | constructor)); done)))); (first | exact rfl); (first | omega | (simp; omega) | (simp; done)); (first | omega | (simp; omega) | (simp; done)); intro rk27 sk27 ck27 ok27) | (apply s_append_b; exact rfl; exact rfl; (focus ((repeat constructor); done)); (first | exact rfl | exact (List.append_nil _).symm); exact el_46; exact sz_5; exact zb_5; exact rfl; exact by_5; (first | exact SO.nil _ | assumption | (exact ⟨by simp, by simp, Nat.le_refl _, by simp⟩)); (first | exact (fun _ => rfl)); (first | (apply RdN.own; (focus ((repeat constructor); done)); (focus ((repeat (first | exact rfl | constructor)); done)))); (first | exact rfl); (first | omega | (simp; omega) | (simp; done)); (first | omega | (simp; omega) | (simp; done)); intro rk27 sk27 ck27 ok27) | (apply s_append_n; exact rfl; exact rfl; (focus ((repeat constructor); done)); exact el_46; exact sz_5; exact zb_5; exact rfl; exact by_5; (first | exact (fun _ => rfl)); (first | (apply RdN.own; (focus ((repeat constructor); done)); (focus ((repeat (first | exact rfl | constructor)); done)))); (first | exact rfl); (first | omega | (simp; omega) | (simp; done)); (first | omega | (simp; omega) | (simp; done)); intro rk27 sk27 ck27 ok27)); (apply ol_as; exact rfl; exact rfl); (apply ol_nil))
        | (refine cw_region_id 8 ?_; (apply ol_mv; exact rfl; exact rfl); (apply ol_val; exact rfl; apply stp_pur; apply s_add64; exact rfl; exact rfl; omega); (apply ol_as; exact rfl; exact rfl); (apply ol_nil))
        | (refine cw_region_id 10 ?_; (apply ol_mv; exact rfl; exact rfl))
        | (apply cw_cond_true; exact rfl; (first | exact rfl | assumption))
        | (apply cw_cond_false; exact rfl; (first | exact rfl | assumption))
        | apply cw_skip
        | apply cw_ret
        | apply cw_block
        | apply cw_exit
      refine ⟨⟨k + 1, rk27, ck27, sk27⟩, ⟨?_, View.le.refl _, ?_, ⟨hk', ?_⟩, by dsimp only; omega⟩⟩
      · (repeat (first | exact trivial | refine And.intro rfl ?_))
      · dsimp only
        rw [hst]
        (repeat (first | exact Pick.nil | (apply Pick.cons; (focus ((repeat (first | exact Spl.here | apply Spl.there)); done))) | exact Pick.refl))
      · dsimp only
        rw [hst]
        exact ok27
    · have : k = 32 := by omega
      subst this
      rw [List.take_of_length_le (l := y) (by omega)] at so ⊢
      repeat' first
        | apply cw_seq
        | (refine cw_region_id 7 ?_; (apply ol_mv; exact rfl; exact rfl); (apply ol_val; exact rfl; apply stp_cmp; apply s_lss; exact rfl; exact rfl; all_goals (intro hc19; try (exfalso; (first | exact hc19 rfl | omega)))); all_goals (apply ol_nil))
        | (refine cw_region_id 9 ?_; (apply ol_mv; exact rfl; exact rfl); (apply ol_mv; exact rfl; exact rfl); (apply ol_val; exact rfl; apply stp_pur; first | (apply s_indexAK; exact rfl; exact rfl; exact ar_26; exact sz_5; omega) | (apply s_indexAO; exact rfl; exact rfl; exact ar_26; exact sz_5; omega)); (apply ol_ld; exact rfl; exact rfl; exact rfl; (apply RdN.own; (focus ((repeat constructor); done)); (first | exact GetN.cons rfl GetN.nil | (apply getN_ints_app; (first | omega | (simp; omega) | (simp; done))) | (apply getN_ints; (first | omega | (simp; omega) | (simp; done)))))); (apply ol_val; exact rfl; apply s_buildSl; exact rfl; exact el_46; exact sz_5; exact zb_5; (focus ((repeat constructor); done)); exact rfl; exact rfl; (exact Nat.le_of_ble_eq_true rfl); (focus ((repeat constructor); done)); (focus ((repeat (first | exact rfl | constructor)); done)); intro bk26); (apply ol_val; exact rfl; first | (apply s_append_e; exact rfl; exact rfl; (focus ((repeat constructor); done)); exact el_46; exact sz_5; exact zb_5; exact rfl; exact by_5; (first | exact (fun _ => rfl)); (first | (apply RdN.own; (focus ((repeat constructor); done)); (focus ((repeat (first | exact rfl | constructor)); done)))); (first | exact rfl); (first | omega | (simp; omega) | (simp; done)); (first | omega | (simp; omega) | (simp; done)); intro rk27 sk27 ck27 ok27) | (apply s_append_r; exact rfl; exact rfl; (focus ((repeat constructor); done)); (first | exact rfl | exact (List.append_nil _).symm); exact el_46; exact sz_5; exact zb_5; exact rfl; exact by_5; (first | exact SO.nil _ | assumption | (exact ⟨by simp, by simp, Nat.le_refl _, by simp⟩)); (first | exact (fun _ => rfl)); (first | (apply RdN.own; (focus ((repeat constructor); done)); (focus ((repeat (first | exact rfl | constructor)); done)))); (first | exact rfl); (first | omega | (simp; omega) | (simp; done)); (first | omega | (simp; omega) | (simp; done)); intro rk27 sk27 ck27 ok27) | (apply s_append_b; exact rfl; exact rfl; (focus ((repeat constructor); done)); (first | exact rfl | exact (List.append_nil _).symm); exact el_46; exact sz_5; exact zb_5; exact rfl; exact by_5; (first | exact SO.nil _ | assumption | (exact ⟨by simp, by simp, Nat.le_refl _, by simp⟩)); (first | exact (fun _ => rfl)); (first | (apply RdN.own; (focus ((repeat constructor); done)); (focus ((repeat (first | exact rfl | constructor)); done)))); (first | exact rfl); (first | omega | (simp; omega) | (simp; done)); (first | omega | (simp; omega) | (simp; done)); intro rk27 sk27 ck27 ok27) | (apply s_append_n; exact rfl; exact rfl; (focus ((repeat constructor); done)); exact el_46; exact sz_5; exact zb_5; exact rfl; exact by_5; (first | exact (fun _ => rfl)); (first | (apply RdN.own; (focus ((repeat constructor); done)); (focus ((repeat (first | exact rfl | constructor)); done)))); (first | exact rfl); (first | omega | (simp; omega) | (simp; done)); (first | omega | (simp; omega) | (simp; done)); intro rk27 sk27 ck27 ok27)); (apply ol_as; exact rfl; exact rfl); (apply ol_nil))
        | (refine cw_region_id 8 ?_; (apply ol_mv; exact rfl; exact rfl); (apply ol_val; exact rfl; apply stp_pur; apply s_add64; exact rfl; exact rfl; omega); (apply ol_as; exact rfl; exact rfl); (apply ol_nil))
        | (refine cw_region_id 10 ?_; (apply ol_mv; exact rfl; exact rfl); (apply ol_val; exact rfl; apply s_callv; exact rfl; exact gf_30; (intro w' hw'; exact htag w' hw'.le (hw'.ok_ (by (repeat (first | exact Has.here | apply Has.there)))) hxy.symm (fun h => by have := so.empty h; omega))); (apply ol_eff; apply s_storeK; exact rfl; exact rfl; exact sz_26; (focus ((repeat constructor); done)); (first | assumption | (rw [List.length_replicate]) | exact rfl); (first | assumption | (rw [List.length_replicate]) | exact rfl)); (apply ol_nil))
        | (apply cw_cond_true; exact rfl; (first | exact rfl | assumption))
        | (apply cw_cond_false; exact rfl; (first | exact rfl | assumption))
        | apply cw_skip
        | apply cw_ret
        | apply cw_block
        | apply cw_exit
      refine ends [] (RVal.cellN rfl rfl rfl (RdN.own (by (repeat (first | exact Has.here | apply Has.there))) (getNK_all hR)) RVal.nil) Pick.nil ?_
      rfl

theorem leaf_spec {M : View} {w : World} (hM : View.le M (View.of w)) (hL : Laid M) {p : List Int} {n c : Nat} (hn : p.length = n) (hl : n ≤ 16384) (hb : isB p) {a : Option Addr} {b o : Nat} (s : SlA M (eK .u8) 1 a p b o) :
    FnC Tryd.prog 21 [.slice a n c] w (fun v _ => v = .tuple #[.agg (leafH p).enc.toArray, .int .i64 0]) := by
  show FnC _ _ _ w (fun v _ => v = .tuple #[.agg (flat (eK .u8) (tagd leafT p)).toArray, .int .i64 0])
  refine enterF (M := M) Tryd.func21 rfl rfl rfl rfl hM ?_
  have k1 := fun (w' : World) (hw' : View.le M (View.of w')) => tagged_spec (c := c) hw' (hL) (t := leafB) (by decide) hn (by omega) hb s
  rw [leafB_ints] at k1
  have hR : (tagd leafT p).length = 32 := tagd_length _ _
  generalize tagd leafT p = R at *
  repeat' first
    | apply cw_seq
    | (refine cw_region_id 0 ?_; (apply ol_val; exact rfl; apply s_allocK; exact zk_26; intro bk2); (apply ol_as; exact rfl; exact rfl); (apply ol_nil))
    | (refine cw_region_id 1 ?_; (apply ol_mv; exact rfl; exact rfl); (apply ol_val; exact rfl; apply stp_pur; apply s_len; exact rfl; exact el_46); (apply ol_val; exact rfl; apply stp_cmp; apply s_gtr; exact rfl; exact rfl; all_goals (intro hc6; try (exfalso; (first | exact hc6 rfl | omega)))); all_goals (apply ol_nil))
    | (refine cw_region_id 2 ?_; (apply ol_val; exact rfl; apply stp_pur; apply s_buildZ; exact ar_26; exact sz_5; exact zk_26); (apply ol_eff; apply s_storeK; exact rfl; exact rfl; exact sz_26; (focus ((repeat constructor); done)); (first | assumption | (rw [List.length_replicate]) | exact rfl); (first | assumption | (rw [List.length_replicate]) | exact rfl)); (apply ol_as; exact rfl; exact rfl); (apply ol_nil))
    | (refine cw_region_id 3 ?_; (apply ol_mv; exact rfl; exact rfl); (apply ol_val; exact rfl; apply s_callv; exact rfl; exact gf_29; (intro w' hw'; exact k1 w' hw'.le)); (apply ol_ex; exact rfl; exact rfl; exact rfl); (apply ol_ex; exact rfl; exact rfl; exact rfl); (apply ol_eff; apply s_storeK; exact rfl; exact rfl; exact sz_26; (focus ((repeat constructor); done)); (first | assumption | (rw [List.length_replicate]) | exact rfl); (first | assumption | (rw [List.length_replicate]) | exact rfl)); (apply ol_as; exact rfl; exact rfl); (apply ol_nil))
    | (apply cw_cond_true; exact rfl; (first | exact rfl | assumption))
    | (apply cw_cond_false; exact rfl; (first | exact rfl | assumption))
    | apply cw_skip
    | apply cw_ret
    | apply cw_block
    | apply cw_exit
  refine ends [] (RVal.cellN rfl rfl rfl (RdN.own (by (repeat (first | exact Has.here | apply Has.there))) (getNK_all hR)) (RVal.tmp rfl RVal.nil)) Pick.nil ?_
  rfl
theorem leaf_full (w : World) {n : Nat} (hl : 16384 < n) (a : Option Addr) (c : Nat) :
    FnC Tryd.prog 21 [.slice a n c] w (fun v _ => v = .tuple #[.agg zeroH.enc.toArray, .int .i64 5]) := by
  show FnC _ _ _ w (fun v _ => v = .tuple #[.agg (flat (eK .u8) (List.replicate 32 0)).toArray, .int .i64 5])
  refine enterF (M := View.of w) Tryd.func21 rfl rfl rfl rfl (View.le.refl _) ?_
  repeat' first
    | apply cw_seq
    | (refine cw_region_id 0 ?_; (apply ol_val; exact rfl; apply s_allocK; exact zk_26; intro bk2); (apply ol_as; exact rfl; exact rfl); (apply ol_nil))
    | (refine cw_region_id 1 ?_; (apply ol_mv; exact rfl; exact rfl); (apply ol_val; exact rfl; apply stp_pur; apply s_len; exact rfl; exact el_46); (apply ol_val; exact rfl; apply stp_cmp; apply s_gtr; exact rfl; exact rfl; all_goals (intro hc6; try (exfalso; (first | exact hc6 rfl | omega)))); all_goals (apply ol_nil))
    | (refine cw_region_id 2 ?_; (apply ol_val; exact rfl; apply stp_pur; apply s_buildZ; exact ar_26; exact sz_5; exact zk_26); (apply ol_eff; apply s_storeK; exact rfl; exact rfl; exact sz_26; (focus ((repeat constructor); done)); (first | assumption | (rw [List.length_replicate]) | exact rfl); (first | assumption | (rw [List.length_replicate]) | exact rfl)); (apply ol_as; exact rfl; exact rfl); (apply ol_nil))
    | (refine cw_region_id 3 ?_; (apply ol_mv; exact rfl; exact rfl))
    | (apply cw_cond_true; exact rfl; (first | exact rfl | assumption))
    | (apply cw_cond_false; exact rfl; (first | exact rfl | assumption))
    | apply cw_skip
    | apply cw_ret
    | apply cw_block
    | apply cw_exit
  refine ends [] (RVal.cellN rfl rfl rfl (RdN.own (by (repeat (first | exact Has.here | apply Has.there))) (getNK_all (xs := List.replicate 32 0) rfl)) (RVal.tmp rfl RVal.nil)) Pick.nil ?_
  rfl
theorem rleaf_spec {M : View} {w : World} (hM : View.le M (View.of w)) {p : List Int} {n c : Nat} (hn : p.length = n) (hl : n ≤ 16384) (hb : isB p) {a : Option Addr} {b o : Nat} (s : SlA M (eK .u8) 1 a p b o) :
    FnC Tryd.prog 22 [.slice a n c] w (fun v _ => v = .agg (leafH p).enc.toArray) := by
  show FnC _ _ _ w (fun v _ => v = .agg (flat (eK .u8) (tagd leafT p)).toArray)
  refine enterF (M := M) Tryd.func22 rfl rfl rfl rfl hM ?_
  have k1 := fun (w' : World) (hw' : View.le M (View.of w')) => rtagged_spec (c := c) hw' (t := leafB) (by decide) hn (by omega) hb s
  rw [leafB_ints] at k1
  have hR : (tagd leafT p).length = 32 := tagd_length _ _
  generalize tagd leafT p = R at *
  repeat' first
    | apply cw_seq
    | (refine cw_region_id 0 ?_; (apply ol_val; exact rfl; apply s_allocK; exact zk_26; intro bk2); (apply ol_nil))
    | (refine cw_region_id 1 ?_; (apply ol_mv; exact rfl; exact rfl); (apply ol_val; exact rfl; apply s_callv; exact rfl; exact gf_30; (intro w' hw'; exact k1 w' hw'.le)); (apply ol_eff; apply s_storeK; exact rfl; exact rfl; exact sz_26; (focus ((repeat constructor); done)); (first | assumption | (rw [List.length_replicate]) | exact rfl); (first | assumption | (rw [List.length_replicate]) | exact rfl)); (apply ol_nil))
    | (apply cw_cond_true; exact rfl; (first | exact rfl | assumption))
    | (apply cw_cond_false; exact rfl; (first | exact rfl | assumption))
    | apply cw_skip
    | apply cw_ret
    | apply cw_block
    | apply cw_exit
  refine ends [] (RVal.cellN rfl rfl rfl (RdN.own (by (repeat (first | exact Has.here | apply Has.there))) (getNK_all hR)) RVal.nil) Pick.nil ?_
  rfl
end Go.Proofs.YtckohecddaacnaaDoor
