/-
  The walk of Concat.
-/
import Derived.Test.YtidjoikheklpiaaW3
namespace Go.Proofs.Ytidjoikheklpiaa
set_option maxRecDepth 20000
set_option linter.unusedSimpArgs false
set_option linter.unusedVariables false
open Go Go.Fw
attribute [local irreducible] CW OL OD FX Stp FnC Ret
set_option maxHeartbeats 8000000

theorem catClGrow_spec {w : World} {n : Nat} (hn : n ≤ 1073741824) :
    FnC Try.prog 46 [.slice none 0 0, .int .i64 (n : Nat)] w (fun v new => ∃ r cap sp, v = .slice (base r none) 0 cap ∧ new = [⟨r, sp, 57⟩] ∧ SO r 0 cap [] sp 3) := by
  refine enterF (M := View.of w) Try.func46 rfl rfl rfl rfl (View.le.refl _) ?_
  refine cw_none 57 ?_
  by_cases h0 : n = 0
  · subst h0
    repeat' first
      | apply cw_seq
      | (refine cw_region_id 0 ?_; (apply ol_as; exact rfl; exact rfl); (apply ol_nil))
      | (refine cw_region_id 1 ?_; (apply ol_mv; exact rfl; exact rfl); (apply ol_val; exact rfl; apply stp_cmp; apply s_lss; exact rfl; exact rfl; all_goals (intro hc6; try (exfalso; (first | exact hc6 rfl | omega)))); all_goals (apply ol_nil))
      | (refine cw_region_id 2 ?_)
      | (refine cw_region_id 3 ?_; (apply ol_mv; exact rfl; exact rfl); (apply ol_mv; exact rfl; exact rfl); (apply ol_val; exact rfl; apply stp_pur; apply s_cap; exact rfl; exact el_45); (apply ol_mv; exact rfl; exact rfl); (apply ol_val; exact rfl; apply stp_pur; apply s_len; exact rfl; exact el_45); (apply ol_val; exact rfl; apply stp_pur; apply s_sub64; exact rfl; exact rfl; omega); (apply ol_val; exact rfl; apply stp_pur; apply s_sub64; exact rfl; exact rfl; omega); (apply ol_as; exact rfl; exact rfl); (apply ol_nil))
      | (refine cw_region_id 4 ?_; (apply ol_mv; exact rfl; exact rfl); (apply ol_val; exact rfl; apply stp_cmp; apply s_gtr; exact rfl; exact rfl; all_goals (intro hc16; try (exfalso; (first | exact hc16 rfl | omega)))); all_goals (apply ol_nil))
      | (refine cw_region_id 5 ?_; (apply ol_mv; exact rfl; exact rfl); (apply ol_mv; exact rfl; exact rfl); (apply ol_val; exact rfl; apply stp_pur; apply s_cap; exact rfl; exact el_45); (apply ol_val; exact rfl; apply stp_pur; apply s_slice; exact rfl; exact el_45; exact sz_57; exact rfl; exact Exists.intro _ rfl; exact rfl; (intro h; first | exact rfl | cases h); (first | omega | (simp; omega) | (simp; done)); (first | omega | (simp; omega) | (simp; done)); (first | omega | (simp; omega) | (simp; done))); (apply ol_mv; exact rfl; exact rfl); (apply ol_val; exact rfl; apply s_appendZ; exact rfl; exact rfl; (focus ((repeat constructor); done)); exact el_45; exact ti_3; exact sz_57; exact zb_57; exact rfl; exact by_57; exact rfl; omega; omega; omega; intro bk22 sk22 ck22 zk22 lk22); (apply ol_mv; exact rfl; exact rfl); (apply ol_val; exact rfl; apply stp_pur; apply s_len; exact rfl; exact el_45); (apply ol_val; exact rfl; apply stp_pur; apply s_slice; exact rfl; exact el_45; exact sz_57; exact rfl; exact Exists.intro _ rfl; exact rfl; (intro h; first | exact rfl | cases h); (first | omega | (simp; omega) | (simp; done)); (first | omega | (simp; omega) | (simp; done)); (first | omega | (simp; omega) | (simp; done))); (apply ol_as; exact rfl; exact rfl); (apply ol_nil))
      | (refine cw_region_id 6 ?_; (apply ol_mv; exact rfl; exact rfl); (apply ol_as; exact rfl; exact rfl); (apply ol_nil))
      | (apply cw_cond_true; exact rfl; (first | exact rfl | assumption))
      | (apply cw_cond_false; exact rfl; (first | exact rfl | assumption))
      | apply cw_skip
      | apply cw_ret
      | apply cw_block
      | apply cw_exit
    refine ends [⟨none, [], 57⟩] (RVal.tmp rfl RVal.nil) (by (repeat (first | exact Pick.nil | (apply Pick.cons; (focus ((repeat (first | exact Spl.here | apply Spl.there)); done))) | exact Pick.refl))) ?_
    exact ⟨none, 0, [], rfl, rfl, SO.nil 3⟩
  ·
    repeat' first
      | apply cw_seq
      | (refine cw_region_id 0 ?_; (apply ol_as; exact rfl; exact rfl); (apply ol_nil))
      | (refine cw_region_id 1 ?_; (apply ol_mv; exact rfl; exact rfl); (apply ol_val; exact rfl; apply stp_cmp; apply s_lss; exact rfl; exact rfl; all_goals (intro hc6; try (exfalso; (first | exact hc6 rfl | omega)))); all_goals (apply ol_nil))
      | (refine cw_region_id 2 ?_)
      | (refine cw_region_id 3 ?_; (apply ol_mv; exact rfl; exact rfl); (apply ol_mv; exact rfl; exact rfl); (apply ol_val; exact rfl; apply stp_pur; apply s_cap; exact rfl; exact el_45); (apply ol_mv; exact rfl; exact rfl); (apply ol_val; exact rfl; apply stp_pur; apply s_len; exact rfl; exact el_45); (apply ol_val; exact rfl; apply stp_pur; apply s_sub64; exact rfl; exact rfl; omega); (apply ol_val; exact rfl; apply stp_pur; apply s_sub64; exact rfl; exact rfl; omega); (apply ol_as; exact rfl; exact rfl); (apply ol_nil))
      | (refine cw_region_id 4 ?_; (apply ol_mv; exact rfl; exact rfl); (apply ol_val; exact rfl; apply stp_cmp; apply s_gtr; exact rfl; exact rfl; all_goals (intro hc16; try (exfalso; (first | exact hc16 rfl | omega)))); all_goals (apply ol_nil))
      | (refine cw_region_id 5 ?_; (apply ol_mv; exact rfl; exact rfl); (apply ol_mv; exact rfl; exact rfl); (apply ol_val; exact rfl; apply stp_pur; apply s_cap; exact rfl; exact el_45); (apply ol_val; exact rfl; apply stp_pur; apply s_slice; exact rfl; exact el_45; exact sz_57; exact rfl; exact Exists.intro _ rfl; exact rfl; (intro h; first | exact rfl | cases h); (first | omega | (simp; omega) | (simp; done)); (first | omega | (simp; omega) | (simp; done)); (first | omega | (simp; omega) | (simp; done))); (apply ol_mv; exact rfl; exact rfl); (apply ol_val; exact rfl; apply s_appendZ (m := n); exact rfl; (refine congrArg some (congrArg (Value.int .i64) ?_); omega); (focus ((repeat constructor); done)); exact el_45; exact ti_3; exact sz_57; exact zb_57; exact rfl; exact by_57; exact rfl; omega; omega; omega; intro bk22 sk22 ck22 zk22 lk22); (apply ol_mv; exact rfl; exact rfl); (apply ol_val; exact rfl; apply stp_pur; apply s_len; exact rfl; exact el_45); (apply ol_val; exact rfl; apply stp_pur; apply s_slice; exact rfl; exact el_45; exact sz_57; exact rfl; exact Exists.intro _ rfl; exact rfl; (intro h; first | exact rfl | cases h); (first | omega | (simp; omega) | (simp; done)); (first | omega | (simp; omega) | (simp; done)); (first | omega | (simp; omega) | (simp; done))); (apply ol_as; exact rfl; exact rfl); (apply ol_nil))
      | (refine cw_region_id 6 ?_; (apply ol_mv; exact rfl; exact rfl); (apply ol_as; exact rfl; exact rfl); (apply ol_nil))
      | (apply cw_cond_true; exact rfl; (first | exact rfl | assumption))
      | (apply cw_cond_false; exact rfl; (first | exact rfl | assumption))
      | apply cw_skip
      | apply cw_ret
      | apply cw_block
      | apply cw_exit
    refine ends [⟨some bk22, sk22, 57⟩] (RVal.tmp rfl RVal.nil) (by (repeat (first | exact Pick.nil | (apply Pick.cons; (focus ((repeat (first | exact Spl.here | apply Spl.there)); done))) | exact Pick.refl))) ?_
    refine ⟨some bk22, ck22, sk22, ?_, rfl, ⟨by simp, by simpa using lk22, by omega, by simp⟩⟩
    simp [tup, slicedA_zero, base]

structure catClSt where
  k : Nat
  r : Option Nat
  A : Option Addr
  c : Nat
  sp : List Value

theorem catCl_spec {M : View} {w : World} (hM : View.le M (View.of w)) {L : List (Sl C3)} {n : Nat} (hn : L.length = n) {A : Option Addr} {b o c : Nat} (s : SlA M Sl.enc 1 A L b o) (hs : ∀ x ∈ L, SlA M C3.enc 3 x.a x.xs x.b x.o) (hl : catLen L ≤ 1073741824) (hL : L.length ≤ 1073741824) :
    FnC Try.prog 31 [.slice A n c] w (RowRes C3.enc 3 57 (catAll L)) := by
  subst hn
  refine enterF (M := M) Try.func31 rfl rfl rfl rfl hM ?_
  repeat' first
    | apply cw_seq
    | (refine cw_region_id 0 ?_; (apply ol_as; exact rfl; exact rfl); (apply ol_nil))
    | (refine cw_region_id 1 ?_; (apply ol_as; exact rfl; exact rfl); (apply ol_nil))
    | (refine cw_region_id 2 ?_; (apply ol_mv; exact rfl; exact rfl); (apply ol_val; exact rfl; apply stp_pur; apply s_len; exact rfl; exact el_72); (apply ol_mv; exact rfl; exact rfl); (apply ol_nil))
    | (apply cw_cond_true; exact rfl; (first | exact rfl | assumption))
    | (apply cw_cond_false; exact rfl; (first | exact rfl | assumption))
    | apply cw_skip
    | apply cw_ret
    | apply cw_block
    | apply cw_exit
  refine cw_loopK (σ := Nat) [0, 9, 10] (by (repeat (first | exact Keep.nil | (apply Keep.cons; exact rfl)))) (fun k => [(3, .int .i64 (catLen (L.take k))), (11, .int .i64 k)]) (fun _ => M) (fun _ => []) (fun k => k ≤ L.length) (fun k => L.length - k) 0 (by (repeat (first | exact trivial | refine And.intro rfl ?_))) (View.le.refl _) (by (repeat (first | exact Pick.nil | (apply Pick.cons; (focus ((repeat (first | exact Spl.here | apply Spl.there)); done))) | exact Pick.refl))) (by omega) ?_
  intro k hk
  have hc := catLen_take L k
  by_cases hk' : k < L.length
  · have hc' := catLen_take L (k + 1)
    have hst : catLen (L.take (k + 1)) = catLen (L.take k) + L[k].xs.length := by rw [List.take_succ_eq_append_getElem hk', catLen_snoc]
    repeat' first
      | apply cw_seq
      | (refine cw_region_id 3 ?_; (apply ol_val; exact rfl; apply stp_cmp; apply s_lss; exact rfl; exact rfl; all_goals (intro hc12; try (exfalso; (first | exact hc12 rfl | omega)))); all_goals (apply ol_nil))
      | (refine cw_region_id 4 ?_; (apply ol_val; exact rfl; apply stp_pur; first | (apply s_indexK; exact rfl; exact rfl; exact el_72; exact sz_45; (first | exact rfl | exact s.at_ (by omega)); omega) | (apply s_indexO; exact rfl; exact rfl; exact el_72; exact sz_45; (first | exact rfl | exact s.at_ (by omega)); omega)); (apply ol_ld; exact rfl; exact rfl; exact rfl; (first | (apply RdN.own; (focus ((repeat constructor); done)); exact GetN.cons rfl GetN.nil) | (apply RdN.view; exact s.cells k hk'))); (apply ol_as; exact rfl; exact rfl); (apply ol_nil))
      | (refine cw_region_id 5 ?_; (apply ol_mv; exact rfl; exact rfl); (apply ol_mv; exact rfl; exact rfl); (apply ol_val; exact rfl; apply stp_pur; apply s_len; exact rfl; exact el_45); (apply ol_val; exact rfl; apply stp_pur; apply s_add64; exact rfl; exact rfl; omega); (apply ol_as; exact rfl; exact rfl); (apply ol_nil))
      | (refine cw_region_id 6 ?_; (apply ol_mv; exact rfl; exact rfl); (apply ol_val; exact rfl; apply stp_cmp; apply s_lss; exact rfl; exact rfl; all_goals (intro hc20; try (exfalso; (first | exact hc20 rfl | omega)))); all_goals (apply ol_nil))
      | (refine cw_region_id 7 ?_)
      | (refine cw_region_id 8 ?_; (apply ol_val; exact rfl; apply stp_pur; apply s_add64; exact rfl; exact rfl; omega); (apply ol_mv; exact rfl; exact rfl); (apply ol_nil))
      | (refine cw_region_id 9 ?_; (apply ol_mv; exact rfl; exact rfl))
      | (refine cw_region_id 10 ?_; (apply ol_mv; exact rfl; exact rfl); (apply ol_val; exact rfl; apply stp_pur; apply s_len; exact rfl; exact el_72); (apply ol_mv; exact rfl; exact rfl); (apply ol_nil))
      | (apply cw_cond_true; exact rfl; (first | exact rfl | assumption))
      | (apply cw_cond_false; exact rfl; (first | exact rfl | assumption))
      | apply cw_skip
      | apply cw_ret
      | apply cw_block
      | apply cw_exit
    refine ⟨k + 1, ⟨?_, View.le.refl _, by (repeat (first | exact Pick.nil | (apply Pick.cons; (focus ((repeat (first | exact Spl.here | apply Spl.there)); done))) | exact Pick.refl)), hk', by omega⟩⟩
    rw [hst]
    (repeat (first | exact trivial | refine And.intro rfl ?_))
  · have : k = L.length := by omega
    subst this
    rw [List.take_length]
    repeat' first
      | apply cw_seq
      | (refine cw_region_id 3 ?_; (apply ol_val; exact rfl; apply stp_cmp; apply s_lss; exact rfl; exact rfl; all_goals (intro hc12; try (exfalso; (first | exact hc12 rfl | omega)))); all_goals (apply ol_nil))
      | (refine cw_region_id 4 ?_; (apply ol_val; exact rfl; apply stp_pur; first | (apply s_indexK; exact rfl; exact rfl; exact el_72; exact sz_45; (first | exact rfl); omega) | (apply s_indexO; exact rfl; exact rfl; exact el_72; exact sz_45; (first | exact rfl); omega)); (apply ol_ld; exact rfl; exact rfl; exact rfl; (apply RdN.own; (focus ((repeat constructor); done)); exact GetN.cons rfl GetN.nil)); (apply ol_as; exact rfl; exact rfl); (apply ol_nil))
      | (refine cw_region_id 5 ?_; (apply ol_mv; exact rfl; exact rfl); (apply ol_mv; exact rfl; exact rfl); (apply ol_val; exact rfl; apply stp_pur; apply s_len; exact rfl; exact el_45); (apply ol_val; exact rfl; apply stp_pur; apply s_add64; exact rfl; exact rfl; omega); (apply ol_as; exact rfl; exact rfl); (apply ol_nil))
      | (refine cw_region_id 6 ?_; (apply ol_mv; exact rfl; exact rfl); (apply ol_val; exact rfl; apply stp_cmp; apply s_lss; exact rfl; exact rfl; all_goals (intro hc20; try (exfalso; (first | exact hc20 rfl | omega)))); all_goals (apply ol_nil))
      | (refine cw_region_id 7 ?_)
      | (refine cw_region_id 8 ?_; (apply ol_val; exact rfl; apply stp_pur; apply s_add64; exact rfl; exact rfl; omega); (apply ol_mv; exact rfl; exact rfl); (apply ol_nil))
      | (refine cw_region_id 9 ?_; (apply ol_mv; exact rfl; exact rfl); (apply ol_val; exact rfl; apply s_call; exact rfl; exact gf_46; (intro w' hw'; exact catClGrow_spec hl); ((intro v new h; obtain ⟨r, cap, sp, rfl, rfl, so⟩ := h))); (apply ol_as; exact rfl; exact rfl); (apply ol_nil))
      | (refine cw_region_id 10 ?_; (apply ol_mv; exact rfl; exact rfl); (apply ol_val; exact rfl; apply stp_pur; apply s_len; exact rfl; exact el_72); (apply ol_mv; exact rfl; exact rfl); (apply ol_nil))
      | (apply cw_cond_true; exact rfl; (first | exact rfl | assumption))
      | (apply cw_cond_false; exact rfl; (first | exact rfl | assumption))
      | apply cw_skip
      | apply cw_ret
      | apply cw_block
      | apply cw_exit
    refine cw_loopK (σ := catClSt) [25, 26] (by (repeat (first | exact Keep.nil | (apply Keep.cons; exact rfl)))) (fun s => [(6, .slice (base s.r s.A) (catLen (L.take s.k)) s.c), (27, .int .i64 s.k)]) (fun _ => M) (fun s => [⟨s.r, flat C3.enc (catAll (L.take s.k)) ++ s.sp, 57⟩]) (fun s => s.k ≤ L.length ∧ SO s.r (catLen (L.take s.k)) s.c (flat C3.enc (catAll (L.take s.k))) s.sp 3) (fun s => L.length - s.k) ⟨0, r, none, cap, sp⟩ (by (repeat (first | exact trivial | refine And.intro rfl ?_))) (View.le.refl _) (by (repeat (first | exact Pick.nil | (apply Pick.cons; (focus ((repeat (first | exact Spl.here | apply Spl.there)); done))) | exact Pick.refl))) ⟨by dsimp only; omega, so⟩ ?_
    rintro ⟨k, r, A', c', sp⟩ ⟨hk, so⟩
    dsimp only at hk so
    dsimp only
    have hc := catLen_take L k
    by_cases hk' : k < L.length
    · have hc' := catLen_take L (k + 1)
      have hst : catLen (L.take (k + 1)) = catLen (L.take k) + L[k].xs.length := by rw [List.take_succ_eq_append_getElem hk', catLen_snoc]
      have hst2 : catAll (L.take (k + 1)) = catAll (L.take k) ++ L[k].xs := by rw [List.take_succ_eq_append_getElem hk', catAll_snoc]
      have sx := hs L[k] (List.getElem_mem _)
      have hset := s.cells k hk'
      generalize L[k] = x at *
      repeat' first
        | apply cw_seq
        | (refine cw_region_id 11 ?_; (apply ol_val; exact rfl; apply stp_cmp; apply s_lss; exact rfl; exact rfl; all_goals (intro hc28; try (exfalso; (first | exact hc28 rfl | omega)))); all_goals (apply ol_nil))
        | (refine cw_region_id 12 ?_; (apply ol_val; exact rfl; apply stp_pur; first | (apply s_indexK; exact rfl; exact rfl; exact el_72; exact sz_45; (first | exact rfl | exact s.at_ (by omega) | exact sx.at_ (by omega)); omega) | (apply s_indexO; exact rfl; exact rfl; exact el_72; exact sz_45; (first | exact rfl | exact s.at_ (by omega) | exact sx.at_ (by omega)); omega)); (apply ol_ld; exact rfl; exact rfl; exact rfl; (first | (apply RdN.own; (focus ((repeat constructor); done)); exact GetN.cons rfl GetN.nil) | (apply RdN.view; exact hset))); (apply ol_as; exact rfl; exact rfl); (apply ol_nil))
        | (refine cw_region_id 13 ?_; (apply ol_mv; exact rfl; exact rfl); (apply ol_mv; exact rfl; exact rfl); (apply ol_val; exact rfl; first | (apply s_append_e; exact rfl; exact rfl; (focus ((repeat constructor); done)); exact el_45; exact sz_57; exact zb_57; exact rfl; exact by_57; (first | exact (fun _ => rfl) | (intro _; exact s.at_ (by omega)) | (intro _; exact sx.at_ (by omega))); (first | (apply RdN.own; (focus ((repeat constructor); done)); (focus ((repeat (first | exact rfl | constructor)); done))) | (apply RdN.view; exact SlA.all C3.enc_length sx)); (first | exact rfl | exact ones_flat C3.ones _); (first | omega | (simp; omega) | (simp; done)); (first | omega | (simp; omega) | (simp; done)); intro rk33 sk33 ck33 ok33) | (apply s_append_r; exact rfl; exact rfl; (focus ((repeat constructor); done)); (first | exact rfl | exact (List.append_nil _).symm); exact el_45; exact sz_57; exact zb_57; exact rfl; exact by_57; (first | exact SO.nil _ | assumption | (exact ⟨by simp, by simp, Nat.le_refl _, by simp⟩)); (first | exact (fun _ => rfl) | (intro _; exact s.at_ (by omega)) | (intro _; exact sx.at_ (by omega))); (first | (apply RdN.own; (focus ((repeat constructor); done)); (focus ((repeat (first | exact rfl | constructor)); done))) | (apply RdN.view; exact SlA.all C3.enc_length sx)); (first | exact rfl | exact ones_flat C3.ones _); (first | omega | (simp; omega) | (simp; done)); (first | omega | (simp; omega) | (simp; done)); intro rk33 sk33 ck33 ok33) | (apply s_append_b; exact rfl; exact rfl; (focus ((repeat constructor); done)); (first | exact rfl | exact (List.append_nil _).symm); exact el_45; exact sz_57; exact zb_57; exact rfl; exact by_57; (first | exact SO.nil _ | assumption | (exact ⟨by simp, by simp, Nat.le_refl _, by simp⟩)); (first | exact (fun _ => rfl) | (intro _; exact s.at_ (by omega)) | (intro _; exact sx.at_ (by omega))); (first | (apply RdN.own; (focus ((repeat constructor); done)); (focus ((repeat (first | exact rfl | constructor)); done))) | (apply RdN.view; exact SlA.all C3.enc_length sx)); (first | exact rfl | exact ones_flat C3.ones _); (first | omega | (simp; omega) | (simp; done)); (first | omega | (simp; omega) | (simp; done)); intro rk33 sk33 ck33 ok33) | (apply s_append_n; exact rfl; exact rfl; (focus ((repeat constructor); done)); exact el_45; exact sz_57; exact zb_57; exact rfl; exact by_57; (first | exact (fun _ => rfl) | (intro _; exact s.at_ (by omega)) | (intro _; exact sx.at_ (by omega))); (first | (apply RdN.own; (focus ((repeat constructor); done)); (focus ((repeat (first | exact rfl | constructor)); done))) | (apply RdN.view; exact SlA.all C3.enc_length sx)); (first | exact rfl | exact ones_flat C3.ones _); (first | omega | (simp; omega) | (simp; done)); (first | omega | (simp; omega) | (simp; done)); intro rk33 sk33 ck33 ok33)); (apply ol_as; exact rfl; exact rfl); (apply ol_nil))
        | (refine cw_region_id 14 ?_; (apply ol_val; exact rfl; apply stp_pur; apply s_add64; exact rfl; exact rfl; omega); (apply ol_mv; exact rfl; exact rfl); (apply ol_nil))
        | (refine cw_region_id 15 ?_; (apply ol_mv; exact rfl; exact rfl); (apply ol_as; exact rfl; exact rfl); (apply ol_nil))
        | (apply cw_cond_true; exact rfl; (first | exact rfl | assumption))
        | (apply cw_cond_false; exact rfl; (first | exact rfl | assumption))
        | apply cw_skip
        | apply cw_ret
        | apply cw_block
        | apply cw_exit
      refine ⟨⟨k + 1, rk33, A', ck33, sk33⟩, ⟨?_, View.le.refl _, ?_, ⟨hk', ?_⟩, by dsimp only; omega⟩⟩
      · dsimp only; rw [hst]; (repeat (first | exact trivial | refine And.intro rfl ?_))
      · dsimp only; rw [hst2, flat_append]; (repeat (first | exact Pick.nil | (apply Pick.cons; (focus ((repeat (first | exact Spl.here | apply Spl.there)); done))) | exact Pick.refl))
      · dsimp only; rw [hst, hst2, flat_append]; exact ok33
    · have : k = L.length := by omega
      subst this
      rw [List.take_length] at so ⊢
      repeat' first
        | apply cw_seq
        | (refine cw_region_id 11 ?_; (apply ol_val; exact rfl; apply stp_cmp; apply s_lss; exact rfl; exact rfl; all_goals (intro hc28; try (exfalso; (first | exact hc28 rfl | omega)))); all_goals (apply ol_nil))
        | (refine cw_region_id 12 ?_; (apply ol_val; exact rfl; apply stp_pur; first | (apply s_indexK; exact rfl; exact rfl; exact el_72; exact sz_45; (first | exact rfl); omega) | (apply s_indexO; exact rfl; exact rfl; exact el_72; exact sz_45; (first | exact rfl); omega)); (apply ol_ld; exact rfl; exact rfl; exact rfl; (apply RdN.own; (focus ((repeat constructor); done)); exact GetN.cons rfl GetN.nil)); (apply ol_as; exact rfl; exact rfl); (apply ol_nil))
        | (refine cw_region_id 13 ?_; (apply ol_mv; exact rfl; exact rfl); (apply ol_mv; exact rfl; exact rfl); (apply ol_val; exact rfl; first | (apply s_append_e; exact rfl; exact rfl; (focus ((repeat constructor); done)); exact el_45; exact sz_57; exact zb_57; exact rfl; exact by_57; (first | exact (fun _ => rfl)); (first | (apply RdN.own; (focus ((repeat constructor); done)); (focus ((repeat (first | exact rfl | constructor)); done)))); (first | exact rfl); (first | omega | (simp; omega) | (simp; done)); (first | omega | (simp; omega) | (simp; done)); intro rk33 sk33 ck33 ok33) | (apply s_append_r; exact rfl; exact rfl; (focus ((repeat constructor); done)); (first | exact rfl | exact (List.append_nil _).symm); exact el_45; exact sz_57; exact zb_57; exact rfl; exact by_57; (first | exact SO.nil _ | assumption | (exact ⟨by simp, by simp, Nat.le_refl _, by simp⟩)); (first | exact (fun _ => rfl)); (first | (apply RdN.own; (focus ((repeat constructor); done)); (focus ((repeat (first | exact rfl | constructor)); done)))); (first | exact rfl); (first | omega | (simp; omega) | (simp; done)); (first | omega | (simp; omega) | (simp; done)); intro rk33 sk33 ck33 ok33) | (apply s_append_b; exact rfl; exact rfl; (focus ((repeat constructor); done)); (first | exact rfl | exact (List.append_nil _).symm); exact el_45; exact sz_57; exact zb_57; exact rfl; exact by_57; (first | exact SO.nil _ | assumption | (exact ⟨by simp, by simp, Nat.le_refl _, by simp⟩)); (first | exact (fun _ => rfl)); (first | (apply RdN.own; (focus ((repeat constructor); done)); (focus ((repeat (first | exact rfl | constructor)); done)))); (first | exact rfl); (first | omega | (simp; omega) | (simp; done)); (first | omega | (simp; omega) | (simp; done)); intro rk33 sk33 ck33 ok33) | (apply s_append_n; exact rfl; exact rfl; (focus ((repeat constructor); done)); exact el_45; exact sz_57; exact zb_57; exact rfl; exact by_57; (first | exact (fun _ => rfl)); (first | (apply RdN.own; (focus ((repeat constructor); done)); (focus ((repeat (first | exact rfl | constructor)); done)))); (first | exact rfl); (first | omega | (simp; omega) | (simp; done)); (first | omega | (simp; omega) | (simp; done)); intro rk33 sk33 ck33 ok33)); (apply ol_as; exact rfl; exact rfl); (apply ol_nil))
        | (refine cw_region_id 14 ?_; (apply ol_val; exact rfl; apply stp_pur; apply s_add64; exact rfl; exact rfl; omega); (apply ol_mv; exact rfl; exact rfl); (apply ol_nil))
        | (refine cw_region_id 15 ?_; (apply ol_mv; exact rfl; exact rfl); (apply ol_as; exact rfl; exact rfl); (apply ol_nil))
        | (apply cw_cond_true; exact rfl; (first | exact rfl | assumption))
        | (apply cw_cond_false; exact rfl; (first | exact rfl | assumption))
        | apply cw_skip
        | apply cw_ret
        | apply cw_block
        | apply cw_exit
      refine ends [⟨r, flat C3.enc (catAll L) ++ sp, 57⟩] (RVal.tmp rfl RVal.nil) (by (repeat (first | exact Pick.nil | (apply Pick.cons; (focus ((repeat (first | exact Spl.here | apply Spl.there)); done))) | exact Pick.refl))) ?_
      refine ⟨r, A', c', sp, ?_, rfl, ?_⟩
      · rw [catAll_length]; rfl
      · rw [catAll_length]; exact so

end Go.Proofs.Ytidjoikheklpiaa
