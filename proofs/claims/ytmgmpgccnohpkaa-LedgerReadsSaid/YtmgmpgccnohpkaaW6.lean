/-
  The walks of the reference's Same and of the ledger's cloned.
-/
import Derived.Test.YtmgmpgccnohpkaaW5
namespace Go.Proofs.Ytmgmpgccnohpkaa
set_option maxRecDepth 20000
set_option linter.unusedSimpArgs false
set_option linter.unusedVariables false
open Go Go.Fw
attribute [local irreducible] CW OL OD FX Stp
set_option maxHeartbeats 4000000

def Ent.row (e : Ent) : List Int := [e.d, e.c, e.a, e.n]
theorem Ent.enc_row (e : Ent) : e.enc = ints e.row := rfl
theorem Ent.row_inj {x y : Ent} : x.row = y.row ↔ x = y := by
  constructor
  · intro h
    obtain ⟨a, b, c, d⟩ := x
    obtain ⟨a', b', c', d'⟩ := y
    simp only [Ent.row, List.cons.injEq] at h
    obtain ⟨rfl, rfl, rfl, rfl, _⟩ := h
    rfl
  · rintro rfl
    rfl

theorem take_step {α : Type} {xs ys : List α} {k : Nat} (h1 : k < xs.length) (h2 : k < ys.length) (h : xs.take k = ys.take k) (he : xs[k] = ys[k]) : xs.take (k + 1) = ys.take (k + 1) := by
  rw [List.take_succ_eq_append_getElem h1, List.take_succ_eq_append_getElem h2, h, he]

theorem same_spec (M : View) (w : World) (hM : View.le M (View.of w)) (xs ys : List Int) (es fs : List Ent) {a1 a2 a3 a4 : Option Addr} {b1 o1 c1 b2 o2 c2 b3 o3 c3 b4 o4 c4 : Nat}
    (s1 : SlA M enc1 1 a1 xs b1 o1) (s2 : SlA M Ent.enc 4 a2 es b2 o2) (s3 : SlA M enc1 1 a3 ys b3 o3) (s4 : SlA M Ent.enc 4 a4 fs b4 o4) (hl1 : xs.length ≤ 4294967296) (hl2 : es.length ≤ 4294967296) :
    FnC Try.prog 12 [.agg [.slice a1 xs.length c1, .slice a2 es.length c2].toArray, .agg [.slice a3 ys.length c3, .slice a4 fs.length c4].toArray] w (fun v _ => v = .bool (decide (xs = ys ∧ es = fs))) := by
  refine enterF (M := M) Try.func12 rfl rfl rfl rfl hM ?_
  by_cases hlen : xs.length = ys.length ∧ es.length = fs.length
  · obtain ⟨g1, g2⟩ := hlen
    repeat' first
      | apply cw_seq
      | (refine cw_region_id 0 ?_; (first | (apply ol_val; exact rfl; apply s_boxN; exact rfl; intro _) | (apply ol_val; exact rfl; apply s_box1; exact rfl; exact rfl; intro _)); (first | (apply ol_val; exact rfl; apply s_boxN; exact rfl; intro _) | (apply ol_val; exact rfl; apply s_box1; exact rfl; exact rfl; intro _)); (apply ol_as; exact rfl; exact rfl); (apply ol_nil))
      | (refine cw_region_id 1 ?_; (apply ol_fa; exact rfl; exact rfl; exact fd_26_0; (first | exact Nat.zero_add _ | exact Nat.add_zero _ | exact rfl)); (apply ol_ld; exact rfl; exact rfl; exact rfl; (apply RdN.own; (focus ((repeat constructor); done)); exact GetN.cons rfl GetN.nil)); (apply ol_val; exact rfl; apply stp_pur; apply s_len; exact rfl; exact el_24); (apply ol_fa; exact rfl; exact rfl; exact fd_26_0; (first | exact Nat.zero_add _ | exact Nat.add_zero _ | exact rfl)); (apply ol_ld; exact rfl; exact rfl; exact rfl; (apply RdN.own; (focus ((repeat constructor); done)); exact GetN.cons rfl GetN.nil)); (apply ol_val; exact rfl; apply stp_pur; apply s_len; exact rfl; exact el_24); (apply ol_val; exact rfl; apply stp_cmp; apply s_neq; exact rfl; exact rfl; all_goals (intro _; try (exfalso; (first | (rename_i hh; exact hh rfl) | omega); done))); all_goals (apply ol_mv; exact rfl; exact rfl); all_goals (first | (apply ol_gskip; exact rfl; exact rfl; (first | exact rfl | assumption); exact rfl) | (apply ol_gskipu; exact rfl; exact rfl; exact rfl) | (apply ol_gval; exact rfl; exact rfl; exact rfl; (first | exact rfl | assumption); apply stp_pur; apply s_fieldAddr'; exact rfl; exact fd_26_1; (first | exact Nat.zero_add _ | exact Nat.add_zero _ | exact rfl))); all_goals (first | (apply ol_gskip; exact rfl; exact rfl; (first | exact rfl | assumption); exact rfl) | (apply ol_gskipu; exact rfl; exact rfl; exact rfl) | (apply ol_gval; exact rfl; exact rfl; exact rfl; (first | exact rfl | assumption); apply stp_pur; apply s_load1; exact rfl; exact rfl; (apply RdN.own; (focus ((repeat constructor); done)); exact GetN.cons rfl GetN.nil))); all_goals (first | (apply ol_gskip; exact rfl; exact rfl; (first | exact rfl | assumption); exact rfl) | (apply ol_gskipu; exact rfl; exact rfl; exact rfl) | (apply ol_gval; exact rfl; exact rfl; exact rfl; (first | exact rfl | assumption); apply stp_pur; apply s_len; exact rfl; exact el_22)); all_goals (first | (apply ol_gskip; exact rfl; exact rfl; (first | exact rfl | assumption); exact rfl) | (apply ol_gskipu; exact rfl; exact rfl; exact rfl) | (apply ol_gval; exact rfl; exact rfl; exact rfl; (first | exact rfl | assumption); apply stp_pur; apply s_fieldAddr'; exact rfl; exact fd_26_1; (first | exact Nat.zero_add _ | exact Nat.add_zero _ | exact rfl))); all_goals (first | (apply ol_gskip; exact rfl; exact rfl; (first | exact rfl | assumption); exact rfl) | (apply ol_gskipu; exact rfl; exact rfl; exact rfl) | (apply ol_gval; exact rfl; exact rfl; exact rfl; (first | exact rfl | assumption); apply stp_pur; apply s_load1; exact rfl; exact rfl; (apply RdN.own; (focus ((repeat constructor); done)); exact GetN.cons rfl GetN.nil))); all_goals (first | (apply ol_gskip; exact rfl; exact rfl; (first | exact rfl | assumption); exact rfl) | (apply ol_gskipu; exact rfl; exact rfl; exact rfl) | (apply ol_gval; exact rfl; exact rfl; exact rfl; (first | exact rfl | assumption); apply stp_pur; apply s_len; exact rfl; exact el_22)); all_goals (first | (apply ol_gskip; exact rfl; exact rfl; (first | exact rfl | assumption); exact rfl) | (apply ol_gskipu; exact rfl; exact rfl; exact rfl) | (apply ol_gval; exact rfl; exact rfl; exact rfl; (first | exact rfl | assumption); apply stp_cmp; apply s_neq; exact rfl; exact rfl; all_goals (intro _; try (exfalso; (first | (rename_i hh; exact hh rfl) | omega); done)))); all_goals (first | (apply ol_val; exact rfl; apply stp_pur; apply s_pick_t; exact rfl; (first | exact rfl | assumption); exact rfl) | (apply ol_val; exact rfl; apply stp_pur; apply s_pick_f; exact rfl; (first | exact rfl | assumption); exact rfl)); all_goals (apply ol_nil))
      | (refine cw_region_id 2 ?_; (apply ol_as; exact rfl; exact rfl); (apply ol_nil))
      | (refine cw_region_id 3 ?_; (apply ol_as; exact rfl; exact rfl); (apply ol_nil))
      | (apply cw_cond_true; exact rfl; (first | exact rfl | assumption))
      | (apply cw_cond_false; exact rfl; (first | exact rfl | assumption))
      | apply cw_skip
      | apply cw_ret
      | apply cw_block
      | apply cw_exit
    rename_i bA bB _ _
    refine cw_loopK (σ := Nat) [2, 3] (by (repeat (first | exact Keep.nil | (apply Keep.cons; exact rfl)))) (fun k => [(5, .int .i64 k)]) (fun _ => M) (fun _ => [⟨some bA, [.slice a1 xs.length c1, .slice a2 es.length c2], 26⟩, ⟨some bB, [.slice a3 ys.length c3, .slice a4 fs.length c4], 26⟩]) (fun k => k ≤ xs.length ∧ xs.take k = ys.take k) (fun k => xs.length - k) 0 (by (repeat (first | exact trivial | refine And.intro rfl ?_))) (View.le.refl _) (by (repeat (first | exact Pick.nil | (apply Pick.cons; (focus ((repeat (first | exact Spl.here | apply Spl.there)); done))) | exact Pick.refl))) ⟨by omega, by simp⟩ ?_
    intro k ⟨hk, ht⟩
    by_cases hk' : k < xs.length
    ·
      repeat' first
        | apply cw_seq
        | (refine cw_region_id 4 ?_; (apply ol_mv; exact rfl; exact rfl); (apply ol_fa; exact rfl; exact rfl; exact fd_26_0; (first | exact Nat.zero_add _ | exact Nat.add_zero _ | exact rfl)); (apply ol_ld; exact rfl; exact rfl; exact rfl; (first | (apply RdN.own; (focus ((repeat constructor); done)); exact GetN.cons rfl GetN.nil) | (apply RdN.view; exact s1.cells _ (by omega)) | (apply RdN.view; exact s3.cells _ (by omega)))); (apply ol_val; exact rfl; apply stp_pur; apply s_len; exact rfl; exact el_24); (apply ol_val; exact rfl; apply stp_cmp; apply s_lss; exact rfl; exact rfl; all_goals (intro _; try (exfalso; (first | (rename_i hh; exact hh rfl) | omega); done))); all_goals (apply ol_nil))
        | (refine cw_draw (id := 6) 11 (.mv 0 (.mv 1 (.mv 2 (.mv 3 (.mv 4 (.mv 5 (.mv 6 (.mv 7 (.mv 8 (.mv 9 (.mv 10 (PT.nil)))))))))))) mixed (by kernel_rfl) ?_; (apply od_mv; exact rfl; exact rfl; apply s_fieldAddr'; exact rfl; exact fd_26_0; (first | exact Nat.zero_add _ | exact Nat.add_zero _ | exact rfl)); (apply od_mv; exact rfl; exact rfl; apply s_load1; exact rfl; exact rfl; (first | (apply RdN.own; (focus ((repeat constructor); done)); exact GetN.cons rfl GetN.nil) | (apply RdN.view; exact s1.cells _ (by omega)) | (apply RdN.view; exact s3.cells _ (by omega)))); (apply od_mv; exact rfl; exact rfl; apply s_move; exact rfl); (first | (apply od_mv; exact rfl; exact rfl; apply s_indexK; exact rfl; exact rfl; exact el_24; exact sz_3; (first | exact rfl | exact s1.at_ (by omega) | exact s3.at_ (by omega)); omega) | (apply od_mv; exact rfl; exact rfl; apply s_indexO; exact rfl; exact rfl; exact el_24; exact sz_3; (first | exact rfl | exact s1.at_ (by omega) | exact s3.at_ (by omega)); omega)); (apply od_mv; exact rfl; exact rfl; apply s_load1; exact rfl; exact rfl; (first | (apply RdN.own; (focus ((repeat constructor); done)); (first | exact GetN.cons rfl GetN.nil | (apply getN_ints_app; (first | omega | (simp; omega) | (simp; done))) | (apply getN_ints; (first | omega | (simp; omega) | (simp; done))))) | (apply RdN.view; exact s1.cells _ (by omega)) | (apply RdN.view; exact s3.cells _ (by omega)))); (apply od_mv; exact rfl; exact rfl; apply s_fieldAddr'; exact rfl; exact fd_26_0; (first | exact Nat.zero_add _ | exact Nat.add_zero _ | exact rfl)); (apply od_mv; exact rfl; exact rfl; apply s_load1; exact rfl; exact rfl; (first | (apply RdN.own; (focus ((repeat constructor); done)); exact GetN.cons rfl GetN.nil) | (apply RdN.view; exact s1.cells _ (by omega)) | (apply RdN.view; exact s3.cells _ (by omega)))); (apply od_mv; exact rfl; exact rfl; apply s_move; exact rfl); (first | (apply od_mv; exact rfl; exact rfl; apply s_indexK; exact rfl; exact rfl; exact el_24; exact sz_3; (first | exact rfl | exact s1.at_ (by omega) | exact s3.at_ (by omega)); omega) | (apply od_mv; exact rfl; exact rfl; apply s_indexO; exact rfl; exact rfl; exact el_24; exact sz_3; (first | exact rfl | exact s1.at_ (by omega) | exact s3.at_ (by omega)); omega)); (apply od_mv; exact rfl; exact rfl; apply s_load1; exact rfl; exact rfl; (first | (apply RdN.own; (focus ((repeat constructor); done)); (first | exact GetN.cons rfl GetN.nil | (apply getN_ints_app; (first | omega | (simp; omega) | (simp; done))) | (apply getN_ints; (first | omega | (simp; omega) | (simp; done))))) | (apply RdN.view; exact s1.cells _ (by omega)) | (apply RdN.view; exact s3.cells _ (by omega)))); (apply od_cmp; exact rfl; exact rfl; apply s_neq; exact rfl; exact rfl; all_goals (intro _; try (exfalso; (first | (rename_i hh; exact hh rfl) | omega); done))); all_goals (apply od_nil; (first | exact Wk.refl _ _ | (focus (apply Wk.mk; exact View.le.refl _; (repeat constructor); done)))); all_goals (apply ol_nil))
        | (refine cw_region_id 7 ?_; (apply ol_as; exact rfl; exact rfl); (apply ol_nil))
        | (refine cw_region_id 5 ?_; (apply ol_mv; exact rfl; exact rfl); (apply ol_val; exact rfl; apply stp_pur; apply s_add64; exact rfl; exact rfl; omega); (apply ol_as; exact rfl; exact rfl); (apply ol_nil))
        | (refine cw_region_id 8 ?_; (apply ol_as; exact rfl; exact rfl); (apply ol_nil))
        | (apply cw_cond_true; exact rfl; (first | exact rfl | assumption))
        | (apply cw_cond_false; exact rfl; (first | exact rfl | assumption))
        | apply cw_skip
        | apply cw_ret
        | apply cw_block
        | apply cw_exit
      · refine ends [] (RVal.tmp rfl RVal.nil) Pick.nil ?_
        rename_i h1 h2
        have : xs ≠ ys := fun e => h2 (by subst e; rfl)
        simp [tup, this]
      · rename_i h1 h2
        exact ⟨k + 1, ⟨by (repeat (first | exact trivial | refine And.intro rfl ?_)), View.le.refl _, by (repeat (first | exact Pick.nil | (apply Pick.cons; (focus ((repeat (first | exact Spl.here | apply Spl.there)); done))) | exact Pick.refl)), ⟨by omega, take_step hk' (by omega) ht (Decidable.not_not.1 h2)⟩, by omega⟩⟩
    · have ek : k = xs.length := by omega
      subst ek
      rw [List.take_length, g1, List.take_length] at ht
      clear hk hk'
      repeat' first
        | apply cw_seq
        | (refine cw_region_id 4 ?_; (apply ol_mv; exact rfl; exact rfl); (apply ol_fa; exact rfl; exact rfl; exact fd_26_0; (first | exact Nat.zero_add _ | exact Nat.add_zero _ | exact rfl)); (apply ol_ld; exact rfl; exact rfl; exact rfl; (apply RdN.own; (focus ((repeat constructor); done)); exact GetN.cons rfl GetN.nil)); (apply ol_val; exact rfl; apply stp_pur; apply s_len; exact rfl; exact el_24); (apply ol_val; exact rfl; apply stp_cmp; apply s_lss; exact rfl; exact rfl; all_goals (intro _; try (exfalso; (first | (rename_i hh; exact hh rfl) | omega); done))); all_goals (apply ol_nil))
        | (refine cw_draw (id := 6) 11 (.mv 0 (.mv 1 (.mv 2 (.mv 3 (.mv 4 (.mv 5 (.mv 6 (.mv 7 (.mv 8 (.mv 9 (.mv 10 (PT.nil)))))))))))) mixed (by kernel_rfl) ?_; (apply od_mv; exact rfl; exact rfl; apply s_fieldAddr'; exact rfl; exact fd_26_0; (first | exact Nat.zero_add _ | exact Nat.add_zero _ | exact rfl)); (apply od_mv; exact rfl; exact rfl; apply s_load1; exact rfl; exact rfl; (apply RdN.own; (focus ((repeat constructor); done)); exact GetN.cons rfl GetN.nil)); (apply od_mv; exact rfl; exact rfl; apply s_move; exact rfl); (first | (apply od_mv; exact rfl; exact rfl; apply s_indexK; exact rfl; exact rfl; exact el_24; exact sz_3; (first | exact rfl); omega) | (apply od_mv; exact rfl; exact rfl; apply s_indexO; exact rfl; exact rfl; exact el_24; exact sz_3; (first | exact rfl); omega)); (apply od_mv; exact rfl; exact rfl; apply s_load1; exact rfl; exact rfl; (apply RdN.own; (focus ((repeat constructor); done)); (first | exact GetN.cons rfl GetN.nil | (apply getN_ints_app; (first | omega | (simp; omega) | (simp; done))) | (apply getN_ints; (first | omega | (simp; omega) | (simp; done)))))); (apply od_mv; exact rfl; exact rfl; apply s_fieldAddr'; exact rfl; exact fd_26_0; (first | exact Nat.zero_add _ | exact Nat.add_zero _ | exact rfl)); (apply od_mv; exact rfl; exact rfl; apply s_load1; exact rfl; exact rfl; (apply RdN.own; (focus ((repeat constructor); done)); exact GetN.cons rfl GetN.nil)); (apply od_mv; exact rfl; exact rfl; apply s_move; exact rfl); (first | (apply od_mv; exact rfl; exact rfl; apply s_indexK; exact rfl; exact rfl; exact el_24; exact sz_3; (first | exact rfl); omega) | (apply od_mv; exact rfl; exact rfl; apply s_indexO; exact rfl; exact rfl; exact el_24; exact sz_3; (first | exact rfl); omega)); (apply od_mv; exact rfl; exact rfl; apply s_load1; exact rfl; exact rfl; (apply RdN.own; (focus ((repeat constructor); done)); (first | exact GetN.cons rfl GetN.nil | (apply getN_ints_app; (first | omega | (simp; omega) | (simp; done))) | (apply getN_ints; (first | omega | (simp; omega) | (simp; done)))))); (apply od_cmp; exact rfl; exact rfl; apply s_neq; exact rfl; exact rfl; all_goals (intro _; try (exfalso; (first | (rename_i hh; exact hh rfl) | omega); done))); all_goals (apply od_nil; (first | exact Wk.refl _ _ | (focus (apply Wk.mk; exact View.le.refl _; (repeat constructor); done)))); all_goals (apply ol_nil))
        | (refine cw_region_id 7 ?_; (apply ol_as; exact rfl; exact rfl); (apply ol_nil))
        | (refine cw_region_id 5 ?_; (apply ol_mv; exact rfl; exact rfl); (apply ol_val; exact rfl; apply stp_pur; apply s_add64; exact rfl; exact rfl; omega); (apply ol_as; exact rfl; exact rfl); (apply ol_nil))
        | (refine cw_region_id 8 ?_; (apply ol_as; exact rfl; exact rfl); (apply ol_nil))
        | (apply cw_cond_true; exact rfl; (first | exact rfl | assumption))
        | (apply cw_cond_false; exact rfl; (first | exact rfl | assumption))
        | apply cw_skip
        | apply cw_ret
        | apply cw_block
        | apply cw_exit
      refine cw_loopK (σ := Nat) [2, 3] (by (repeat (first | exact Keep.nil | (apply Keep.cons; exact rfl)))) (fun k => [(6, .int .i64 k)]) (fun _ => M) (fun _ => [⟨some bA, [.slice a1 xs.length c1, .slice a2 es.length c2], 26⟩, ⟨some bB, [.slice a3 ys.length c3, .slice a4 fs.length c4], 26⟩]) (fun k => k ≤ es.length ∧ es.take k = fs.take k) (fun k => es.length - k) 0 (by (repeat (first | exact trivial | refine And.intro rfl ?_))) (View.le.refl _) (by (repeat (first | exact Pick.nil | (apply Pick.cons; (focus ((repeat (first | exact Spl.here | apply Spl.there)); done))) | exact Pick.refl))) ⟨by omega, by simp⟩ ?_
      intro k ⟨hk, hu⟩
      by_cases hk' : k < es.length
      · have hkf : k < fs.length := by omega
        repeat' first
          | apply cw_seq
          | (refine cw_region_id 9 ?_; (apply ol_mv; exact rfl; exact rfl); (apply ol_fa; exact rfl; exact rfl; exact fd_26_1; (first | exact Nat.zero_add _ | exact Nat.add_zero _ | exact rfl)); (apply ol_ld; exact rfl; exact rfl; exact rfl; (first | (apply RdN.own; (focus ((repeat constructor); done)); exact GetN.cons rfl GetN.nil) | (apply RdN.view; exact s2.cells _ (by omega)) | (apply RdN.view; exact s4.cells _ (by omega)))); (apply ol_val; exact rfl; apply stp_pur; apply s_len; exact rfl; exact el_22); (apply ol_val; exact rfl; apply stp_cmp; apply s_lss; exact rfl; exact rfl; all_goals (intro _; try (exfalso; (first | (rename_i hh; exact hh rfl) | omega); done))); all_goals (apply ol_nil))
          | (refine cw_draw (id := 11) 11 (.mv 0 (.mv 1 (.mv 2 (.mv 3 (.mv 4 (.mv 5 (.mv 6 (.mv 7 (.mv 8 (.mv 9 (.mv 10 (PT.nil)))))))))))) mixed (by kernel_rfl) ?_; (apply od_mv; exact rfl; exact rfl; apply s_fieldAddr'; exact rfl; exact fd_26_1; (first | exact Nat.zero_add _ | exact Nat.add_zero _ | exact rfl)); (apply od_mv; exact rfl; exact rfl; apply s_load1; exact rfl; exact rfl; (first | (apply RdN.own; (focus ((repeat constructor); done)); exact GetN.cons rfl GetN.nil) | (apply RdN.view; exact s2.cells _ (by omega)) | (apply RdN.view; exact s4.cells _ (by omega)))); (apply od_mv; exact rfl; exact rfl; apply s_move; exact rfl); (first | (apply od_mv; exact rfl; exact rfl; apply s_indexK; exact rfl; exact rfl; exact el_22; exact sz_34; (first | exact rfl | exact s2.at_ (by omega) | exact s4.at_ (by omega)); omega) | (apply od_mv; exact rfl; exact rfl; apply s_indexO; exact rfl; exact rfl; exact el_22; exact sz_34; (first | exact rfl | exact s2.at_ (by omega) | exact s4.at_ (by omega)); omega)); (apply od_mv; exact rfl; exact rfl; apply s_loadN; exact rfl; exact rfl; exact sz_34; (first | (apply RdN.own; (focus ((repeat constructor); done)); (focus ((repeat (first | exact rfl | constructor)); done))) | (apply RdN.view; exact s2.cells _ (by omega)) | (apply RdN.view; exact s4.cells _ (by omega)))); (apply od_mv; exact rfl; exact rfl; apply s_fieldAddr'; exact rfl; exact fd_26_1; (first | exact Nat.zero_add _ | exact Nat.add_zero _ | exact rfl)); (apply od_mv; exact rfl; exact rfl; apply s_load1; exact rfl; exact rfl; (first | (apply RdN.own; (focus ((repeat constructor); done)); exact GetN.cons rfl GetN.nil) | (apply RdN.view; exact s2.cells _ (by omega)) | (apply RdN.view; exact s4.cells _ (by omega)))); (apply od_mv; exact rfl; exact rfl; apply s_move; exact rfl); (first | (apply od_mv; exact rfl; exact rfl; apply s_indexK; exact rfl; exact rfl; exact el_22; exact sz_34; (first | exact rfl | exact s2.at_ (by omega) | exact s4.at_ (by omega)); omega) | (apply od_mv; exact rfl; exact rfl; apply s_indexO; exact rfl; exact rfl; exact el_22; exact sz_34; (first | exact rfl | exact s2.at_ (by omega) | exact s4.at_ (by omega)); omega)); (apply od_mv; exact rfl; exact rfl; apply s_loadN; exact rfl; exact rfl; exact sz_34; (first | (apply RdN.own; (focus ((repeat constructor); done)); (focus ((repeat (first | exact rfl | constructor)); done))) | (apply RdN.view; exact s2.cells _ (by omega)) | (apply RdN.view; exact s4.cells _ (by omega)))); (apply od_cmp; exact rfl; exact rfl; apply s_neqS; exact rfl; exact rfl; exact is_34; exact Ent.enc_row _; exact Ent.enc_row _; exact rfl; exact rfl; all_goals (intro _; try (exfalso; (first | (rename_i hh; exact hh rfl) | omega); done))); all_goals (apply od_nil; (first | exact Wk.refl _ _ | (focus (apply Wk.mk; exact View.le.refl _; (repeat constructor); done)))); all_goals (apply ol_nil))
          | (refine cw_region_id 12 ?_; (apply ol_as; exact rfl; exact rfl); (apply ol_nil))
          | (refine cw_region_id 10 ?_; (apply ol_mv; exact rfl; exact rfl); (apply ol_val; exact rfl; apply stp_pur; apply s_add64; exact rfl; exact rfl; omega); (apply ol_as; exact rfl; exact rfl); (apply ol_nil))
          | (refine cw_region_id 13 ?_; (apply ol_as; exact rfl; exact rfl); (apply ol_nil))
          | (apply cw_cond_true; exact rfl; (first | exact rfl | assumption))
          | (apply cw_cond_false; exact rfl; (first | exact rfl | assumption))
          | apply cw_skip
          | apply cw_ret
          | apply cw_block
          | apply cw_exit
        · refine ends [] (RVal.tmp rfl RVal.nil) Pick.nil ?_
          rename_i h1 h2
          have : es ≠ fs := fun e => h2 (by subst e; rfl)
          simp [tup, this]
        · rename_i h1 h2
          exact ⟨k + 1, ⟨by (repeat (first | exact trivial | refine And.intro rfl ?_)), View.le.refl _, by (repeat (first | exact Pick.nil | (apply Pick.cons; (focus ((repeat (first | exact Spl.here | apply Spl.there)); done))) | exact Pick.refl)), ⟨by omega, take_step hk' hkf hu (Ent.row_inj.1 (Decidable.not_not.1 h2))⟩, by omega⟩⟩
      · have ek : k = es.length := by omega
        subst ek
        rw [List.take_length, g2, List.take_length] at hu
        repeat' first
          | apply cw_seq
          | (refine cw_region_id 9 ?_; (apply ol_mv; exact rfl; exact rfl); (apply ol_fa; exact rfl; exact rfl; exact fd_26_1; (first | exact Nat.zero_add _ | exact Nat.add_zero _ | exact rfl)); (apply ol_ld; exact rfl; exact rfl; exact rfl; (apply RdN.own; (focus ((repeat constructor); done)); exact GetN.cons rfl GetN.nil)); (apply ol_val; exact rfl; apply stp_pur; apply s_len; exact rfl; exact el_22); (apply ol_val; exact rfl; apply stp_cmp; apply s_lss; exact rfl; exact rfl; all_goals (intro _; try (exfalso; (first | (rename_i hh; exact hh rfl) | omega); done))); all_goals (apply ol_nil))
          | (refine cw_draw (id := 11) 11 (.mv 0 (.mv 1 (.mv 2 (.mv 3 (.mv 4 (.mv 5 (.mv 6 (.mv 7 (.mv 8 (.mv 9 (.mv 10 (PT.nil)))))))))))) mixed (by kernel_rfl) ?_; (apply od_mv; exact rfl; exact rfl; apply s_fieldAddr'; exact rfl; exact fd_26_1; (first | exact Nat.zero_add _ | exact Nat.add_zero _ | exact rfl)); (apply od_mv; exact rfl; exact rfl; apply s_load1; exact rfl; exact rfl; (apply RdN.own; (focus ((repeat constructor); done)); exact GetN.cons rfl GetN.nil)); (apply od_mv; exact rfl; exact rfl; apply s_move; exact rfl); (first | (apply od_mv; exact rfl; exact rfl; apply s_indexK; exact rfl; exact rfl; exact el_22; exact sz_34; (first | exact rfl); omega) | (apply od_mv; exact rfl; exact rfl; apply s_indexO; exact rfl; exact rfl; exact el_22; exact sz_34; (first | exact rfl); omega)); (apply od_mv; exact rfl; exact rfl; apply s_loadN; exact rfl; exact rfl; exact sz_34; (apply RdN.own; (focus ((repeat constructor); done)); (focus ((repeat (first | exact rfl | constructor)); done)))); (apply od_mv; exact rfl; exact rfl; apply s_fieldAddr'; exact rfl; exact fd_26_1; (first | exact Nat.zero_add _ | exact Nat.add_zero _ | exact rfl)); (apply od_mv; exact rfl; exact rfl; apply s_load1; exact rfl; exact rfl; (apply RdN.own; (focus ((repeat constructor); done)); exact GetN.cons rfl GetN.nil)); (apply od_mv; exact rfl; exact rfl; apply s_move; exact rfl); (first | (apply od_mv; exact rfl; exact rfl; apply s_indexK; exact rfl; exact rfl; exact el_22; exact sz_34; (first | exact rfl); omega) | (apply od_mv; exact rfl; exact rfl; apply s_indexO; exact rfl; exact rfl; exact el_22; exact sz_34; (first | exact rfl); omega)); (apply od_mv; exact rfl; exact rfl; apply s_loadN; exact rfl; exact rfl; exact sz_34; (apply RdN.own; (focus ((repeat constructor); done)); (focus ((repeat (first | exact rfl | constructor)); done)))))
          | (refine cw_region_id 12 ?_; (apply ol_as; exact rfl; exact rfl); (apply ol_nil))
          | (refine cw_region_id 10 ?_; (apply ol_mv; exact rfl; exact rfl); (apply ol_val; exact rfl; apply stp_pur; apply s_add64; exact rfl; exact rfl; omega); (apply ol_as; exact rfl; exact rfl); (apply ol_nil))
          | (refine cw_region_id 13 ?_; (apply ol_as; exact rfl; exact rfl); (apply ol_nil))
          | (apply cw_cond_true; exact rfl; (first | exact rfl | assumption))
          | (apply cw_cond_false; exact rfl; (first | exact rfl | assumption))
          | apply cw_skip
          | apply cw_ret
          | apply cw_block
          | apply cw_exit
        refine ends [] (RVal.tmp rfl RVal.nil) Pick.nil ?_
        simp [tup, ht, hu]
  · have hne : ¬ (xs = ys ∧ es = fs) := fun h => hlen ⟨by rw [h.1], by rw [h.2]⟩
    repeat' first
      | apply cw_seq
      | (refine cw_region_id 0 ?_; (first | (apply ol_val; exact rfl; apply s_boxN; exact rfl; intro _) | (apply ol_val; exact rfl; apply s_box1; exact rfl; exact rfl; intro _)); (first | (apply ol_val; exact rfl; apply s_boxN; exact rfl; intro _) | (apply ol_val; exact rfl; apply s_box1; exact rfl; exact rfl; intro _)); (apply ol_as; exact rfl; exact rfl); (apply ol_nil))
      | (refine cw_region_id 1 ?_; (apply ol_fa; exact rfl; exact rfl; exact fd_26_0; (first | exact Nat.zero_add _ | exact Nat.add_zero _ | exact rfl)); (apply ol_ld; exact rfl; exact rfl; exact rfl; (apply RdN.own; (focus ((repeat constructor); done)); exact GetN.cons rfl GetN.nil)); (apply ol_val; exact rfl; apply stp_pur; apply s_len; exact rfl; exact el_24); (apply ol_fa; exact rfl; exact rfl; exact fd_26_0; (first | exact Nat.zero_add _ | exact Nat.add_zero _ | exact rfl)); (apply ol_ld; exact rfl; exact rfl; exact rfl; (apply RdN.own; (focus ((repeat constructor); done)); exact GetN.cons rfl GetN.nil)); (apply ol_val; exact rfl; apply stp_pur; apply s_len; exact rfl; exact el_24); (apply ol_val; exact rfl; apply stp_cmp; apply s_neq; exact rfl; exact rfl; all_goals (intro _; try (exfalso; (first | (rename_i hh; exact hh rfl) | omega); done))); all_goals (apply ol_mv; exact rfl; exact rfl); all_goals (first | (apply ol_gskip; exact rfl; exact rfl; (first | exact rfl | assumption); exact rfl) | (apply ol_gskipu; exact rfl; exact rfl; exact rfl) | (apply ol_gval; exact rfl; exact rfl; exact rfl; (first | exact rfl | assumption); apply stp_pur; apply s_fieldAddr'; exact rfl; exact fd_26_1; (first | exact Nat.zero_add _ | exact Nat.add_zero _ | exact rfl))); all_goals (first | (apply ol_gskip; exact rfl; exact rfl; (first | exact rfl | assumption); exact rfl) | (apply ol_gskipu; exact rfl; exact rfl; exact rfl) | (apply ol_gval; exact rfl; exact rfl; exact rfl; (first | exact rfl | assumption); apply stp_pur; apply s_load1; exact rfl; exact rfl; (apply RdN.own; (focus ((repeat constructor); done)); exact GetN.cons rfl GetN.nil))); all_goals (first | (apply ol_gskip; exact rfl; exact rfl; (first | exact rfl | assumption); exact rfl) | (apply ol_gskipu; exact rfl; exact rfl; exact rfl) | (apply ol_gval; exact rfl; exact rfl; exact rfl; (first | exact rfl | assumption); apply stp_pur; apply s_len; exact rfl; exact el_22)); all_goals (first | (apply ol_gskip; exact rfl; exact rfl; (first | exact rfl | assumption); exact rfl) | (apply ol_gskipu; exact rfl; exact rfl; exact rfl) | (apply ol_gval; exact rfl; exact rfl; exact rfl; (first | exact rfl | assumption); apply stp_pur; apply s_fieldAddr'; exact rfl; exact fd_26_1; (first | exact Nat.zero_add _ | exact Nat.add_zero _ | exact rfl))); all_goals (first | (apply ol_gskip; exact rfl; exact rfl; (first | exact rfl | assumption); exact rfl) | (apply ol_gskipu; exact rfl; exact rfl; exact rfl) | (apply ol_gval; exact rfl; exact rfl; exact rfl; (first | exact rfl | assumption); apply stp_pur; apply s_load1; exact rfl; exact rfl; (apply RdN.own; (focus ((repeat constructor); done)); exact GetN.cons rfl GetN.nil))); all_goals (first | (apply ol_gskip; exact rfl; exact rfl; (first | exact rfl | assumption); exact rfl) | (apply ol_gskipu; exact rfl; exact rfl; exact rfl) | (apply ol_gval; exact rfl; exact rfl; exact rfl; (first | exact rfl | assumption); apply stp_pur; apply s_len; exact rfl; exact el_22)); all_goals (first | (apply ol_gskip; exact rfl; exact rfl; (first | exact rfl | assumption); exact rfl) | (apply ol_gskipu; exact rfl; exact rfl; exact rfl) | (apply ol_gval; exact rfl; exact rfl; exact rfl; (first | exact rfl | assumption); apply stp_cmp; apply s_neq; exact rfl; exact rfl; all_goals (intro _; try (exfalso; (first | (rename_i hh; exact hh rfl) | omega); done)))); all_goals (first | (apply ol_val; exact rfl; apply stp_pur; apply s_pick_t; exact rfl; (first | exact rfl | assumption); exact rfl) | (apply ol_val; exact rfl; apply stp_pur; apply s_pick_f; exact rfl; (first | exact rfl | assumption); exact rfl)); all_goals (apply ol_nil))
      | (refine cw_region_id 2 ?_; (apply ol_as; exact rfl; exact rfl); (apply ol_nil))
      | (refine cw_region_id 3 ?_; (apply ol_as; exact rfl; exact rfl); (apply ol_nil))
      | (apply cw_cond_true; exact rfl; (first | exact rfl | assumption))
      | (apply cw_cond_false; exact rfl; (first | exact rfl | assumption))
      | apply cw_skip
      | apply cw_ret
      | apply cw_block
      | apply cw_exit
    all_goals first
      | (refine ends [] (RVal.tmp rfl RVal.nil) Pick.nil ?_; simp [tup, hne]; done)
      | (exfalso; omega)

def CloneRes (bal : List Int) (ents : List Ent) (v : Value) (new : List OB) : Prop :=
  ∃ r1 A1 c1 sp1 r2 A2 c2 sp2, v = .agg [.slice (base r1 A1) bal.length c1, .slice (base r2 A2) ents.length c2].toArray ∧
    new = [⟨r1, ints bal ++ sp1, 3⟩, ⟨r2, flat Ent.enc ents ++ sp2, 34⟩] ∧ SO r1 bal.length c1 (ints bal) sp1 1 ∧ SO r2 ents.length c2 (flat Ent.enc ents) sp2 4

theorem cloned_spec (M : View) (w : World) (hM : View.le M (View.of w)) (bal : List Int) (ents : List Ent) {a1 a2 : Option Addr} {b1 o1 c1 b2 o2 c2 : Nat} (s1 : SlA M enc1 1 a1 bal b1 o1) (s2 : SlA M Ent.enc 4 a2 ents b2 o2)
    (hl1 : bal.length ≤ 4294967296) (hl2 : ents.length ≤ 4294967296) :
    FnC Try.prog 32 [.agg [.slice a1 bal.length c1, .slice a2 ents.length c2].toArray] w (CloneRes bal ents) := by
  refine enterF (M := M) Try.func32 rfl rfl rfl rfl hM ?_
  repeat' first
    | apply cw_seq
    | (refine cw_region_id 0 ?_; (first | (apply ol_val; exact rfl; apply s_boxN; exact rfl; intro _) | (apply ol_val; exact rfl; apply s_box1; exact rfl; exact rfl; intro _)); (apply ol_val; exact rfl; apply s_alloc; exact zb_26; (focus ((repeat constructor); done)); intro _); (apply ol_nil))
    | (refine cw_draw (id := 1) 7 (.mv 0 (.mv 1 (.mv 3 (.mv 4 (.fx 2 (.fx 5 (.mv 6 (PT.nil)))))))) mixed (by kernel_rfl) ?_; (apply od_mv; exact rfl; exact rfl; apply s_fieldAddr'; exact rfl; exact fd_26_0; (first | exact Nat.zero_add _ | exact Nat.add_zero _ | exact rfl)); (apply od_mv; exact rfl; exact rfl; apply s_load1; exact rfl; exact rfl; (apply RdN.own; (focus ((repeat constructor); done)); exact GetN.cons rfl GetN.nil)); (apply od_mv; exact rfl; exact rfl; apply s_fieldAddr'; exact rfl; exact fd_26_1; (first | exact Nat.zero_add _ | exact Nat.add_zero _ | exact rfl)); (apply od_mv; exact rfl; exact rfl; apply s_load1; exact rfl; exact rfl; (apply RdN.own; (focus ((repeat constructor); done)); exact GetN.cons rfl GetN.nil)); (apply od_fx; (first | exact Wk.refl _ _ | (focus (apply Wk.mk; exact View.le.refl _; (repeat constructor); done))); (apply fx_val; exact rfl; exact rfl; apply s_call; exact rfl; exact gf_20; (intro w' hw'; exact clone_ints (View.of w') w' (View.le.refl _) (s1.mono hw'.le) hl1); ((intro v new h; obtain ⟨r1', A1', c1', sp1', rfl, rfl, so1'⟩ := h)))); (apply od_fx; (first | exact Wk.refl _ _ | (focus (apply Wk.mk; exact View.le.refl _; (repeat constructor); done))); (apply fx_val; exact rfl; exact rfl; apply s_call; exact rfl; exact gf_37; (intro w' hw'; exact clone_ents (View.of w') w' (View.le.refl _) (s2.mono hw'.le) hl2); ((intro v new h; obtain ⟨r2', A2', c2', sp2', rfl, rfl, so2'⟩ := h)))); (apply od_mv; exact rfl; exact rfl; apply s_buildS; exact rfl; exact fs_26; exact zb_26; (focus ((repeat (first | exact rfl | constructor)); done))); (apply od_nil; (first | exact Wk.refl _ _ | (focus (apply Wk.mk; exact View.le.refl _; (repeat constructor); done)))); (apply ol_eff; apply s_storeN; exact rfl; exact rfl; exact sz_26; exact rfl; exact rfl; (focus ((repeat constructor); done)); (focus ((repeat constructor); done))); (apply ol_nil))
    | (apply cw_cond_true; exact rfl; (first | exact rfl | assumption))
    | (apply cw_cond_false; exact rfl; (first | exact rfl | assumption))
    | apply cw_skip
    | apply cw_ret
    | apply cw_block
    | apply cw_exit
  refine ends [⟨r1', flat enc1 bal ++ sp1', 3⟩, ⟨r2', flat Ent.enc ents ++ sp2', 34⟩] (by (repeat (first | exact RVal.nil | (apply RVal.tmp; exact rfl) | (apply RVal.cellN; exact rfl; exact rfl; (first | exact sz_26); apply RdN.own; (focus ((repeat (first | exact Has.here | apply Has.there)); done)); (focus ((repeat (first | exact GetN.nil | (apply GetN.cons; exact rfl))); done))) | (apply RVal.cell1; exact rfl; exact rfl; apply RdN.own; (focus ((repeat (first | exact Has.here | apply Has.there)); done)); exact GetN.cons rfl GetN.nil)))) (by (repeat (first | exact Pick.nil | (apply Pick.cons; (focus ((repeat (first | exact Spl.here | apply Spl.there)); done))) | exact Pick.refl))) ?_
  rw [flat_enc1] at so1' ⊢
  exact ⟨r1', A1', c1', sp1', r2', A2', c2', sp2', rfl, rfl, so1', so2'⟩
end Go.Proofs.Ytmgmpgccnohpkaa
