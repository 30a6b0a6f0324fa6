/-
  The walk of the reference's Valid.
-/
import Derived.Test.YtmgmpgccnohpkaaW10
namespace Go.Proofs.Ytmgmpgccnohpkaa
set_option maxRecDepth 20000
set_option linter.unusedSimpArgs false
set_option linter.unusedVariables false
open Go Go.Fw
attribute [local irreducible] CW OL OD FX Stp FnC Ret
set_option maxHeartbeats 4000000

theorem all_take_step {n : Int} {l : List Ent} {k : Nat} (h : k < l.length) (ht : (l.take k).all (entryB n) = true) (he : entryB n l[k] = true) : (l.take (k + 1)).all (entryB n) = true := by
  rw [List.take_succ_eq_append_getElem h, List.all_append, ht]
  simp [he]

theorem refValid_spec (M : View) (w : World) (hM : View.le M (View.of w)) (bal : List Int) (ents : List Ent) {a1 a2 : Option Addr} {b1 o1 c1 b2 o2 c2 : Nat} (s1 : SlA M enc1 1 a1 bal b1 o1) (s2 : SlA M Ent.enc 4 a2 ents b2 o2)
    (hl1 : bal.length ≤ 4611686018427387904) (hl2 : ents.length ≤ 4611686018427387904) :
    FnC Try.prog 19 [.agg [.slice a1 bal.length c1, .slice a2 ents.length c2].toArray] w (fun v _ => v = .bool (validB bal ents)) := by
  refine enterF (M := M) Try.func19 rfl rfl rfl rfl hM ?_
  by_cases h : 5 ≤ bal.length ∧ bal.length ≤ 105 ∧ ents.length ≤ 1000
  · obtain ⟨g1, g2, g3⟩ := h
    have hA : decide (5 ≤ (bal.length : Int) ∧ (bal.length : Int) ≤ 105) = true := decide_eq_true (by omega)
    repeat' first
      | apply cw_seq
      | (refine cw_region_id 0 ?_; (first | (apply ol_val; exact rfl; apply s_boxN; exact rfl; intro _) | (apply ol_val; exact rfl; apply s_box1; exact rfl; exact rfl; intro _)); (apply ol_as; exact rfl; exact rfl); (apply ol_nil))
      | (refine cw_region_id 1 ?_; (apply ol_fa; exact rfl; exact rfl; exact fd_26_0; (first | exact Nat.zero_add _ | exact Nat.add_zero _ | exact rfl)); (apply ol_ld; exact rfl; exact rfl; exact rfl; (apply RdN.own; (focus ((repeat constructor); done)); exact GetN.cons rfl GetN.nil)); (apply ol_val; exact rfl; apply stp_pur; apply s_len; exact rfl; exact el_24); (apply ol_as; exact rfl; exact rfl); (apply ol_nil))
      | (refine cw_region_id 2 ?_; (apply ol_mv; exact rfl; exact rfl); (apply ol_val; exact rfl; apply s_callv; exact rfl; exact gf_18; (intro w' hw'; exact accounts_spec _ _)); (first | (apply ol_val; exact rfl; apply stp_pur; apply s_not_t; exact rfl; (first | exact rfl | assumption)) | (apply ol_val; exact rfl; apply stp_pur; apply s_not_f; exact rfl; (first | exact rfl | assumption)) | (apply ol_val; exact rfl; apply stp_pur; apply s_not; exact rfl)); (apply ol_mv; exact rfl; exact rfl); (first | (apply ol_gskip; exact rfl; exact rfl; (first | exact rfl | assumption); exact rfl) | (apply ol_gskipu; exact rfl; exact rfl; exact rfl) | (apply ol_gval; exact rfl; exact rfl; exact rfl; (first | exact rfl | assumption); apply stp_pur; apply s_fieldAddr'; exact rfl; exact fd_26_1; (first | exact Nat.zero_add _ | exact Nat.add_zero _ | exact rfl))); (first | (apply ol_gskip; exact rfl; exact rfl; (first | exact rfl | assumption); exact rfl) | (apply ol_gskipu; exact rfl; exact rfl; exact rfl) | (apply ol_gval; exact rfl; exact rfl; exact rfl; (first | exact rfl | assumption); apply stp_pur; apply s_load1; exact rfl; exact rfl; (apply RdN.own; (focus ((repeat constructor); done)); exact GetN.cons rfl GetN.nil))); (first | (apply ol_gskip; exact rfl; exact rfl; (first | exact rfl | assumption); exact rfl) | (apply ol_gskipu; exact rfl; exact rfl; exact rfl) | (apply ol_gval; exact rfl; exact rfl; exact rfl; (first | exact rfl | assumption); apply stp_pur; apply s_len; exact rfl; exact el_22)); (first | (apply ol_gskip; exact rfl; exact rfl; (first | exact rfl | assumption); exact rfl) | (apply ol_gskipu; exact rfl; exact rfl; exact rfl) | (apply ol_gval; exact rfl; exact rfl; exact rfl; (first | exact rfl | assumption); apply stp_cmp; apply s_gtr; exact rfl; exact rfl; all_goals (intro _; try (exfalso; (first | (rename_i hh; exact hh rfl) | omega); done)))); all_goals (first | (apply ol_val; exact rfl; apply stp_pur; apply s_pick_t; exact rfl; (first | exact rfl | assumption); exact rfl) | (apply ol_val; exact rfl; apply stp_pur; apply s_pick_f; exact rfl; (first | exact rfl | assumption); exact rfl)); all_goals (apply ol_nil))
      | (refine cw_region_id 3 ?_; (apply ol_as; exact rfl; exact rfl); (apply ol_nil))
      | (refine cw_region_id 4 ?_; (apply ol_as; exact rfl; exact rfl); (apply ol_nil))
      | (apply cw_cond_true; exact rfl; (first | exact rfl | assumption))
      | (apply cw_cond_false; exact rfl; (first | exact rfl | assumption))
      | apply cw_skip
      | apply cw_ret
      | apply cw_block
      | apply cw_exit
    rename_i bx _
    refine cw_loopK (σ := Nat) [1, 3] (by (repeat (first | exact Keep.nil | (apply Keep.cons; exact rfl)))) (fun k => [(4, .int .i64 k)]) (fun _ => M) (fun _ => [⟨some bx, [.slice a1 bal.length c1, .slice a2 ents.length c2], 26⟩])
      (fun k => k ≤ ents.length ∧ (ents.take k).all (entryB bal.length) = true) (fun k => ents.length - k) 0 (by (repeat (first | exact trivial | refine And.intro rfl ?_))) (View.le.refl _) (by (repeat (first | exact Pick.nil | (apply Pick.cons; (focus ((repeat (first | exact Spl.here | apply Spl.there)); done))) | exact Pick.refl))) ⟨by omega, by simp⟩ ?_
    intro k ⟨hk, ht⟩
    by_cases hk' : k < ents.length
    · cases he : entryB bal.length ents[k] with
      | false =>
        repeat' first
          | apply cw_seq
          | (refine cw_region_id 5 ?_; (apply ol_mv; exact rfl; exact rfl); (apply ol_fa; exact rfl; exact rfl; exact fd_26_1; (first | exact Nat.zero_add _ | exact Nat.add_zero _ | exact rfl)); (apply ol_ld; exact rfl; exact rfl; exact rfl; (first | (apply RdN.own; (focus ((repeat constructor); done)); exact GetN.cons rfl GetN.nil) | (apply RdN.view; exact s2.cells _ (by omega)))); (apply ol_val; exact rfl; apply stp_pur; apply s_len; exact rfl; exact el_22); (apply ol_val; exact rfl; apply stp_cmp; apply s_lss; exact rfl; exact rfl; all_goals (intro _; try (exfalso; (first | (rename_i hh; exact hh rfl) | omega); done))); all_goals (apply ol_nil))
          | (refine cw_region_id 7 ?_; (apply ol_mv; exact rfl; exact rfl); (apply ol_fa; exact rfl; exact rfl; exact fd_26_1; (first | exact Nat.zero_add _ | exact Nat.add_zero _ | exact rfl)); (apply ol_ld; exact rfl; exact rfl; exact rfl; (first | (apply RdN.own; (focus ((repeat constructor); done)); exact GetN.cons rfl GetN.nil) | (apply RdN.view; exact s2.cells _ (by omega)))); (apply ol_mv; exact rfl; exact rfl); (first | (apply ol_val; exact rfl; apply stp_pur; apply s_indexK; exact rfl; exact rfl; exact el_22; exact sz_34; (first | exact rfl | exact s2.at_ (by omega)); omega) | (apply ol_val; exact rfl; apply stp_pur; apply s_indexO; exact rfl; exact rfl; exact el_22; exact sz_34; (first | exact rfl | exact s2.at_ (by omega)); omega)); (apply ol_ldN; exact rfl; exact rfl; exact rfl; exact sz_34; (first | (apply RdN.own; (focus ((repeat constructor); done)); (focus ((repeat (first | exact rfl | constructor)); done))) | (apply RdN.view; exact s2.cells _ (by omega)))); (apply ol_val; exact rfl; apply s_callv; exact rfl; exact gf_23; (intro w' hw'; exact refEntry_spec _ _ _)); (first | (apply ol_val; exact rfl; apply stp_pur; apply s_not_t; exact rfl; (first | exact rfl | assumption)) | (apply ol_val; exact rfl; apply stp_pur; apply s_not_f; exact rfl; (first | exact rfl | assumption)) | (apply ol_val; exact rfl; apply stp_pur; apply s_not; exact rfl)); (apply ol_nil))
          | (refine cw_region_id 8 ?_; (apply ol_as; exact rfl; exact rfl); (apply ol_nil))
          | (refine cw_region_id 6 ?_; (apply ol_mv; exact rfl; exact rfl); (apply ol_val; exact rfl; apply stp_pur; apply s_add64; exact rfl; exact rfl; omega); (apply ol_as; exact rfl; exact rfl); (apply ol_nil))
          | (refine cw_region_id 9 ?_; (apply ol_mv; exact rfl; exact rfl); (apply ol_fa; exact rfl; exact rfl; exact fd_26_1; (first | exact Nat.zero_add _ | exact Nat.add_zero _ | exact rfl)); (apply ol_ld; exact rfl; exact rfl; exact rfl; (first | (apply RdN.own; (focus ((repeat constructor); done)); exact GetN.cons rfl GetN.nil) | (apply RdN.view; exact s2.cells _ (by omega)))))
          | (refine cw_region_id 10 ?_; (apply ol_mv; exact rfl; exact rfl); (first | (apply ol_val; exact rfl; apply stp_pur; apply s_not_t; exact rfl; (first | exact rfl | assumption)) | (apply ol_val; exact rfl; apply stp_pur; apply s_not_f; exact rfl; (first | exact rfl | assumption)) | (apply ol_val; exact rfl; apply stp_pur; apply s_not; exact rfl)); (apply ol_nil))
          | (refine cw_region_id 11 ?_; (apply ol_as; exact rfl; exact rfl); (apply ol_nil))
          | (refine cw_region_id 12 ?_; (apply ol_as; exact rfl; exact rfl); (apply ol_nil))
          | (apply cw_cond_true; exact rfl; (first | exact rfl | assumption))
          | (apply cw_cond_false; exact rfl; (first | exact rfl | assumption))
          | apply cw_skip
          | apply cw_ret
          | apply cw_block
          | apply cw_exit
        refine ends [] (RVal.tmp rfl RVal.nil) Pick.nil ?_
        have : ents.all (entryB bal.length) = false := by
          rw [List.all_eq_false]
          exact ⟨ents[k], List.getElem_mem _, by simp [he]⟩
        simp [tup, validB, chk_eq, this]
      | true =>
        repeat' first
          | apply cw_seq
          | (refine cw_region_id 5 ?_; (apply ol_mv; exact rfl; exact rfl); (apply ol_fa; exact rfl; exact rfl; exact fd_26_1; (first | exact Nat.zero_add _ | exact Nat.add_zero _ | exact rfl)); (apply ol_ld; exact rfl; exact rfl; exact rfl; (first | (apply RdN.own; (focus ((repeat constructor); done)); exact GetN.cons rfl GetN.nil) | (apply RdN.view; exact s2.cells _ (by omega)))); (apply ol_val; exact rfl; apply stp_pur; apply s_len; exact rfl; exact el_22); (apply ol_val; exact rfl; apply stp_cmp; apply s_lss; exact rfl; exact rfl; all_goals (intro _; try (exfalso; (first | (rename_i hh; exact hh rfl) | omega); done))); all_goals (apply ol_nil))
          | (refine cw_region_id 7 ?_; (apply ol_mv; exact rfl; exact rfl); (apply ol_fa; exact rfl; exact rfl; exact fd_26_1; (first | exact Nat.zero_add _ | exact Nat.add_zero _ | exact rfl)); (apply ol_ld; exact rfl; exact rfl; exact rfl; (first | (apply RdN.own; (focus ((repeat constructor); done)); exact GetN.cons rfl GetN.nil) | (apply RdN.view; exact s2.cells _ (by omega)))); (apply ol_mv; exact rfl; exact rfl); (first | (apply ol_val; exact rfl; apply stp_pur; apply s_indexK; exact rfl; exact rfl; exact el_22; exact sz_34; (first | exact rfl | exact s2.at_ (by omega)); omega) | (apply ol_val; exact rfl; apply stp_pur; apply s_indexO; exact rfl; exact rfl; exact el_22; exact sz_34; (first | exact rfl | exact s2.at_ (by omega)); omega)); (apply ol_ldN; exact rfl; exact rfl; exact rfl; exact sz_34; (first | (apply RdN.own; (focus ((repeat constructor); done)); (focus ((repeat (first | exact rfl | constructor)); done))) | (apply RdN.view; exact s2.cells _ (by omega)))); (apply ol_val; exact rfl; apply s_callv; exact rfl; exact gf_23; (intro w' hw'; exact refEntry_spec _ _ _)); (first | (apply ol_val; exact rfl; apply stp_pur; apply s_not_t; exact rfl; (first | exact rfl | assumption)) | (apply ol_val; exact rfl; apply stp_pur; apply s_not_f; exact rfl; (first | exact rfl | assumption)) | (apply ol_val; exact rfl; apply stp_pur; apply s_not; exact rfl)); (apply ol_nil))
          | (refine cw_region_id 8 ?_; (apply ol_as; exact rfl; exact rfl); (apply ol_nil))
          | (refine cw_region_id 6 ?_; (apply ol_mv; exact rfl; exact rfl); (apply ol_val; exact rfl; apply stp_pur; apply s_add64; exact rfl; exact rfl; omega); (apply ol_as; exact rfl; exact rfl); (apply ol_nil))
          | (refine cw_region_id 9 ?_; (apply ol_mv; exact rfl; exact rfl); (apply ol_fa; exact rfl; exact rfl; exact fd_26_1; (first | exact Nat.zero_add _ | exact Nat.add_zero _ | exact rfl)); (apply ol_ld; exact rfl; exact rfl; exact rfl; (first | (apply RdN.own; (focus ((repeat constructor); done)); exact GetN.cons rfl GetN.nil) | (apply RdN.view; exact s2.cells _ (by omega)))))
          | (refine cw_region_id 10 ?_; (apply ol_mv; exact rfl; exact rfl); (first | (apply ol_val; exact rfl; apply stp_pur; apply s_not_t; exact rfl; (first | exact rfl | assumption)) | (apply ol_val; exact rfl; apply stp_pur; apply s_not_f; exact rfl; (first | exact rfl | assumption)) | (apply ol_val; exact rfl; apply stp_pur; apply s_not; exact rfl)); (apply ol_nil))
          | (refine cw_region_id 11 ?_; (apply ol_as; exact rfl; exact rfl); (apply ol_nil))
          | (refine cw_region_id 12 ?_; (apply ol_as; exact rfl; exact rfl); (apply ol_nil))
          | (apply cw_cond_true; exact rfl; (first | exact rfl | assumption))
          | (apply cw_cond_false; exact rfl; (first | exact rfl | assumption))
          | apply cw_skip
          | apply cw_ret
          | apply cw_block
          | apply cw_exit
        exact ⟨k + 1, ⟨by (repeat (first | exact trivial | refine And.intro rfl ?_)), View.le.refl _, by (repeat (first | exact Pick.nil | (apply Pick.cons; (focus ((repeat (first | exact Spl.here | apply Spl.there)); done))) | exact Pick.refl)), ⟨by omega, all_take_step hk' ht he⟩, by omega⟩⟩
    · have ek : k = ents.length := by omega
      subst ek
      rw [List.take_length] at ht
      have hv : ∀ i (h : i < ents.length), entryB bal.length ents[i] = true := fun i h => List.all_eq_true.1 ht _ (List.getElem_mem h)
      repeat' first
        | apply cw_seq
        | (refine cw_region_id 5 ?_; (apply ol_mv; exact rfl; exact rfl); (apply ol_fa; exact rfl; exact rfl; exact fd_26_1; (first | exact Nat.zero_add _ | exact Nat.add_zero _ | exact rfl)); (apply ol_ld; exact rfl; exact rfl; exact rfl; (apply RdN.own; (focus ((repeat constructor); done)); exact GetN.cons rfl GetN.nil)); (apply ol_val; exact rfl; apply stp_pur; apply s_len; exact rfl; exact el_22); (apply ol_val; exact rfl; apply stp_cmp; apply s_lss; exact rfl; exact rfl; all_goals (intro _; try (exfalso; (first | (rename_i hh; exact hh rfl) | omega); done))); all_goals (apply ol_nil))
        | (refine cw_region_id 7 ?_; (apply ol_mv; exact rfl; exact rfl); (apply ol_fa; exact rfl; exact rfl; exact fd_26_1; (first | exact Nat.zero_add _ | exact Nat.add_zero _ | exact rfl)); (apply ol_ld; exact rfl; exact rfl; exact rfl; (apply RdN.own; (focus ((repeat constructor); done)); exact GetN.cons rfl GetN.nil)); (apply ol_mv; exact rfl; exact rfl); (first | (apply ol_val; exact rfl; apply stp_pur; apply s_indexK; exact rfl; exact rfl; exact el_22; exact sz_34; (first | exact rfl); omega) | (apply ol_val; exact rfl; apply stp_pur; apply s_indexO; exact rfl; exact rfl; exact el_22; exact sz_34; (first | exact rfl); omega)); (apply ol_ldN; exact rfl; exact rfl; exact rfl; exact sz_34; (apply RdN.own; (focus ((repeat constructor); done)); (focus ((repeat (first | exact rfl | constructor)); done)))))
        | (refine cw_region_id 8 ?_; (apply ol_as; exact rfl; exact rfl); (apply ol_nil))
        | (refine cw_region_id 6 ?_; (apply ol_mv; exact rfl; exact rfl); (apply ol_val; exact rfl; apply stp_pur; apply s_add64; exact rfl; exact rfl; omega); (apply ol_as; exact rfl; exact rfl); (apply ol_nil))
        | (refine cw_region_id 9 ?_; (apply ol_mv; exact rfl; exact rfl); (apply ol_fa; exact rfl; exact rfl; exact fd_26_1; (first | exact Nat.zero_add _ | exact Nat.add_zero _ | exact rfl)); (apply ol_ld; exact rfl; exact rfl; exact rfl; (apply RdN.own; (focus ((repeat constructor); done)); exact GetN.cons rfl GetN.nil)); (apply ol_val; exact rfl; apply s_call; exact rfl; exact gf_33; (intro w' hw'; exact balances_spec (View.of w') w' (View.le.refl _) bal.length (by omega) rfl (s2.mono hw'.le) (by omega) hv); ((intro v new h; obtain ⟨r, A, cap, sp, b, ok, rfl, rfl, so, h⟩ := h; rcases h with ⟨h1, rfl, rfl⟩ | ⟨h1, rfl⟩))); all_goals (apply ol_mv; exact rfl; exact rfl); all_goals (apply ol_ex; exact rfl; exact rfl; exact rfl); all_goals (apply ol_ex; exact rfl; exact rfl; exact rfl); all_goals (apply ol_as; exact rfl; exact rfl); all_goals (apply ol_as; exact rfl; exact rfl); all_goals (apply ol_nil))
        | (refine cw_region_id 10 ?_; (apply ol_mv; exact rfl; exact rfl); (first | (apply ol_val; exact rfl; apply stp_pur; apply s_not_t; exact rfl; (first | exact rfl | assumption)) | (apply ol_val; exact rfl; apply stp_pur; apply s_not_f; exact rfl; (first | exact rfl | assumption)) | (apply ol_val; exact rfl; apply stp_pur; apply s_not; exact rfl)); (apply ol_nil))
        | (refine cw_region_id 11 ?_; (apply ol_as; exact rfl; exact rfl); (apply ol_nil))
        | (refine cw_region_id 12 ?_; (apply ol_as; exact rfl; exact rfl); (apply ol_nil))
        | (apply cw_cond_true; exact rfl; (first | exact rfl | assumption))
        | (apply cw_cond_false; exact rfl; (first | exact rfl | assumption))
        | apply cw_skip
        | apply cw_ret
        | apply cw_block
        | apply cw_exit
      · refine ends [] (RVal.tmp rfl RVal.nil) Pick.nil ?_
        simp [tup, validB, chk_eq, ht, h1]
      · have hbl : b.length = bal.length := by rw [balsM_length h1]; simp
        obtain ⟨bv, rfl⟩ : ∃ bv, r = some bv := (match r, so with | none, so => absurd (so.empty rfl) (by omega) | some bv, _ => ⟨bv, rfl⟩)
        refine cw_loopK (σ := Nat) [1, 3, 5] (by (repeat (first | exact Keep.nil | (apply Keep.cons; exact rfl)))) (fun k => [(7, .int .i64 k)]) (fun _ => M) (fun _ => [⟨some bx, [.slice a1 bal.length c1, .slice a2 ents.length c2], 26⟩, ⟨some bv, ints b ++ sp, 3⟩])
          (fun k => k ≤ bal.length ∧ b.take k = bal.take k) (fun k => bal.length - k) 0 (by (repeat (first | exact trivial | refine And.intro rfl ?_))) (View.le.refl _) (by (repeat (first | exact Pick.nil | (apply Pick.cons; (focus ((repeat (first | exact Spl.here | apply Spl.there)); done))) | exact Pick.refl))) ⟨by omega, by simp⟩ ?_
        intro k ⟨hk, hu⟩
        by_cases hk' : k < bal.length
        · have hkb : k < b.length := by omega
          repeat' first
            | apply cw_seq
            | (refine cw_region_id 13 ?_; (apply ol_mv; exact rfl; exact rfl); (apply ol_mv; exact rfl; exact rfl); (apply ol_val; exact rfl; apply stp_cmp; apply s_lss; exact rfl; exact rfl; all_goals (intro _; try (exfalso; (first | (rename_i hh; exact hh rfl) | omega); done))); all_goals (apply ol_nil))
            | (refine cw_draw (id := 15) 10 (.mv 0 (.mv 1 (.mv 2 (.mv 3 (.mv 4 (.mv 5 (.mv 6 (.mv 7 (.mv 8 (.mv 9 (PT.nil))))))))))) mixed (by kernel_rfl) ?_; (apply od_mv; exact rfl; exact rfl; apply s_move; exact rfl); (apply od_mv; exact rfl; exact rfl; apply s_move; exact rfl); (first | (apply od_mv; exact rfl; exact rfl; apply s_indexK; exact rfl; exact rfl; exact el_24; exact sz_3; (first | exact rfl | exact s1.at_ (by omega)); omega) | (apply od_mv; exact rfl; exact rfl; apply s_indexO; exact rfl; exact rfl; exact el_24; exact sz_3; (first | exact rfl | exact s1.at_ (by omega)); omega)); (apply od_mv; exact rfl; exact rfl; apply s_load1; exact rfl; exact rfl; (first | (apply RdN.own; (focus ((repeat constructor); done)); (first | exact GetN.cons rfl GetN.nil | (apply getN_ints_app; (first | omega | (simp; omega) | (simp; done))) | (apply getN_ints; (first | omega | (simp; omega) | (simp; done))))) | (apply RdN.view; exact s1.cells _ (by omega)))); (apply od_mv; exact rfl; exact rfl; apply s_fieldAddr'; exact rfl; exact fd_26_0; (first | exact Nat.zero_add _ | exact Nat.add_zero _ | exact rfl)); (apply od_mv; exact rfl; exact rfl; apply s_load1; exact rfl; exact rfl; (first | (apply RdN.own; (focus ((repeat constructor); done)); exact GetN.cons rfl GetN.nil) | (apply RdN.view; exact s1.cells _ (by omega)))); (apply od_mv; exact rfl; exact rfl; apply s_move; exact rfl); (first | (apply od_mv; exact rfl; exact rfl; apply s_indexK; exact rfl; exact rfl; exact el_24; exact sz_3; (first | exact rfl | exact s1.at_ (by omega)); omega) | (apply od_mv; exact rfl; exact rfl; apply s_indexO; exact rfl; exact rfl; exact el_24; exact sz_3; (first | exact rfl | exact s1.at_ (by omega)); omega)); (apply od_mv; exact rfl; exact rfl; apply s_load1; exact rfl; exact rfl; (first | (apply RdN.own; (focus ((repeat constructor); done)); (first | exact GetN.cons rfl GetN.nil | (apply getN_ints_app; (first | omega | (simp; omega) | (simp; done))) | (apply getN_ints; (first | omega | (simp; omega) | (simp; done))))) | (apply RdN.view; exact s1.cells _ (by omega)))); (apply od_cmp; exact rfl; exact rfl; apply s_neq; exact rfl; exact rfl; all_goals (intro _; try (exfalso; (first | (rename_i hh; exact hh rfl) | omega); done))); all_goals (apply od_nil; (first | exact Wk.refl _ _ | (focus (apply Wk.mk; exact View.le.refl _; (repeat constructor); done)))); all_goals (apply ol_nil))
            | (refine cw_region_id 16 ?_; (apply ol_as; exact rfl; exact rfl); (apply ol_nil))
            | (refine cw_region_id 14 ?_; (apply ol_mv; exact rfl; exact rfl); (apply ol_val; exact rfl; apply stp_pur; apply s_add64; exact rfl; exact rfl; omega); (apply ol_as; exact rfl; exact rfl); (apply ol_nil))
            | (refine cw_region_id 17 ?_; (apply ol_as; exact rfl; exact rfl); (apply ol_nil))
            | (apply cw_cond_true; exact rfl; (first | exact rfl | assumption))
            | (apply cw_cond_false; exact rfl; (first | exact rfl | assumption))
            | apply cw_skip
            | apply cw_ret
            | apply cw_block
            | apply cw_exit
          · refine ends [] (RVal.tmp rfl RVal.nil) Pick.nil ?_
            rename_i h3 h4
            have : b ≠ bal := fun e => h4 (by subst e; simp [hkb])
            simp [tup, validB, chk_eq, ht, h1, this]
          · rename_i h3 h4
            have h5 := Decidable.not_not.1 h4
            exact ⟨k + 1, ⟨by (repeat (first | exact trivial | refine And.intro rfl ?_)), View.le.refl _, by (repeat (first | exact Pick.nil | (apply Pick.cons; (focus ((repeat (first | exact Spl.here | apply Spl.there)); done))) | exact Pick.refl)), ⟨by omega, take_step hkb hk' hu (by simpa [hkb] using h5)⟩, by omega⟩⟩
        · have ek : k = bal.length := by omega
          subst ek
          rw [List.take_length, ← hbl, List.take_length] at hu
          repeat' first
            | apply cw_seq
            | (refine cw_region_id 13 ?_; (apply ol_mv; exact rfl; exact rfl); (apply ol_mv; exact rfl; exact rfl); (apply ol_val; exact rfl; apply stp_cmp; apply s_lss; exact rfl; exact rfl; all_goals (intro _; try (exfalso; (first | (rename_i hh; exact hh rfl) | omega); done))); all_goals (apply ol_nil))
            | (refine cw_draw (id := 15) 10 (.mv 0 (.mv 1 (.mv 2 (.mv 3 (.mv 4 (.mv 5 (.mv 6 (.mv 7 (.mv 8 (.mv 9 (PT.nil))))))))))) mixed (by kernel_rfl) ?_; (apply od_mv; exact rfl; exact rfl; apply s_move; exact rfl); (apply od_mv; exact rfl; exact rfl; apply s_move; exact rfl); (first | (apply od_mv; exact rfl; exact rfl; apply s_indexK; exact rfl; exact rfl; exact el_24; exact sz_3; (first | exact rfl); omega) | (apply od_mv; exact rfl; exact rfl; apply s_indexO; exact rfl; exact rfl; exact el_24; exact sz_3; (first | exact rfl); omega)); (apply od_mv; exact rfl; exact rfl; apply s_load1; exact rfl; exact rfl; (apply RdN.own; (focus ((repeat constructor); done)); (first | exact GetN.cons rfl GetN.nil | (apply getN_ints_app; (first | omega | (simp; omega) | (simp; done))) | (apply getN_ints; (first | omega | (simp; omega) | (simp; done)))))); (apply od_mv; exact rfl; exact rfl; apply s_fieldAddr'; exact rfl; exact fd_26_0; (first | exact Nat.zero_add _ | exact Nat.add_zero _ | exact rfl)); (apply od_mv; exact rfl; exact rfl; apply s_load1; exact rfl; exact rfl; (apply RdN.own; (focus ((repeat constructor); done)); exact GetN.cons rfl GetN.nil)); (apply od_mv; exact rfl; exact rfl; apply s_move; exact rfl); (first | (apply od_mv; exact rfl; exact rfl; apply s_indexK; exact rfl; exact rfl; exact el_24; exact sz_3; (first | exact rfl); omega) | (apply od_mv; exact rfl; exact rfl; apply s_indexO; exact rfl; exact rfl; exact el_24; exact sz_3; (first | exact rfl); omega)); (apply od_mv; exact rfl; exact rfl; apply s_load1; exact rfl; exact rfl; (apply RdN.own; (focus ((repeat constructor); done)); (first | exact GetN.cons rfl GetN.nil | (apply getN_ints_app; (first | omega | (simp; omega) | (simp; done))) | (apply getN_ints; (first | omega | (simp; omega) | (simp; done)))))); (apply od_cmp; exact rfl; exact rfl; apply s_neq; exact rfl; exact rfl; all_goals (intro _; try (exfalso; (first | (rename_i hh; exact hh rfl) | omega); done))); all_goals (apply od_nil; (first | exact Wk.refl _ _ | (focus (apply Wk.mk; exact View.le.refl _; (repeat constructor); done)))); all_goals (apply ol_nil))
            | (refine cw_region_id 16 ?_; (apply ol_as; exact rfl; exact rfl); (apply ol_nil))
            | (refine cw_region_id 14 ?_; (apply ol_mv; exact rfl; exact rfl); (apply ol_val; exact rfl; apply stp_pur; apply s_add64; exact rfl; exact rfl; omega); (apply ol_as; exact rfl; exact rfl); (apply ol_nil))
            | (refine cw_region_id 17 ?_; (apply ol_as; exact rfl; exact rfl); (apply ol_nil))
            | (apply cw_cond_true; exact rfl; (first | exact rfl | assumption))
            | (apply cw_cond_false; exact rfl; (first | exact rfl | assumption))
            | apply cw_skip
            | apply cw_ret
            | apply cw_block
            | apply cw_exit
          refine ends [] (RVal.tmp rfl RVal.nil) Pick.nil ?_
          simp [tup, validB, chk_eq, ht, h1, hu, g1, g2, g3]
  · have hvf : validB bal ents = false := by
      unfold validB
      exact decide_eq_false (fun hh => h ⟨hh.1, hh.2.1, hh.2.2.1⟩)
    by_cases hA : 5 ≤ (bal.length : Int) ∧ (bal.length : Int) ≤ 105
    · have hA' : decide (5 ≤ (bal.length : Int) ∧ (bal.length : Int) ≤ 105) = true := decide_eq_true hA
      repeat' first
        | apply cw_seq
        | (refine cw_region_id 0 ?_; (first | (apply ol_val; exact rfl; apply s_boxN; exact rfl; intro _) | (apply ol_val; exact rfl; apply s_box1; exact rfl; exact rfl; intro _)); (apply ol_as; exact rfl; exact rfl); (apply ol_nil))
        | (refine cw_region_id 1 ?_; (apply ol_fa; exact rfl; exact rfl; exact fd_26_0; (first | exact Nat.zero_add _ | exact Nat.add_zero _ | exact rfl)); (apply ol_ld; exact rfl; exact rfl; exact rfl; (apply RdN.own; (focus ((repeat constructor); done)); exact GetN.cons rfl GetN.nil)); (apply ol_val; exact rfl; apply stp_pur; apply s_len; exact rfl; exact el_24); (apply ol_as; exact rfl; exact rfl); (apply ol_nil))
        | (refine cw_region_id 2 ?_; (apply ol_mv; exact rfl; exact rfl); (apply ol_val; exact rfl; apply s_callv; exact rfl; exact gf_18; (intro w' hw'; exact accounts_spec _ _)); (first | (apply ol_val; exact rfl; apply stp_pur; apply s_not_t; exact rfl; (first | exact rfl | assumption)) | (apply ol_val; exact rfl; apply stp_pur; apply s_not_f; exact rfl; (first | exact rfl | assumption)) | (apply ol_val; exact rfl; apply stp_pur; apply s_not; exact rfl)); (apply ol_mv; exact rfl; exact rfl); (first | (apply ol_gskip; exact rfl; exact rfl; (first | exact rfl | assumption); exact rfl) | (apply ol_gskipu; exact rfl; exact rfl; exact rfl) | (apply ol_gval; exact rfl; exact rfl; exact rfl; (first | exact rfl | assumption); apply stp_pur; apply s_fieldAddr'; exact rfl; exact fd_26_1; (first | exact Nat.zero_add _ | exact Nat.add_zero _ | exact rfl))); (first | (apply ol_gskip; exact rfl; exact rfl; (first | exact rfl | assumption); exact rfl) | (apply ol_gskipu; exact rfl; exact rfl; exact rfl) | (apply ol_gval; exact rfl; exact rfl; exact rfl; (first | exact rfl | assumption); apply stp_pur; apply s_load1; exact rfl; exact rfl; (apply RdN.own; (focus ((repeat constructor); done)); exact GetN.cons rfl GetN.nil))); (first | (apply ol_gskip; exact rfl; exact rfl; (first | exact rfl | assumption); exact rfl) | (apply ol_gskipu; exact rfl; exact rfl; exact rfl) | (apply ol_gval; exact rfl; exact rfl; exact rfl; (first | exact rfl | assumption); apply stp_pur; apply s_len; exact rfl; exact el_22)); (first | (apply ol_gskip; exact rfl; exact rfl; (first | exact rfl | assumption); exact rfl) | (apply ol_gskipu; exact rfl; exact rfl; exact rfl) | (apply ol_gval; exact rfl; exact rfl; exact rfl; (first | exact rfl | assumption); apply stp_cmp; apply s_gtr; exact rfl; exact rfl; all_goals (intro _; try (exfalso; (first | (rename_i hh; exact hh rfl) | omega); done)))); all_goals (first | (apply ol_val; exact rfl; apply stp_pur; apply s_pick_t; exact rfl; (first | exact rfl | assumption); exact rfl) | (apply ol_val; exact rfl; apply stp_pur; apply s_pick_f; exact rfl; (first | exact rfl | assumption); exact rfl)); all_goals (apply ol_nil))
        | (refine cw_region_id 3 ?_; (apply ol_as; exact rfl; exact rfl); (apply ol_nil))
        | (refine cw_region_id 4 ?_; (apply ol_as; exact rfl; exact rfl); (apply ol_nil))
        | (apply cw_cond_true; exact rfl; (first | exact rfl | assumption))
        | (apply cw_cond_false; exact rfl; (first | exact rfl | assumption))
        | apply cw_skip
        | apply cw_ret
        | apply cw_block
        | apply cw_exit
      refine ends [] (RVal.tmp rfl RVal.nil) Pick.nil ?_
      rw [hvf]; rfl
    · have hA' : decide (5 ≤ (bal.length : Int) ∧ (bal.length : Int) ≤ 105) = false := decide_eq_false hA
      repeat' first
        | apply cw_seq
        | (refine cw_region_id 0 ?_; (first | (apply ol_val; exact rfl; apply s_boxN; exact rfl; intro _) | (apply ol_val; exact rfl; apply s_box1; exact rfl; exact rfl; intro _)); (apply ol_as; exact rfl; exact rfl); (apply ol_nil))
        | (refine cw_region_id 1 ?_; (apply ol_fa; exact rfl; exact rfl; exact fd_26_0; (first | exact Nat.zero_add _ | exact Nat.add_zero _ | exact rfl)); (apply ol_ld; exact rfl; exact rfl; exact rfl; (apply RdN.own; (focus ((repeat constructor); done)); exact GetN.cons rfl GetN.nil)); (apply ol_val; exact rfl; apply stp_pur; apply s_len; exact rfl; exact el_24); (apply ol_as; exact rfl; exact rfl); (apply ol_nil))
        | (refine cw_region_id 2 ?_; (apply ol_mv; exact rfl; exact rfl); (apply ol_val; exact rfl; apply s_callv; exact rfl; exact gf_18; (intro w' hw'; exact accounts_spec _ _)); (first | (apply ol_val; exact rfl; apply stp_pur; apply s_not_t; exact rfl; (first | exact rfl | assumption)) | (apply ol_val; exact rfl; apply stp_pur; apply s_not_f; exact rfl; (first | exact rfl | assumption)) | (apply ol_val; exact rfl; apply stp_pur; apply s_not; exact rfl)); (apply ol_mv; exact rfl; exact rfl); (first | (apply ol_gskip; exact rfl; exact rfl; (first | exact rfl | assumption); exact rfl) | (apply ol_gskipu; exact rfl; exact rfl; exact rfl) | (apply ol_gval; exact rfl; exact rfl; exact rfl; (first | exact rfl | assumption); apply stp_pur; apply s_fieldAddr'; exact rfl; exact fd_26_1; (first | exact Nat.zero_add _ | exact Nat.add_zero _ | exact rfl))); (first | (apply ol_gskip; exact rfl; exact rfl; (first | exact rfl | assumption); exact rfl) | (apply ol_gskipu; exact rfl; exact rfl; exact rfl) | (apply ol_gval; exact rfl; exact rfl; exact rfl; (first | exact rfl | assumption); apply stp_pur; apply s_load1; exact rfl; exact rfl; (apply RdN.own; (focus ((repeat constructor); done)); exact GetN.cons rfl GetN.nil))); (first | (apply ol_gskip; exact rfl; exact rfl; (first | exact rfl | assumption); exact rfl) | (apply ol_gskipu; exact rfl; exact rfl; exact rfl) | (apply ol_gval; exact rfl; exact rfl; exact rfl; (first | exact rfl | assumption); apply stp_pur; apply s_len; exact rfl; exact el_22)); (first | (apply ol_gskip; exact rfl; exact rfl; (first | exact rfl | assumption); exact rfl) | (apply ol_gskipu; exact rfl; exact rfl; exact rfl) | (apply ol_gval; exact rfl; exact rfl; exact rfl; (first | exact rfl | assumption); apply stp_cmp; apply s_gtr; exact rfl; exact rfl; all_goals (intro _; try (exfalso; (first | (rename_i hh; exact hh rfl) | omega); done)))); all_goals (first | (apply ol_val; exact rfl; apply stp_pur; apply s_pick_t; exact rfl; (first | exact rfl | assumption); exact rfl) | (apply ol_val; exact rfl; apply stp_pur; apply s_pick_f; exact rfl; (first | exact rfl | assumption); exact rfl)); all_goals (apply ol_nil))
        | (refine cw_region_id 3 ?_; (apply ol_as; exact rfl; exact rfl); (apply ol_nil))
        | (refine cw_region_id 4 ?_; (apply ol_as; exact rfl; exact rfl); (apply ol_nil))
        | (apply cw_cond_true; exact rfl; (first | exact rfl | assumption))
        | (apply cw_cond_false; exact rfl; (first | exact rfl | assumption))
        | apply cw_skip
        | apply cw_ret
        | apply cw_block
        | apply cw_exit
      refine ends [] (RVal.tmp rfl RVal.nil) Pick.nil ?_
      rw [hvf]; rfl
end Go.Proofs.Ytmgmpgccnohpkaa
