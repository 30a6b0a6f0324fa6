/-
  Texts joined: A3 A4 A6 A7 A9 A10 A11 A12 A13 A14 A15.
-/
import Derived.Test.YtagmoecojmlogaaVr
namespace Go.Proofs.Ytagmoecojmlogaa
set_option maxRecDepth 20000
set_option linter.unusedSimpArgs false
set_option linter.unusedVariables false
open Go Go.Fw
theorem getD_lt {vo : List Int} {i : Nat} (h : i < vo.length) : vo[i] = vo.getD i 0 := by rw [List.getD_eq_getElem?_getD, List.getElem?_eq_getElem h]; rfl
end Go.Proofs.Ytagmoecojmlogaa
namespace Go.Proofs.Ytagmoecojmlogaa
set_option maxRecDepth 20000
set_option linter.unusedSimpArgs false
set_option linter.unusedVariables false
open Go Go.Fw
attribute [local irreducible] CW OL OD FX Stp FnC FnV FnA Ret
set_option maxHeartbeats 800000
theorem validVotes_spec {M : View} {w : World} (hM : View.le M (View.of w)) {s : LS} (hs : LsV M s) (hb : 1 ≤ s.bn) :
    FnC Try.prog 52 [.agg s.enc.toArray] w (fun v _ => v = .bool (voB s.ph s.bn s.V.xs)) := by
  obtain ⟨ro, ph, bk, bn, ⟨tr, ta, tb, to, tc⟩, ⟨vo, va, vb, vo', vc⟩⟩ := s
  obtain ⟨h1, h2, h3, h4⟩ := hs
  unfold LS.enc
  dsimp only at h1 h2 h3 h4 hb ⊢
  unfold voB
  have ka := fun (w' : World) (h : View.le M (View.of w')) => anyInts_spec h (cap := []) (p := fun v => !inn v 0 1) (f := 72) (by kernel_rfl) (fun w'' x _ => votes1_spec w'' x) rfl rfl (c := vc) h2 (by omega)
  have kc := fun (w' : World) (h : View.le M (View.of w')) => contains_spec (c := vc) h rfl h2 (by omega) 0
  refine enterF (M := M) Try.func52 rfl rfl rfl rfl hM ?_
  by_cases hp : ph = 0
  · rw [if_pos hp]
    by_cases hl : vo.length = 0
    · rw [decide_eq_true hl]
      repeat' first
        | apply cw_seq
        | (refine cw_region_id 0 ?_; (apply ol_val; rfl; first | (apply s_boxN; rfl; intro bk1) | (apply s_box1; rfl; rfl; intro bk1)); (apply ol_as; rfl; rfl); (apply ol_nil))
        | (refine cw_region_id 1 ?_; (apply ol_fa; rfl; rfl; exact fd_25_1; exact qZ); (apply ol_ld; rfl; rfl; rfl; exact qP); (apply ol_val; rfl; apply stp_cmp; apply s_eql; rfl; rfl; all_goals (intro hc5; try (exfalso; (first | exact hc5 rfl | omega)))); all_goals (apply ol_nil))
        | (refine cw_region_id 2 ?_; (apply ol_fa; rfl; rfl; exact fd_25_5; exact qZ); (apply ol_ld; rfl; rfl; rfl; exact qP); (apply ol_val; rfl; apply stp_pur; apply s_len; rfl; exact el_23); (apply ol_val; rfl; apply stp_cmp; apply s_eql; rfl; rfl; all_goals (intro hc9; try (exfalso; (first | exact hc9 rfl | omega)))); all_goals (apply ol_as; rfl; rfl); all_goals (apply ol_nil))
        | (apply cw_cond_true; rfl; exact qA)
        | (apply cw_cond_false; rfl; exact qA)
        | apply cw_skip
        | apply cw_ret
        | apply cw_block
        | apply cw_exit
      all_goals (refine ends [] (RVal.tmp rfl RVal.nil) Pick.nil ?_; rfl)
    · rw [decide_eq_false hl]
      repeat' first
        | apply cw_seq
        | (refine cw_region_id 0 ?_; (apply ol_val; rfl; first | (apply s_boxN; rfl; intro bk1) | (apply s_box1; rfl; rfl; intro bk1)); (apply ol_as; rfl; rfl); (apply ol_nil))
        | (refine cw_region_id 1 ?_; (apply ol_fa; rfl; rfl; exact fd_25_1; exact qZ); (apply ol_ld; rfl; rfl; rfl; exact qP); (apply ol_val; rfl; apply stp_cmp; apply s_eql; rfl; rfl; all_goals (intro hc5; try (exfalso; (first | exact hc5 rfl | omega)))); all_goals (apply ol_nil))
        | (refine cw_region_id 2 ?_; (apply ol_fa; rfl; rfl; exact fd_25_5; exact qZ); (apply ol_ld; rfl; rfl; rfl; exact qP); (apply ol_val; rfl; apply stp_pur; apply s_len; rfl; exact el_23); (apply ol_val; rfl; apply stp_cmp; apply s_eql; rfl; rfl; all_goals (intro hc9; try (exfalso; (first | exact hc9 rfl | omega)))); all_goals (apply ol_as; rfl; rfl); all_goals (apply ol_nil))
        | (apply cw_cond_true; rfl; exact qA)
        | (apply cw_cond_false; rfl; exact qA)
        | apply cw_skip
        | apply cw_ret
        | apply cw_block
        | apply cw_exit
      all_goals (refine ends [] (RVal.tmp rfl RVal.nil) Pick.nil ?_; rfl)
  · rw [if_neg hp]
    by_cases hl : (vo.length : Int) = bn
    · have h0 : 0 < vo.length := by omega
      have hc := h2.cells 0 h0
      rw [getD_lt h0] at hc
      by_cases h5 : vo.getD 0 0 = 1
      · generalize vo.getD 0 0 = v0 at *
        cases h6 : vo.any (fun v => !inn v 0 1) with
        | true =>
          rw [h6] at ka
          rw [if_pos (.inr (.inr rfl))]
          repeat' first
            | apply cw_seq
            | (refine cw_region_id 0 ?_; (apply ol_val; rfl; first | (apply s_boxN; rfl; intro bk1) | (apply s_box1; rfl; rfl; intro bk1)); (apply ol_as; rfl; rfl); (apply ol_nil))
            | (refine cw_region_id 1 ?_; (apply ol_fa; rfl; rfl; exact fd_25_1; exact qZ); (apply ol_ld; rfl; rfl; rfl; (first | exact qP | (apply RdN.view; exact hc))); (apply ol_val; rfl; apply stp_cmp; apply s_eql; rfl; rfl; all_goals (intro hc5; try (exfalso; (first | exact hc5 rfl | omega)))); all_goals (apply ol_nil))
            | (refine cw_region_id 3 ?_; (apply ol_fa; rfl; rfl; exact fd_25_5; exact qZ); (apply ol_ld; rfl; rfl; rfl; (first | exact qP | (apply RdN.view; exact hc))); (apply ol_val; rfl; apply stp_pur; apply s_len; rfl; exact el_23); (apply ol_fa; rfl; rfl; exact fd_25_3; exact qZ); (apply ol_ld; rfl; rfl; rfl; (first | exact qP | (apply RdN.view; exact hc))); (apply ol_val; rfl; apply stp_cmp; apply s_neq; rfl; rfl; all_goals (intro hc15; try (exfalso; (first | exact hc15 rfl | omega)))); all_goals (apply ol_mv; rfl; rfl); all_goals (first | (apply ol_gskip; rfl; rfl; exact qA; rfl) | (apply ol_gval; rfl; rfl; rfl; exact qA; apply stp_pur; apply s_fieldAddr'; rfl; exact fd_25_5; exact qZ)); all_goals (first | (apply ol_gskip; rfl; rfl; exact qA; rfl) | (apply ol_gval; rfl; rfl; rfl; exact qA; apply stp_pur; apply s_load1; rfl; rfl; (first | exact qP | (apply RdN.view; exact hc)))); all_goals (first | (apply ol_gskip; rfl; rfl; exact qA; rfl) | (apply ol_gval; rfl; rfl; rfl; exact qA; apply stp_pur; first | (apply s_indexK; rfl; rfl; exact el_23; exact sz_3; (first | rfl | exact h2.at_ h0); omega) | (apply s_indexO; rfl; rfl; exact el_23; exact sz_3; (first | rfl | exact h2.at_ h0); omega))); all_goals (first | (apply ol_gskip; rfl; rfl; exact qA; rfl) | (apply ol_gval; rfl; rfl; rfl; exact qA; apply stp_pur; apply s_load1; rfl; rfl; (first | exact qP | (apply RdN.view; exact hc)))); all_goals (first | (apply ol_gskip; rfl; rfl; exact qA; rfl) | (apply ol_gval; rfl; rfl; rfl; exact qA; apply stp_cmp; apply s_neq; rfl; rfl; all_goals (intro hc21; try (exfalso; (first | exact hc21 rfl | omega))))); all_goals (apply ol_val; rfl; apply stp_pur; first | (apply s_pick_t; rfl; exact qA; rfl) | (apply s_pick_f; rfl; exact qA; rfl)); all_goals (apply ol_mv; rfl; rfl); all_goals (first | (apply ol_gskip; rfl; rfl; exact qA; rfl) | (apply ol_gval; rfl; rfl; rfl; exact qA; apply stp_pur; apply s_fieldAddr'; rfl; exact fd_25_5; exact qZ)); all_goals (first | (apply ol_gskip; rfl; rfl; exact qA; rfl) | (apply ol_gval; rfl; rfl; rfl; exact qA; apply stp_pur; apply s_load1; rfl; rfl; (first | exact qP | (apply RdN.view; exact hc)))); all_goals (first | (apply ol_gskip; rfl; rfl; exact qA; rfl) | (apply ol_gval; rfl; rfl; rfl; exact qA; apply s_callv; rfl; exact gf_71; (intro w' hw'; exact ka w' hw'.le))); all_goals (apply ol_val; rfl; apply stp_pur; first | (apply s_pick_t; rfl; exact qA; rfl) | (apply s_pick_f; rfl; exact qA; rfl)); all_goals (apply ol_nil))
            | (refine cw_region_id 4 ?_; (apply ol_as; rfl; rfl); (apply ol_nil))
            | (apply cw_cond_true; rfl; exact qA)
            | (apply cw_cond_false; rfl; exact qA)
            | apply cw_skip
            | apply cw_ret
            | apply cw_block
            | apply cw_exit
          all_goals (refine ends [] (RVal.tmp rfl RVal.nil) Pick.nil ?_; rfl)
        | false =>
          rw [h6] at ka
          rw [if_neg (by simp; omega)]
          generalize (vo.any fun v => decide (v = 0)) = z at *
          by_cases h7 : ph < 4
          · rw [decide_eq_true h7]
            repeat' first
              | apply cw_seq
              | (refine cw_region_id 0 ?_; (apply ol_val; rfl; first | (apply s_boxN; rfl; intro bk1) | (apply s_box1; rfl; rfl; intro bk1)); (apply ol_as; rfl; rfl); (apply ol_nil))
              | (refine cw_region_id 1 ?_; (apply ol_fa; rfl; rfl; exact fd_25_1; exact qZ); (apply ol_ld; rfl; rfl; rfl; (first | exact qP | (apply RdN.view; exact hc))); (apply ol_val; rfl; apply stp_cmp; apply s_eql; rfl; rfl; all_goals (intro hc5; try (exfalso; (first | exact hc5 rfl | omega)))); all_goals (apply ol_nil))
              | (refine cw_region_id 3 ?_; (apply ol_fa; rfl; rfl; exact fd_25_5; exact qZ); (apply ol_ld; rfl; rfl; rfl; (first | exact qP | (apply RdN.view; exact hc))); (apply ol_val; rfl; apply stp_pur; apply s_len; rfl; exact el_23); (apply ol_fa; rfl; rfl; exact fd_25_3; exact qZ); (apply ol_ld; rfl; rfl; rfl; (first | exact qP | (apply RdN.view; exact hc))); (apply ol_val; rfl; apply stp_cmp; apply s_neq; rfl; rfl; all_goals (intro hc15; try (exfalso; (first | exact hc15 rfl | omega)))); all_goals (apply ol_mv; rfl; rfl); all_goals (first | (apply ol_gskip; rfl; rfl; exact qA; rfl) | (apply ol_gval; rfl; rfl; rfl; exact qA; apply stp_pur; apply s_fieldAddr'; rfl; exact fd_25_5; exact qZ)); all_goals (first | (apply ol_gskip; rfl; rfl; exact qA; rfl) | (apply ol_gval; rfl; rfl; rfl; exact qA; apply stp_pur; apply s_load1; rfl; rfl; (first | exact qP | (apply RdN.view; exact hc)))); all_goals (first | (apply ol_gskip; rfl; rfl; exact qA; rfl) | (apply ol_gval; rfl; rfl; rfl; exact qA; apply stp_pur; first | (apply s_indexK; rfl; rfl; exact el_23; exact sz_3; (first | rfl | exact h2.at_ h0); omega) | (apply s_indexO; rfl; rfl; exact el_23; exact sz_3; (first | rfl | exact h2.at_ h0); omega))); all_goals (first | (apply ol_gskip; rfl; rfl; exact qA; rfl) | (apply ol_gval; rfl; rfl; rfl; exact qA; apply stp_pur; apply s_load1; rfl; rfl; (first | exact qP | (apply RdN.view; exact hc)))); all_goals (first | (apply ol_gskip; rfl; rfl; exact qA; rfl) | (apply ol_gval; rfl; rfl; rfl; exact qA; apply stp_cmp; apply s_neq; rfl; rfl; all_goals (intro hc21; try (exfalso; (first | exact hc21 rfl | omega))))); all_goals (apply ol_val; rfl; apply stp_pur; first | (apply s_pick_t; rfl; exact qA; rfl) | (apply s_pick_f; rfl; exact qA; rfl)); all_goals (apply ol_mv; rfl; rfl); all_goals (first | (apply ol_gskip; rfl; rfl; exact qA; rfl) | (apply ol_gval; rfl; rfl; rfl; exact qA; apply stp_pur; apply s_fieldAddr'; rfl; exact fd_25_5; exact qZ)); all_goals (first | (apply ol_gskip; rfl; rfl; exact qA; rfl) | (apply ol_gval; rfl; rfl; rfl; exact qA; apply stp_pur; apply s_load1; rfl; rfl; (first | exact qP | (apply RdN.view; exact hc)))); all_goals (first | (apply ol_gskip; rfl; rfl; exact qA; rfl) | (apply ol_gval; rfl; rfl; rfl; exact qA; apply s_callv; rfl; exact gf_71; (intro w' hw'; exact ka w' hw'.le))); all_goals (apply ol_val; rfl; apply stp_pur; first | (apply s_pick_t; rfl; exact qA; rfl) | (apply s_pick_f; rfl; exact qA; rfl)); all_goals (apply ol_nil))
              | (refine cw_draw (id := 5) 8 (.mv 0 (.mv 1 (.mv 3 (.mv 4 (.mv 5 (.fx 2 (.mv 6 (.mv 7 (PT.nil))))))))) mixed (by kernel_rfl) ?_; (apply od_mv; rfl; rfl; apply s_fieldAddr'; rfl; exact fd_25_5; exact qZ); (apply od_mv; rfl; rfl; apply s_load1; rfl; rfl; (first | exact qP | (apply RdN.view; exact hc))); (apply od_mv; rfl; rfl; apply s_fieldAddr'; rfl; exact fd_25_1; exact qZ); (apply od_mv; rfl; rfl; apply s_load1; rfl; rfl; (first | exact qP | (apply RdN.view; exact hc))); (apply od_cmp; rfl; rfl; apply s_lss; rfl; rfl; all_goals (intro hc33; try (exfalso; (first | exact hc33 rfl | omega)))); all_goals (apply od_fx; (first | exact Wk.refl _ _ | exact qW); (apply fx_val; rfl; rfl; apply s_callv; rfl; exact gf_73; (intro w' hw'; exact kc w' hw'.le))); all_goals (apply od_mv; rfl; rfl; apply s_eqlB; rfl; rfl; exact ub_4); all_goals (apply od_mv; rfl; rfl; apply s_assign; rfl); all_goals (apply od_nil; (first | exact Wk.refl _ _ | exact qW)); all_goals (apply ol_nil))
              | (apply cw_cond_true; rfl; exact qA)
              | (apply cw_cond_false; rfl; exact qA)
              | apply cw_skip
              | apply cw_ret
              | apply cw_block
              | apply cw_exit
            all_goals (refine ends [] (RVal.tmp rfl RVal.nil) Pick.nil ?_; rfl)
          · rw [decide_eq_false h7]
            repeat' first
              | apply cw_seq
              | (refine cw_region_id 0 ?_; (apply ol_val; rfl; first | (apply s_boxN; rfl; intro bk1) | (apply s_box1; rfl; rfl; intro bk1)); (apply ol_as; rfl; rfl); (apply ol_nil))
              | (refine cw_region_id 1 ?_; (apply ol_fa; rfl; rfl; exact fd_25_1; exact qZ); (apply ol_ld; rfl; rfl; rfl; (first | exact qP | (apply RdN.view; exact hc))); (apply ol_val; rfl; apply stp_cmp; apply s_eql; rfl; rfl; all_goals (intro hc5; try (exfalso; (first | exact hc5 rfl | omega)))); all_goals (apply ol_nil))
              | (refine cw_region_id 3 ?_; (apply ol_fa; rfl; rfl; exact fd_25_5; exact qZ); (apply ol_ld; rfl; rfl; rfl; (first | exact qP | (apply RdN.view; exact hc))); (apply ol_val; rfl; apply stp_pur; apply s_len; rfl; exact el_23); (apply ol_fa; rfl; rfl; exact fd_25_3; exact qZ); (apply ol_ld; rfl; rfl; rfl; (first | exact qP | (apply RdN.view; exact hc))); (apply ol_val; rfl; apply stp_cmp; apply s_neq; rfl; rfl; all_goals (intro hc15; try (exfalso; (first | exact hc15 rfl | omega)))); all_goals (apply ol_mv; rfl; rfl); all_goals (first | (apply ol_gskip; rfl; rfl; exact qA; rfl) | (apply ol_gval; rfl; rfl; rfl; exact qA; apply stp_pur; apply s_fieldAddr'; rfl; exact fd_25_5; exact qZ)); all_goals (first | (apply ol_gskip; rfl; rfl; exact qA; rfl) | (apply ol_gval; rfl; rfl; rfl; exact qA; apply stp_pur; apply s_load1; rfl; rfl; (first | exact qP | (apply RdN.view; exact hc)))); all_goals (first | (apply ol_gskip; rfl; rfl; exact qA; rfl) | (apply ol_gval; rfl; rfl; rfl; exact qA; apply stp_pur; first | (apply s_indexK; rfl; rfl; exact el_23; exact sz_3; (first | rfl | exact h2.at_ h0); omega) | (apply s_indexO; rfl; rfl; exact el_23; exact sz_3; (first | rfl | exact h2.at_ h0); omega))); all_goals (first | (apply ol_gskip; rfl; rfl; exact qA; rfl) | (apply ol_gval; rfl; rfl; rfl; exact qA; apply stp_pur; apply s_load1; rfl; rfl; (first | exact qP | (apply RdN.view; exact hc)))); all_goals (first | (apply ol_gskip; rfl; rfl; exact qA; rfl) | (apply ol_gval; rfl; rfl; rfl; exact qA; apply stp_cmp; apply s_neq; rfl; rfl; all_goals (intro hc21; try (exfalso; (first | exact hc21 rfl | omega))))); all_goals (apply ol_val; rfl; apply stp_pur; first | (apply s_pick_t; rfl; exact qA; rfl) | (apply s_pick_f; rfl; exact qA; rfl)); all_goals (apply ol_mv; rfl; rfl); all_goals (first | (apply ol_gskip; rfl; rfl; exact qA; rfl) | (apply ol_gval; rfl; rfl; rfl; exact qA; apply stp_pur; apply s_fieldAddr'; rfl; exact fd_25_5; exact qZ)); all_goals (first | (apply ol_gskip; rfl; rfl; exact qA; rfl) | (apply ol_gval; rfl; rfl; rfl; exact qA; apply stp_pur; apply s_load1; rfl; rfl; (first | exact qP | (apply RdN.view; exact hc)))); all_goals (first | (apply ol_gskip; rfl; rfl; exact qA; rfl) | (apply ol_gval; rfl; rfl; rfl; exact qA; apply s_callv; rfl; exact gf_71; (intro w' hw'; exact ka w' hw'.le))); all_goals (apply ol_val; rfl; apply stp_pur; first | (apply s_pick_t; rfl; exact qA; rfl) | (apply s_pick_f; rfl; exact qA; rfl)); all_goals (apply ol_nil))
              | (refine cw_draw (id := 5) 8 (.mv 0 (.mv 1 (.mv 3 (.mv 4 (.mv 5 (.fx 2 (.mv 6 (.mv 7 (PT.nil))))))))) mixed (by kernel_rfl) ?_; (apply od_mv; rfl; rfl; apply s_fieldAddr'; rfl; exact fd_25_5; exact qZ); (apply od_mv; rfl; rfl; apply s_load1; rfl; rfl; (first | exact qP | (apply RdN.view; exact hc))); (apply od_mv; rfl; rfl; apply s_fieldAddr'; rfl; exact fd_25_1; exact qZ); (apply od_mv; rfl; rfl; apply s_load1; rfl; rfl; (first | exact qP | (apply RdN.view; exact hc))); (apply od_cmp; rfl; rfl; apply s_lss; rfl; rfl; all_goals (intro hc33; try (exfalso; (first | exact hc33 rfl | omega)))); all_goals (apply od_fx; (first | exact Wk.refl _ _ | exact qW); (apply fx_val; rfl; rfl; apply s_callv; rfl; exact gf_73; (intro w' hw'; exact kc w' hw'.le))); all_goals (apply od_mv; rfl; rfl; apply s_eqlB; rfl; rfl; exact ub_4); all_goals (apply od_mv; rfl; rfl; apply s_assign; rfl); all_goals (apply od_nil; (first | exact Wk.refl _ _ | exact qW)); all_goals (apply ol_nil))
              | (apply cw_cond_true; rfl; exact qA)
              | (apply cw_cond_false; rfl; exact qA)
              | apply cw_skip
              | apply cw_ret
              | apply cw_block
              | apply cw_exit
            all_goals (refine ends [] (RVal.tmp rfl RVal.nil) Pick.nil ?_; rfl)
      · rw [if_pos (.inr (.inl h5))]
        generalize vo.getD 0 0 = v0 at *
        repeat' first
          | apply cw_seq
          | (refine cw_region_id 0 ?_; (apply ol_val; rfl; first | (apply s_boxN; rfl; intro bk1) | (apply s_box1; rfl; rfl; intro bk1)); (apply ol_as; rfl; rfl); (apply ol_nil))
          | (refine cw_region_id 1 ?_; (apply ol_fa; rfl; rfl; exact fd_25_1; exact qZ); (apply ol_ld; rfl; rfl; rfl; (first | exact qP | (apply RdN.view; exact hc))); (apply ol_val; rfl; apply stp_cmp; apply s_eql; rfl; rfl; all_goals (intro hc5; try (exfalso; (first | exact hc5 rfl | omega)))); all_goals (apply ol_nil))
          | (refine cw_region_id 3 ?_; (apply ol_fa; rfl; rfl; exact fd_25_5; exact qZ); (apply ol_ld; rfl; rfl; rfl; (first | exact qP | (apply RdN.view; exact hc))); (apply ol_val; rfl; apply stp_pur; apply s_len; rfl; exact el_23); (apply ol_fa; rfl; rfl; exact fd_25_3; exact qZ); (apply ol_ld; rfl; rfl; rfl; (first | exact qP | (apply RdN.view; exact hc))); (apply ol_val; rfl; apply stp_cmp; apply s_neq; rfl; rfl; all_goals (intro hc15; try (exfalso; (first | exact hc15 rfl | omega)))); all_goals (apply ol_mv; rfl; rfl); all_goals (first | (apply ol_gskip; rfl; rfl; exact qA; rfl) | (apply ol_gval; rfl; rfl; rfl; exact qA; apply stp_pur; apply s_fieldAddr'; rfl; exact fd_25_5; exact qZ)); all_goals (first | (apply ol_gskip; rfl; rfl; exact qA; rfl) | (apply ol_gval; rfl; rfl; rfl; exact qA; apply stp_pur; apply s_load1; rfl; rfl; (first | exact qP | (apply RdN.view; exact hc)))); all_goals (first | (apply ol_gskip; rfl; rfl; exact qA; rfl) | (apply ol_gval; rfl; rfl; rfl; exact qA; apply stp_pur; first | (apply s_indexK; rfl; rfl; exact el_23; exact sz_3; (first | rfl | exact h2.at_ h0); omega) | (apply s_indexO; rfl; rfl; exact el_23; exact sz_3; (first | rfl | exact h2.at_ h0); omega))); all_goals (first | (apply ol_gskip; rfl; rfl; exact qA; rfl) | (apply ol_gval; rfl; rfl; rfl; exact qA; apply stp_pur; apply s_load1; rfl; rfl; (first | exact qP | (apply RdN.view; exact hc)))); all_goals (first | (apply ol_gskip; rfl; rfl; exact qA; rfl) | (apply ol_gval; rfl; rfl; rfl; exact qA; apply stp_cmp; apply s_neq; rfl; rfl; all_goals (intro hc21; try (exfalso; (first | exact hc21 rfl | omega))))); all_goals (apply ol_val; rfl; apply stp_pur; first | (apply s_pick_t; rfl; exact qA; rfl) | (apply s_pick_f; rfl; exact qA; rfl)); all_goals (apply ol_mv; rfl; rfl); all_goals (first | (apply ol_gskip; rfl; rfl; exact qA; rfl) | (apply ol_gval; rfl; rfl; rfl; exact qA; apply stp_pur; apply s_fieldAddr'; rfl; exact fd_25_5; exact qZ)); all_goals (first | (apply ol_gskip; rfl; rfl; exact qA; rfl) | (apply ol_gval; rfl; rfl; rfl; exact qA; apply stp_pur; apply s_load1; rfl; rfl; (first | exact qP | (apply RdN.view; exact hc)))); all_goals (first | (apply ol_gskip; rfl; rfl; exact qA; rfl) | (apply ol_gval; rfl; rfl; rfl; exact qA; fail)); all_goals (apply ol_val; rfl; apply stp_pur; first | (apply s_pick_t; rfl; exact qA; rfl) | (apply s_pick_f; rfl; exact qA; rfl)); all_goals (apply ol_nil))
          | (refine cw_region_id 4 ?_; (apply ol_as; rfl; rfl); (apply ol_nil))
          | (apply cw_cond_true; rfl; exact qA)
          | (apply cw_cond_false; rfl; exact qA)
          | apply cw_skip
          | apply cw_ret
          | apply cw_block
          | apply cw_exit
        all_goals (refine ends [] (RVal.tmp rfl RVal.nil) Pick.nil ?_; rfl)
    · rw [if_pos (.inl hl)]
      repeat' first
        | apply cw_seq
        | (refine cw_region_id 0 ?_; (apply ol_val; rfl; first | (apply s_boxN; rfl; intro bk1) | (apply s_box1; rfl; rfl; intro bk1)); (apply ol_as; rfl; rfl); (apply ol_nil))
        | (refine cw_region_id 1 ?_; (apply ol_fa; rfl; rfl; exact fd_25_1; exact qZ); (apply ol_ld; rfl; rfl; rfl; exact qP); (apply ol_val; rfl; apply stp_cmp; apply s_eql; rfl; rfl; all_goals (intro hc5; try (exfalso; (first | exact hc5 rfl | omega)))); all_goals (apply ol_nil))
        | (refine cw_region_id 3 ?_; (apply ol_fa; rfl; rfl; exact fd_25_5; exact qZ); (apply ol_ld; rfl; rfl; rfl; exact qP); (apply ol_val; rfl; apply stp_pur; apply s_len; rfl; exact el_23); (apply ol_fa; rfl; rfl; exact fd_25_3; exact qZ); (apply ol_ld; rfl; rfl; rfl; exact qP); (apply ol_val; rfl; apply stp_cmp; apply s_neq; rfl; rfl; all_goals (intro hc15; try (exfalso; (first | exact hc15 rfl | omega)))); all_goals (apply ol_mv; rfl; rfl); all_goals (first | (apply ol_gskip; rfl; rfl; exact qA; rfl) | (apply ol_gval; rfl; rfl; rfl; exact qA; apply stp_pur; apply s_fieldAddr'; rfl; exact fd_25_5; exact qZ)); all_goals (first | (apply ol_gskip; rfl; rfl; exact qA; rfl) | (apply ol_gval; rfl; rfl; rfl; exact qA; apply stp_pur; apply s_load1; rfl; rfl; exact qP)); all_goals (first | (apply ol_gskip; rfl; rfl; exact qA; rfl) | (apply ol_gval; rfl; rfl; rfl; exact qA; apply stp_pur; first | (apply s_indexK; rfl; rfl; exact el_23; exact sz_3; (first | rfl); omega) | (apply s_indexO; rfl; rfl; exact el_23; exact sz_3; (first | rfl); omega))); all_goals (first | (apply ol_gskip; rfl; rfl; exact qA; rfl) | (apply ol_gval; rfl; rfl; rfl; exact qA; apply stp_pur; apply s_load1; rfl; rfl; exact qP)); all_goals (first | (apply ol_gskip; rfl; rfl; exact qA; rfl) | (apply ol_gval; rfl; rfl; rfl; exact qA; apply stp_cmp; apply s_neq; rfl; rfl; all_goals (intro hc21; try (exfalso; (first | exact hc21 rfl | omega))))); all_goals (apply ol_val; rfl; apply stp_pur; first | (apply s_pick_t; rfl; exact qA; rfl) | (apply s_pick_f; rfl; exact qA; rfl)); all_goals (apply ol_mv; rfl; rfl); all_goals (first | (apply ol_gskip; rfl; rfl; exact qA; rfl) | (apply ol_gval; rfl; rfl; rfl; exact qA; apply stp_pur; apply s_fieldAddr'; rfl; exact fd_25_5; exact qZ)); all_goals (first | (apply ol_gskip; rfl; rfl; exact qA; rfl) | (apply ol_gval; rfl; rfl; rfl; exact qA; apply stp_pur; apply s_load1; rfl; rfl; exact qP)); all_goals (first | (apply ol_gskip; rfl; rfl; exact qA; rfl) | (apply ol_gval; rfl; rfl; rfl; exact qA; fail)); all_goals (apply ol_val; rfl; apply stp_pur; first | (apply s_pick_t; rfl; exact qA; rfl) | (apply s_pick_f; rfl; exact qA; rfl)); all_goals (apply ol_nil))
        | (refine cw_region_id 4 ?_; (apply ol_as; rfl; rfl); (apply ol_nil))
        | (apply cw_cond_true; rfl; exact qA)
        | (apply cw_cond_false; rfl; exact qA)
        | apply cw_skip
        | apply cw_ret
        | apply cw_block
        | apply cw_exit
      all_goals (refine ends [] (RVal.tmp rfl RVal.nil) Pick.nil ?_; rfl)
theorem valid_spec' {M : View} {w : World} (hM : View.le M (View.of w)) {s : LS} (hs : LsV M s) :
    FnC Try.prog 24 [.agg s.enc.toArray] w (fun v _ => v = .bool (svB s.val)) := by
  have kvo := fun (hb : 1 ≤ s.bn) (w' : World) (h : View.le M (View.of w')) => validVotes_spec h hs hb
  obtain ⟨ro, ph, bk, bn, ⟨tr, ta, tb, to, tc⟩, ⟨vo, va, vb, vo', vc⟩⟩ := s
  obtain ⟨s1, s2, l1, l2⟩ := hs
  unfold LS.enc at *
  unfold LS.val
  dsimp only at s1 s2 l1 l2 kvo ⊢
  unfold svB
  dsimp only
  have k1 := fun (w' : World) => in_spec w' ro 0 1073741824
  have k2 := fun (w' : World) => in_spec w' bn 1 8
  have k3 := fun (w' : World) => in_spec w' bk 0 (bn - 1)
  have k5 := fun (w' : World) => in_spec w' ph 0 5
  refine enterF (M := M) Try.func24 rfl rfl rfl rfl hM ?_
  cases h1 : inn ro 0 1073741824 with
  | false =>
    rw [h1] at k1
    repeat' first
      | apply cw_seq
      | (refine cw_region_id 0 ?_; (apply ol_val; rfl; first | (apply s_boxN; rfl; intro bk1) | (apply s_box1; rfl; rfl; intro bk1)); (apply ol_as; rfl; rfl); (apply ol_nil))
      | (refine cw_region_id 1 ?_; (apply ol_fa; rfl; rfl; exact fd_25_0; exact qZ); (apply ol_ld; rfl; rfl; rfl; exact qP); (apply ol_val; rfl; apply s_callv; rfl; exact gf_50; (intro w' hw'; exact k1 w')); (apply ol_val; rfl; apply stp_pur; first | (apply s_not_t; rfl; exact qA) | (apply s_not_f; rfl; exact qA) | (apply s_not; rfl)); (apply ol_mv; rfl; rfl); (first | (apply ol_gskip; rfl; rfl; exact qA; rfl) | (apply ol_gval; rfl; rfl; rfl; exact qA; apply stp_pur; apply s_fieldAddr'; rfl; exact fd_25_3; exact qZ)); (first | (apply ol_gskip; rfl; rfl; exact qA; rfl) | (apply ol_gval; rfl; rfl; rfl; exact qA; apply stp_pur; apply s_load1; rfl; rfl; exact qP)); (first | (apply ol_gskip; rfl; rfl; exact qA; rfl) | (apply ol_gval; rfl; rfl; rfl; exact qA; apply s_callv; rfl; exact gf_50; (intro w' hw'; exact k1 w'))); (first | (apply ol_gskip; rfl; rfl; exact qA; rfl) | (apply ol_gval; rfl; rfl; rfl; exact qA; apply stp_pur; first | (apply s_not_t; rfl; exact qA) | (apply s_not_f; rfl; exact qA) | (apply s_not; rfl))); (apply ol_val; rfl; apply stp_pur; first | (apply s_pick_t; rfl; exact qA; rfl) | (apply s_pick_f; rfl; exact qA; rfl)); (apply ol_mv; rfl; rfl); (first | (apply ol_gskip; rfl; rfl; exact qA; rfl) | (apply ol_gval; rfl; rfl; rfl; exact qA; apply stp_pur; apply s_fieldAddr'; rfl; exact fd_25_2; exact qZ)); (first | (apply ol_gskip; rfl; rfl; exact qA; rfl) | (apply ol_gval; rfl; rfl; rfl; exact qA; apply stp_pur; apply s_load1; rfl; rfl; exact qP)); (first | (apply ol_gskip; rfl; rfl; exact qA; rfl) | (apply ol_gval; rfl; rfl; rfl; exact qA; apply stp_pur; apply s_fieldAddr'; rfl; exact fd_25_3; exact qZ)); (first | (apply ol_gskip; rfl; rfl; exact qA; rfl) | (apply ol_gval; rfl; rfl; rfl; exact qA; apply stp_pur; apply s_load1; rfl; rfl; exact qP)); (first | (apply ol_gskip; rfl; rfl; exact qA; rfl) | (apply ol_gval; rfl; rfl; rfl; exact qA; apply stp_pur; apply s_sub64; rfl; rfl; omega)); (first | (apply ol_gskip; rfl; rfl; exact qA; rfl) | (apply ol_gval; rfl; rfl; rfl; exact qA; apply s_callv; rfl; exact gf_50; (intro w' hw'; exact k1 w'))); (first | (apply ol_gskip; rfl; rfl; exact qA; rfl) | (apply ol_gval; rfl; rfl; rfl; exact qA; apply stp_pur; first | (apply s_not_t; rfl; exact qA) | (apply s_not_f; rfl; exact qA) | (apply s_not; rfl))); (apply ol_val; rfl; apply stp_pur; first | (apply s_pick_t; rfl; exact qA; rfl) | (apply s_pick_f; rfl; exact qA; rfl)); (apply ol_mv; rfl; rfl); (first | (apply ol_gskip; rfl; rfl; exact qA; rfl) | (apply ol_gval; rfl; rfl; rfl; exact qA; apply stp_pur; apply s_fieldAddr'; rfl; exact fd_25_3; exact qZ)); (first | (apply ol_gskip; rfl; rfl; exact qA; rfl) | (apply ol_gval; rfl; rfl; rfl; exact qA; apply stp_pur; apply s_load1; rfl; rfl; exact qP)); (first | (apply ol_gskip; rfl; rfl; exact qA; rfl) | (apply ol_gval; rfl; rfl; rfl; exact qA; apply stp_pur; apply s_fieldAddr'; rfl; exact fd_25_4; exact qZ)); (first | (apply ol_gskip; rfl; rfl; exact qA; rfl) | (apply ol_gval; rfl; rfl; rfl; exact qA; apply stp_pur; apply s_load1; rfl; rfl; exact qP)); (apply ol_gskip; rfl; rfl; exact qA; rfl); (first | (apply ol_gskip; rfl; rfl; exact qA; rfl) | (apply ol_gval; rfl; rfl; rfl; exact qA; apply stp_pur; first | (apply s_not_t; rfl; exact qA) | (apply s_not_f; rfl; exact qA) | (apply s_not; rfl))); (apply ol_val; rfl; apply stp_pur; first | (apply s_pick_t; rfl; exact qA; rfl) | (apply s_pick_f; rfl; exact qA; rfl)); (apply ol_mv; rfl; rfl); (first | (apply ol_gskip; rfl; rfl; exact qA; rfl) | (apply ol_gval; rfl; rfl; rfl; exact qA; apply stp_pur; apply s_fieldAddr'; rfl; exact fd_25_1; exact qZ)); (first | (apply ol_gskip; rfl; rfl; exact qA; rfl) | (apply ol_gval; rfl; rfl; rfl; exact qA; apply stp_pur; apply s_load1; rfl; rfl; exact qP)); (first | (apply ol_gskip; rfl; rfl; exact qA; rfl) | (apply ol_gval; rfl; rfl; rfl; exact qA; apply s_callv; rfl; exact gf_50; (intro w' hw'; exact k1 w'))); (first | (apply ol_gskip; rfl; rfl; exact qA; rfl) | (apply ol_gval; rfl; rfl; rfl; exact qA; apply stp_pur; first | (apply s_not_t; rfl; exact qA) | (apply s_not_f; rfl; exact qA) | (apply s_not; rfl))); (apply ol_val; rfl; apply stp_pur; first | (apply s_pick_t; rfl; exact qA; rfl) | (apply s_pick_f; rfl; exact qA; rfl)); (apply ol_nil))
      | (refine cw_region_id 2 ?_; (apply ol_as; rfl; rfl); (apply ol_nil))
      | (apply cw_cond_true; rfl; exact qA)
      | (apply cw_cond_false; rfl; exact qA)
      | apply cw_skip
      | apply cw_ret
      | apply cw_block
      | apply cw_exit
    all_goals (refine ends [] (RVal.tmp rfl RVal.nil) Pick.nil ?_; rfl)
  | true =>
    rw [h1] at k1
    cases h2 : inn bn 1 8 with
    | false =>
      rw [h2] at k2
      repeat' first
        | apply cw_seq
        | (refine cw_region_id 0 ?_; (apply ol_val; rfl; first | (apply s_boxN; rfl; intro bk1) | (apply s_box1; rfl; rfl; intro bk1)); (apply ol_as; rfl; rfl); (apply ol_nil))
        | (refine cw_region_id 1 ?_; (apply ol_fa; rfl; rfl; exact fd_25_0; exact qZ); (apply ol_ld; rfl; rfl; rfl; exact qP); (apply ol_val; rfl; apply s_callv; rfl; exact gf_50; (intro w' hw'; first | exact k1 w' | exact k2 w')); (apply ol_val; rfl; apply stp_pur; first | (apply s_not_t; rfl; exact qA) | (apply s_not_f; rfl; exact qA) | (apply s_not; rfl)); (apply ol_mv; rfl; rfl); (first | (apply ol_gskip; rfl; rfl; exact qA; rfl) | (apply ol_gval; rfl; rfl; rfl; exact qA; apply stp_pur; apply s_fieldAddr'; rfl; exact fd_25_3; exact qZ)); (first | (apply ol_gskip; rfl; rfl; exact qA; rfl) | (apply ol_gval; rfl; rfl; rfl; exact qA; apply stp_pur; apply s_load1; rfl; rfl; exact qP)); (first | (apply ol_gskip; rfl; rfl; exact qA; rfl) | (apply ol_gval; rfl; rfl; rfl; exact qA; apply s_callv; rfl; exact gf_50; (intro w' hw'; first | exact k1 w' | exact k2 w'))); (first | (apply ol_gskip; rfl; rfl; exact qA; rfl) | (apply ol_gval; rfl; rfl; rfl; exact qA; apply stp_pur; first | (apply s_not_t; rfl; exact qA) | (apply s_not_f; rfl; exact qA) | (apply s_not; rfl))); (apply ol_val; rfl; apply stp_pur; first | (apply s_pick_t; rfl; exact qA; rfl) | (apply s_pick_f; rfl; exact qA; rfl)); (apply ol_mv; rfl; rfl); (first | (apply ol_gskip; rfl; rfl; exact qA; rfl) | (apply ol_gval; rfl; rfl; rfl; exact qA; apply stp_pur; apply s_fieldAddr'; rfl; exact fd_25_2; exact qZ)); (first | (apply ol_gskip; rfl; rfl; exact qA; rfl) | (apply ol_gval; rfl; rfl; rfl; exact qA; apply stp_pur; apply s_load1; rfl; rfl; exact qP)); (first | (apply ol_gskip; rfl; rfl; exact qA; rfl) | (apply ol_gval; rfl; rfl; rfl; exact qA; apply stp_pur; apply s_fieldAddr'; rfl; exact fd_25_3; exact qZ)); (first | (apply ol_gskip; rfl; rfl; exact qA; rfl) | (apply ol_gval; rfl; rfl; rfl; exact qA; apply stp_pur; apply s_load1; rfl; rfl; exact qP)); (first | (apply ol_gskip; rfl; rfl; exact qA; rfl) | (apply ol_gval; rfl; rfl; rfl; exact qA; apply stp_pur; apply s_sub64; rfl; rfl; omega)); (first | (apply ol_gskip; rfl; rfl; exact qA; rfl) | (apply ol_gval; rfl; rfl; rfl; exact qA; apply s_callv; rfl; exact gf_50; (intro w' hw'; first | exact k1 w' | exact k2 w'))); (first | (apply ol_gskip; rfl; rfl; exact qA; rfl) | (apply ol_gval; rfl; rfl; rfl; exact qA; apply stp_pur; first | (apply s_not_t; rfl; exact qA) | (apply s_not_f; rfl; exact qA) | (apply s_not; rfl))); (apply ol_val; rfl; apply stp_pur; first | (apply s_pick_t; rfl; exact qA; rfl) | (apply s_pick_f; rfl; exact qA; rfl)); (apply ol_mv; rfl; rfl); (first | (apply ol_gskip; rfl; rfl; exact qA; rfl) | (apply ol_gval; rfl; rfl; rfl; exact qA; apply stp_pur; apply s_fieldAddr'; rfl; exact fd_25_3; exact qZ)); (first | (apply ol_gskip; rfl; rfl; exact qA; rfl) | (apply ol_gval; rfl; rfl; rfl; exact qA; apply stp_pur; apply s_load1; rfl; rfl; exact qP)); (first | (apply ol_gskip; rfl; rfl; exact qA; rfl) | (apply ol_gval; rfl; rfl; rfl; exact qA; apply stp_pur; apply s_fieldAddr'; rfl; exact fd_25_4; exact qZ)); (first | (apply ol_gskip; rfl; rfl; exact qA; rfl) | (apply ol_gval; rfl; rfl; rfl; exact qA; apply stp_pur; apply s_load1; rfl; rfl; exact qP)); (apply ol_gskip; rfl; rfl; exact qA; rfl); (first | (apply ol_gskip; rfl; rfl; exact qA; rfl) | (apply ol_gval; rfl; rfl; rfl; exact qA; apply stp_pur; first | (apply s_not_t; rfl; exact qA) | (apply s_not_f; rfl; exact qA) | (apply s_not; rfl))); (apply ol_val; rfl; apply stp_pur; first | (apply s_pick_t; rfl; exact qA; rfl) | (apply s_pick_f; rfl; exact qA; rfl)); (apply ol_mv; rfl; rfl); (first | (apply ol_gskip; rfl; rfl; exact qA; rfl) | (apply ol_gval; rfl; rfl; rfl; exact qA; apply stp_pur; apply s_fieldAddr'; rfl; exact fd_25_1; exact qZ)); (first | (apply ol_gskip; rfl; rfl; exact qA; rfl) | (apply ol_gval; rfl; rfl; rfl; exact qA; apply stp_pur; apply s_load1; rfl; rfl; exact qP)); (first | (apply ol_gskip; rfl; rfl; exact qA; rfl) | (apply ol_gval; rfl; rfl; rfl; exact qA; apply s_callv; rfl; exact gf_50; (intro w' hw'; first | exact k1 w' | exact k2 w'))); (first | (apply ol_gskip; rfl; rfl; exact qA; rfl) | (apply ol_gval; rfl; rfl; rfl; exact qA; apply stp_pur; first | (apply s_not_t; rfl; exact qA) | (apply s_not_f; rfl; exact qA) | (apply s_not; rfl))); (apply ol_val; rfl; apply stp_pur; first | (apply s_pick_t; rfl; exact qA; rfl) | (apply s_pick_f; rfl; exact qA; rfl)); (apply ol_nil))
        | (refine cw_region_id 2 ?_; (apply ol_as; rfl; rfl); (apply ol_nil))
        | (apply cw_cond_true; rfl; exact qA)
        | (apply cw_cond_false; rfl; exact qA)
        | apply cw_skip
        | apply cw_ret
        | apply cw_block
        | apply cw_exit
      all_goals (refine ends [] (RVal.tmp rfl RVal.nil) Pick.nil ?_; rfl)
    | true =>
      rw [h2] at k2
      rw [inn_iff] at h2
      cases h3 : inn bk 0 (bn - 1) with
      | false =>
        rw [h3] at k3
        repeat' first
          | apply cw_seq
          | (refine cw_region_id 0 ?_; (apply ol_val; rfl; first | (apply s_boxN; rfl; intro bk1) | (apply s_box1; rfl; rfl; intro bk1)); (apply ol_as; rfl; rfl); (apply ol_nil))
          | (refine cw_region_id 1 ?_; (apply ol_fa; rfl; rfl; exact fd_25_0; exact qZ); (apply ol_ld; rfl; rfl; rfl; exact qP); (apply ol_val; rfl; apply s_callv; rfl; exact gf_50; (intro w' hw'; first | exact k1 w' | exact k2 w' | exact k3 w')); (apply ol_val; rfl; apply stp_pur; first | (apply s_not_t; rfl; exact qA) | (apply s_not_f; rfl; exact qA) | (apply s_not; rfl)); (apply ol_mv; rfl; rfl); (first | (apply ol_gskip; rfl; rfl; exact qA; rfl) | (apply ol_gval; rfl; rfl; rfl; exact qA; apply stp_pur; apply s_fieldAddr'; rfl; exact fd_25_3; exact qZ)); (first | (apply ol_gskip; rfl; rfl; exact qA; rfl) | (apply ol_gval; rfl; rfl; rfl; exact qA; apply stp_pur; apply s_load1; rfl; rfl; exact qP)); (first | (apply ol_gskip; rfl; rfl; exact qA; rfl) | (apply ol_gval; rfl; rfl; rfl; exact qA; apply s_callv; rfl; exact gf_50; (intro w' hw'; first | exact k1 w' | exact k2 w' | exact k3 w'))); (first | (apply ol_gskip; rfl; rfl; exact qA; rfl) | (apply ol_gval; rfl; rfl; rfl; exact qA; apply stp_pur; first | (apply s_not_t; rfl; exact qA) | (apply s_not_f; rfl; exact qA) | (apply s_not; rfl))); (apply ol_val; rfl; apply stp_pur; first | (apply s_pick_t; rfl; exact qA; rfl) | (apply s_pick_f; rfl; exact qA; rfl)); (apply ol_mv; rfl; rfl); (first | (apply ol_gskip; rfl; rfl; exact qA; rfl) | (apply ol_gval; rfl; rfl; rfl; exact qA; apply stp_pur; apply s_fieldAddr'; rfl; exact fd_25_2; exact qZ)); (first | (apply ol_gskip; rfl; rfl; exact qA; rfl) | (apply ol_gval; rfl; rfl; rfl; exact qA; apply stp_pur; apply s_load1; rfl; rfl; exact qP)); (first | (apply ol_gskip; rfl; rfl; exact qA; rfl) | (apply ol_gval; rfl; rfl; rfl; exact qA; apply stp_pur; apply s_fieldAddr'; rfl; exact fd_25_3; exact qZ)); (first | (apply ol_gskip; rfl; rfl; exact qA; rfl) | (apply ol_gval; rfl; rfl; rfl; exact qA; apply stp_pur; apply s_load1; rfl; rfl; exact qP)); (first | (apply ol_gskip; rfl; rfl; exact qA; rfl) | (apply ol_gval; rfl; rfl; rfl; exact qA; apply stp_pur; apply s_sub64; rfl; rfl; omega)); (first | (apply ol_gskip; rfl; rfl; exact qA; rfl) | (apply ol_gval; rfl; rfl; rfl; exact qA; apply s_callv; rfl; exact gf_50; (intro w' hw'; first | exact k1 w' | exact k2 w' | exact k3 w'))); (first | (apply ol_gskip; rfl; rfl; exact qA; rfl) | (apply ol_gval; rfl; rfl; rfl; exact qA; apply stp_pur; first | (apply s_not_t; rfl; exact qA) | (apply s_not_f; rfl; exact qA) | (apply s_not; rfl))); (apply ol_val; rfl; apply stp_pur; first | (apply s_pick_t; rfl; exact qA; rfl) | (apply s_pick_f; rfl; exact qA; rfl)); (apply ol_mv; rfl; rfl); (first | (apply ol_gskip; rfl; rfl; exact qA; rfl) | (apply ol_gval; rfl; rfl; rfl; exact qA; apply stp_pur; apply s_fieldAddr'; rfl; exact fd_25_3; exact qZ)); (first | (apply ol_gskip; rfl; rfl; exact qA; rfl) | (apply ol_gval; rfl; rfl; rfl; exact qA; apply stp_pur; apply s_load1; rfl; rfl; exact qP)); (first | (apply ol_gskip; rfl; rfl; exact qA; rfl) | (apply ol_gval; rfl; rfl; rfl; exact qA; apply stp_pur; apply s_fieldAddr'; rfl; exact fd_25_4; exact qZ)); (first | (apply ol_gskip; rfl; rfl; exact qA; rfl) | (apply ol_gval; rfl; rfl; rfl; exact qA; apply stp_pur; apply s_load1; rfl; rfl; exact qP)); (first | (apply ol_gskip; rfl; rfl; exact qA; rfl) | (apply ol_gval; rfl; rfl; rfl; exact qA; fail)); all_goals (first | (apply ol_gskip; rfl; rfl; exact qA; rfl) | (apply ol_gval; rfl; rfl; rfl; exact qA; apply stp_pur; first | (apply s_not_t; rfl; exact qA) | (apply s_not_f; rfl; exact qA) | (apply s_not; rfl))); all_goals (apply ol_val; rfl; apply stp_pur; first | (apply s_pick_t; rfl; exact qA; rfl) | (apply s_pick_f; rfl; exact qA; rfl)); all_goals (apply ol_mv; rfl; rfl); all_goals (first | (apply ol_gskip; rfl; rfl; exact qA; rfl) | (apply ol_gval; rfl; rfl; rfl; exact qA; apply stp_pur; apply s_fieldAddr'; rfl; exact fd_25_1; exact qZ)); all_goals (first | (apply ol_gskip; rfl; rfl; exact qA; rfl) | (apply ol_gval; rfl; rfl; rfl; exact qA; apply stp_pur; apply s_load1; rfl; rfl; exact qP)); all_goals (first | (apply ol_gskip; rfl; rfl; exact qA; rfl) | (apply ol_gval; rfl; rfl; rfl; exact qA; apply s_callv; rfl; exact gf_50; (intro w' hw'; first | exact k1 w' | exact k2 w' | exact k3 w'))); all_goals (first | (apply ol_gskip; rfl; rfl; exact qA; rfl) | (apply ol_gval; rfl; rfl; rfl; exact qA; apply stp_pur; first | (apply s_not_t; rfl; exact qA) | (apply s_not_f; rfl; exact qA) | (apply s_not; rfl))); all_goals (apply ol_val; rfl; apply stp_pur; first | (apply s_pick_t; rfl; exact qA; rfl) | (apply s_pick_f; rfl; exact qA; rfl)); all_goals (apply ol_nil))
          | (refine cw_region_id 2 ?_; (apply ol_as; rfl; rfl); (apply ol_nil))
          | (apply cw_cond_true; rfl; exact qA)
          | (apply cw_cond_false; rfl; exact qA)
          | apply cw_skip
          | apply cw_ret
          | apply cw_block
          | apply cw_exit
        all_goals (refine ends [] (RVal.tmp rfl RVal.nil) Pick.nil ?_; rfl)
      | true =>
        rw [h3] at k3
        have kt := fun (w' : World) (h : View.le M (View.of w')) => validTr_spec h h2 rfl l1 (c := tc) s1
        cases h4 : trB bn tr with
        | false =>
          rw [h4] at kt
          repeat' first
            | apply cw_seq
            | (refine cw_region_id 0 ?_; (apply ol_val; rfl; first | (apply s_boxN; rfl; intro bk1) | (apply s_box1; rfl; rfl; intro bk1)); (apply ol_as; rfl; rfl); (apply ol_nil))
            | (refine cw_region_id 1 ?_; (apply ol_fa; rfl; rfl; exact fd_25_0; exact qZ); (apply ol_ld; rfl; rfl; rfl; exact qP); (apply ol_val; rfl; apply s_callv; rfl; exact gf_50; (intro w' hw'; first | exact k1 w' | exact k2 w' | exact k3 w')); (apply ol_val; rfl; apply stp_pur; first | (apply s_not_t; rfl; exact qA) | (apply s_not_f; rfl; exact qA) | (apply s_not; rfl)); (apply ol_mv; rfl; rfl); (first | (apply ol_gskip; rfl; rfl; exact qA; rfl) | (apply ol_gval; rfl; rfl; rfl; exact qA; apply stp_pur; apply s_fieldAddr'; rfl; exact fd_25_3; exact qZ)); (first | (apply ol_gskip; rfl; rfl; exact qA; rfl) | (apply ol_gval; rfl; rfl; rfl; exact qA; apply stp_pur; apply s_load1; rfl; rfl; exact qP)); (first | (apply ol_gskip; rfl; rfl; exact qA; rfl) | (apply ol_gval; rfl; rfl; rfl; exact qA; apply s_callv; rfl; exact gf_50; (intro w' hw'; first | exact k1 w' | exact k2 w' | exact k3 w'))); (first | (apply ol_gskip; rfl; rfl; exact qA; rfl) | (apply ol_gval; rfl; rfl; rfl; exact qA; apply stp_pur; first | (apply s_not_t; rfl; exact qA) | (apply s_not_f; rfl; exact qA) | (apply s_not; rfl))); (apply ol_val; rfl; apply stp_pur; first | (apply s_pick_t; rfl; exact qA; rfl) | (apply s_pick_f; rfl; exact qA; rfl)); (apply ol_mv; rfl; rfl); (first | (apply ol_gskip; rfl; rfl; exact qA; rfl) | (apply ol_gval; rfl; rfl; rfl; exact qA; apply stp_pur; apply s_fieldAddr'; rfl; exact fd_25_2; exact qZ)); (first | (apply ol_gskip; rfl; rfl; exact qA; rfl) | (apply ol_gval; rfl; rfl; rfl; exact qA; apply stp_pur; apply s_load1; rfl; rfl; exact qP)); (first | (apply ol_gskip; rfl; rfl; exact qA; rfl) | (apply ol_gval; rfl; rfl; rfl; exact qA; apply stp_pur; apply s_fieldAddr'; rfl; exact fd_25_3; exact qZ)); (first | (apply ol_gskip; rfl; rfl; exact qA; rfl) | (apply ol_gval; rfl; rfl; rfl; exact qA; apply stp_pur; apply s_load1; rfl; rfl; exact qP)); (first | (apply ol_gskip; rfl; rfl; exact qA; rfl) | (apply ol_gval; rfl; rfl; rfl; exact qA; apply stp_pur; apply s_sub64; rfl; rfl; omega)); (first | (apply ol_gskip; rfl; rfl; exact qA; rfl) | (apply ol_gval; rfl; rfl; rfl; exact qA; apply s_callv; rfl; exact gf_50; (intro w' hw'; first | exact k1 w' | exact k2 w' | exact k3 w'))); (first | (apply ol_gskip; rfl; rfl; exact qA; rfl) | (apply ol_gval; rfl; rfl; rfl; exact qA; apply stp_pur; first | (apply s_not_t; rfl; exact qA) | (apply s_not_f; rfl; exact qA) | (apply s_not; rfl))); (apply ol_val; rfl; apply stp_pur; first | (apply s_pick_t; rfl; exact qA; rfl) | (apply s_pick_f; rfl; exact qA; rfl)); (apply ol_mv; rfl; rfl); (first | (apply ol_gskip; rfl; rfl; exact qA; rfl) | (apply ol_gval; rfl; rfl; rfl; exact qA; apply stp_pur; apply s_fieldAddr'; rfl; exact fd_25_3; exact qZ)); (first | (apply ol_gskip; rfl; rfl; exact qA; rfl) | (apply ol_gval; rfl; rfl; rfl; exact qA; apply stp_pur; apply s_load1; rfl; rfl; exact qP)); (first | (apply ol_gskip; rfl; rfl; exact qA; rfl) | (apply ol_gval; rfl; rfl; rfl; exact qA; apply stp_pur; apply s_fieldAddr'; rfl; exact fd_25_4; exact qZ)); (first | (apply ol_gskip; rfl; rfl; exact qA; rfl) | (apply ol_gval; rfl; rfl; rfl; exact qA; apply stp_pur; apply s_load1; rfl; rfl; exact qP)); (first | (apply ol_gskip; rfl; rfl; exact qA; rfl) | (apply ol_gval; rfl; rfl; rfl; exact qA; apply s_callv; rfl; exact gf_51; (intro w' hw'; exact kt w' hw'.le))); (first | (apply ol_gskip; rfl; rfl; exact qA; rfl) | (apply ol_gval; rfl; rfl; rfl; exact qA; apply stp_pur; first | (apply s_not_t; rfl; exact qA) | (apply s_not_f; rfl; exact qA) | (apply s_not; rfl))); (apply ol_val; rfl; apply stp_pur; first | (apply s_pick_t; rfl; exact qA; rfl) | (apply s_pick_f; rfl; exact qA; rfl)); (apply ol_mv; rfl; rfl); (first | (apply ol_gskip; rfl; rfl; exact qA; rfl) | (apply ol_gval; rfl; rfl; rfl; exact qA; apply stp_pur; apply s_fieldAddr'; rfl; exact fd_25_1; exact qZ)); (first | (apply ol_gskip; rfl; rfl; exact qA; rfl) | (apply ol_gval; rfl; rfl; rfl; exact qA; apply stp_pur; apply s_load1; rfl; rfl; exact qP)); (first | (apply ol_gskip; rfl; rfl; exact qA; rfl) | (apply ol_gval; rfl; rfl; rfl; exact qA; apply s_callv; rfl; exact gf_50; (intro w' hw'; first | exact k1 w' | exact k2 w' | exact k3 w'))); (first | (apply ol_gskip; rfl; rfl; exact qA; rfl) | (apply ol_gval; rfl; rfl; rfl; exact qA; apply stp_pur; first | (apply s_not_t; rfl; exact qA) | (apply s_not_f; rfl; exact qA) | (apply s_not; rfl))); (apply ol_val; rfl; apply stp_pur; first | (apply s_pick_t; rfl; exact qA; rfl) | (apply s_pick_f; rfl; exact qA; rfl)); (apply ol_nil))
            | (refine cw_region_id 2 ?_; (apply ol_as; rfl; rfl); (apply ol_nil))
            | (apply cw_cond_true; rfl; exact qA)
            | (apply cw_cond_false; rfl; exact qA)
            | apply cw_skip
            | apply cw_ret
            | apply cw_block
            | apply cw_exit
          all_goals (refine ends [] (RVal.tmp rfl RVal.nil) Pick.nil ?_; rfl)
        | true =>
          rw [h4] at kt
          cases h5 : inn ph 0 5 with
          | false =>
            rw [h5] at k5
            repeat' first
              | apply cw_seq
              | (refine cw_region_id 0 ?_; (apply ol_val; rfl; first | (apply s_boxN; rfl; intro bk1) | (apply s_box1; rfl; rfl; intro bk1)); (apply ol_as; rfl; rfl); (apply ol_nil))
              | (refine cw_region_id 1 ?_; (apply ol_fa; rfl; rfl; exact fd_25_0; exact qZ); (apply ol_ld; rfl; rfl; rfl; exact qP); (apply ol_val; rfl; apply s_callv; rfl; exact gf_50; (intro w' hw'; first | exact k1 w' | exact k2 w' | exact k3 w' | exact k5 w')); (apply ol_val; rfl; apply stp_pur; first | (apply s_not_t; rfl; exact qA) | (apply s_not_f; rfl; exact qA) | (apply s_not; rfl)); (apply ol_mv; rfl; rfl); (first | (apply ol_gskip; rfl; rfl; exact qA; rfl) | (apply ol_gval; rfl; rfl; rfl; exact qA; apply stp_pur; apply s_fieldAddr'; rfl; exact fd_25_3; exact qZ)); (first | (apply ol_gskip; rfl; rfl; exact qA; rfl) | (apply ol_gval; rfl; rfl; rfl; exact qA; apply stp_pur; apply s_load1; rfl; rfl; exact qP)); (first | (apply ol_gskip; rfl; rfl; exact qA; rfl) | (apply ol_gval; rfl; rfl; rfl; exact qA; apply s_callv; rfl; exact gf_50; (intro w' hw'; first | exact k1 w' | exact k2 w' | exact k3 w' | exact k5 w'))); (first | (apply ol_gskip; rfl; rfl; exact qA; rfl) | (apply ol_gval; rfl; rfl; rfl; exact qA; apply stp_pur; first | (apply s_not_t; rfl; exact qA) | (apply s_not_f; rfl; exact qA) | (apply s_not; rfl))); (apply ol_val; rfl; apply stp_pur; first | (apply s_pick_t; rfl; exact qA; rfl) | (apply s_pick_f; rfl; exact qA; rfl)); (apply ol_mv; rfl; rfl); (first | (apply ol_gskip; rfl; rfl; exact qA; rfl) | (apply ol_gval; rfl; rfl; rfl; exact qA; apply stp_pur; apply s_fieldAddr'; rfl; exact fd_25_2; exact qZ)); (first | (apply ol_gskip; rfl; rfl; exact qA; rfl) | (apply ol_gval; rfl; rfl; rfl; exact qA; apply stp_pur; apply s_load1; rfl; rfl; exact qP)); (first | (apply ol_gskip; rfl; rfl; exact qA; rfl) | (apply ol_gval; rfl; rfl; rfl; exact qA; apply stp_pur; apply s_fieldAddr'; rfl; exact fd_25_3; exact qZ)); (first | (apply ol_gskip; rfl; rfl; exact qA; rfl) | (apply ol_gval; rfl; rfl; rfl; exact qA; apply stp_pur; apply s_load1; rfl; rfl; exact qP)); (first | (apply ol_gskip; rfl; rfl; exact qA; rfl) | (apply ol_gval; rfl; rfl; rfl; exact qA; apply stp_pur; apply s_sub64; rfl; rfl; omega)); (first | (apply ol_gskip; rfl; rfl; exact qA; rfl) | (apply ol_gval; rfl; rfl; rfl; exact qA; apply s_callv; rfl; exact gf_50; (intro w' hw'; first | exact k1 w' | exact k2 w' | exact k3 w' | exact k5 w'))); (first | (apply ol_gskip; rfl; rfl; exact qA; rfl) | (apply ol_gval; rfl; rfl; rfl; exact qA; apply stp_pur; first | (apply s_not_t; rfl; exact qA) | (apply s_not_f; rfl; exact qA) | (apply s_not; rfl))); (apply ol_val; rfl; apply stp_pur; first | (apply s_pick_t; rfl; exact qA; rfl) | (apply s_pick_f; rfl; exact qA; rfl)); (apply ol_mv; rfl; rfl); (first | (apply ol_gskip; rfl; rfl; exact qA; rfl) | (apply ol_gval; rfl; rfl; rfl; exact qA; apply stp_pur; apply s_fieldAddr'; rfl; exact fd_25_3; exact qZ)); (first | (apply ol_gskip; rfl; rfl; exact qA; rfl) | (apply ol_gval; rfl; rfl; rfl; exact qA; apply stp_pur; apply s_load1; rfl; rfl; exact qP)); (first | (apply ol_gskip; rfl; rfl; exact qA; rfl) | (apply ol_gval; rfl; rfl; rfl; exact qA; apply stp_pur; apply s_fieldAddr'; rfl; exact fd_25_4; exact qZ)); (first | (apply ol_gskip; rfl; rfl; exact qA; rfl) | (apply ol_gval; rfl; rfl; rfl; exact qA; apply stp_pur; apply s_load1; rfl; rfl; exact qP)); (first | (apply ol_gskip; rfl; rfl; exact qA; rfl) | (apply ol_gval; rfl; rfl; rfl; exact qA; apply s_callv; rfl; exact gf_51; (intro w' hw'; exact kt w' hw'.le))); (first | (apply ol_gskip; rfl; rfl; exact qA; rfl) | (apply ol_gval; rfl; rfl; rfl; exact qA; apply stp_pur; first | (apply s_not_t; rfl; exact qA) | (apply s_not_f; rfl; exact qA) | (apply s_not; rfl))); (apply ol_val; rfl; apply stp_pur; first | (apply s_pick_t; rfl; exact qA; rfl) | (apply s_pick_f; rfl; exact qA; rfl)); (apply ol_mv; rfl; rfl); (first | (apply ol_gskip; rfl; rfl; exact qA; rfl) | (apply ol_gval; rfl; rfl; rfl; exact qA; apply stp_pur; apply s_fieldAddr'; rfl; exact fd_25_1; exact qZ)); (first | (apply ol_gskip; rfl; rfl; exact qA; rfl) | (apply ol_gval; rfl; rfl; rfl; exact qA; apply stp_pur; apply s_load1; rfl; rfl; exact qP)); (first | (apply ol_gskip; rfl; rfl; exact qA; rfl) | (apply ol_gval; rfl; rfl; rfl; exact qA; apply s_callv; rfl; exact gf_50; (intro w' hw'; first | exact k1 w' | exact k2 w' | exact k3 w' | exact k5 w'))); (first | (apply ol_gskip; rfl; rfl; exact qA; rfl) | (apply ol_gval; rfl; rfl; rfl; exact qA; apply stp_pur; first | (apply s_not_t; rfl; exact qA) | (apply s_not_f; rfl; exact qA) | (apply s_not; rfl))); (apply ol_val; rfl; apply stp_pur; first | (apply s_pick_t; rfl; exact qA; rfl) | (apply s_pick_f; rfl; exact qA; rfl)); (apply ol_nil))
              | (refine cw_region_id 2 ?_; (apply ol_as; rfl; rfl); (apply ol_nil))
              | (apply cw_cond_true; rfl; exact qA)
              | (apply cw_cond_false; rfl; exact qA)
              | apply cw_skip
              | apply cw_ret
              | apply cw_block
              | apply cw_exit
            all_goals (refine ends [] (RVal.tmp rfl RVal.nil) Pick.nil ?_; rfl)
          | true =>
            rw [h5] at k5
            simp only [Bool.true_and]
            by_cases h6 : bk = 0
            · rw [if_pos h6]
              have kvo := kvo h2.1
              generalize voB ph bn vo = z at *
              repeat' first
                | apply cw_seq
                | (refine cw_region_id 0 ?_; (apply ol_val; rfl; first | (apply s_boxN; rfl; intro bk1) | (apply s_box1; rfl; rfl; intro bk1)); (apply ol_as; rfl; rfl); (apply ol_nil))
                | (refine cw_region_id 1 ?_; (apply ol_fa; rfl; rfl; exact fd_25_0; exact qZ); (apply ol_ld; rfl; rfl; rfl; exact qP); (apply ol_val; rfl; apply s_callv; rfl; exact gf_50; (intro w' hw'; first | exact k1 w' | exact k2 w' | exact k3 w' | exact k5 w')); (apply ol_val; rfl; apply stp_pur; first | (apply s_not_t; rfl; exact qA) | (apply s_not_f; rfl; exact qA) | (apply s_not; rfl)); (apply ol_mv; rfl; rfl); (first | (apply ol_gskip; rfl; rfl; exact qA; rfl) | (apply ol_gval; rfl; rfl; rfl; exact qA; apply stp_pur; apply s_fieldAddr'; rfl; exact fd_25_3; exact qZ)); (first | (apply ol_gskip; rfl; rfl; exact qA; rfl) | (apply ol_gval; rfl; rfl; rfl; exact qA; apply stp_pur; apply s_load1; rfl; rfl; exact qP)); (first | (apply ol_gskip; rfl; rfl; exact qA; rfl) | (apply ol_gval; rfl; rfl; rfl; exact qA; apply s_callv; rfl; exact gf_50; (intro w' hw'; first | exact k1 w' | exact k2 w' | exact k3 w' | exact k5 w'))); (first | (apply ol_gskip; rfl; rfl; exact qA; rfl) | (apply ol_gval; rfl; rfl; rfl; exact qA; apply stp_pur; first | (apply s_not_t; rfl; exact qA) | (apply s_not_f; rfl; exact qA) | (apply s_not; rfl))); (apply ol_val; rfl; apply stp_pur; first | (apply s_pick_t; rfl; exact qA; rfl) | (apply s_pick_f; rfl; exact qA; rfl)); (apply ol_mv; rfl; rfl); (first | (apply ol_gskip; rfl; rfl; exact qA; rfl) | (apply ol_gval; rfl; rfl; rfl; exact qA; apply stp_pur; apply s_fieldAddr'; rfl; exact fd_25_2; exact qZ)); (first | (apply ol_gskip; rfl; rfl; exact qA; rfl) | (apply ol_gval; rfl; rfl; rfl; exact qA; apply stp_pur; apply s_load1; rfl; rfl; exact qP)); (first | (apply ol_gskip; rfl; rfl; exact qA; rfl) | (apply ol_gval; rfl; rfl; rfl; exact qA; apply stp_pur; apply s_fieldAddr'; rfl; exact fd_25_3; exact qZ)); (first | (apply ol_gskip; rfl; rfl; exact qA; rfl) | (apply ol_gval; rfl; rfl; rfl; exact qA; apply stp_pur; apply s_load1; rfl; rfl; exact qP)); (first | (apply ol_gskip; rfl; rfl; exact qA; rfl) | (apply ol_gval; rfl; rfl; rfl; exact qA; apply stp_pur; apply s_sub64; rfl; rfl; omega)); (first | (apply ol_gskip; rfl; rfl; exact qA; rfl) | (apply ol_gval; rfl; rfl; rfl; exact qA; apply s_callv; rfl; exact gf_50; (intro w' hw'; first | exact k1 w' | exact k2 w' | exact k3 w' | exact k5 w'))); (first | (apply ol_gskip; rfl; rfl; exact qA; rfl) | (apply ol_gval; rfl; rfl; rfl; exact qA; apply stp_pur; first | (apply s_not_t; rfl; exact qA) | (apply s_not_f; rfl; exact qA) | (apply s_not; rfl))); (apply ol_val; rfl; apply stp_pur; first | (apply s_pick_t; rfl; exact qA; rfl) | (apply s_pick_f; rfl; exact qA; rfl)); (apply ol_mv; rfl; rfl); (first | (apply ol_gskip; rfl; rfl; exact qA; rfl) | (apply ol_gval; rfl; rfl; rfl; exact qA; apply stp_pur; apply s_fieldAddr'; rfl; exact fd_25_3; exact qZ)); (first | (apply ol_gskip; rfl; rfl; exact qA; rfl) | (apply ol_gval; rfl; rfl; rfl; exact qA; apply stp_pur; apply s_load1; rfl; rfl; exact qP)); (first | (apply ol_gskip; rfl; rfl; exact qA; rfl) | (apply ol_gval; rfl; rfl; rfl; exact qA; apply stp_pur; apply s_fieldAddr'; rfl; exact fd_25_4; exact qZ)); (first | (apply ol_gskip; rfl; rfl; exact qA; rfl) | (apply ol_gval; rfl; rfl; rfl; exact qA; apply stp_pur; apply s_load1; rfl; rfl; exact qP)); (first | (apply ol_gskip; rfl; rfl; exact qA; rfl) | (apply ol_gval; rfl; rfl; rfl; exact qA; apply s_callv; rfl; exact gf_51; (intro w' hw'; exact kt w' hw'.le))); (first | (apply ol_gskip; rfl; rfl; exact qA; rfl) | (apply ol_gval; rfl; rfl; rfl; exact qA; apply stp_pur; first | (apply s_not_t; rfl; exact qA) | (apply s_not_f; rfl; exact qA) | (apply s_not; rfl))); (apply ol_val; rfl; apply stp_pur; first | (apply s_pick_t; rfl; exact qA; rfl) | (apply s_pick_f; rfl; exact qA; rfl)); (apply ol_mv; rfl; rfl); (first | (apply ol_gskip; rfl; rfl; exact qA; rfl) | (apply ol_gval; rfl; rfl; rfl; exact qA; apply stp_pur; apply s_fieldAddr'; rfl; exact fd_25_1; exact qZ)); (first | (apply ol_gskip; rfl; rfl; exact qA; rfl) | (apply ol_gval; rfl; rfl; rfl; exact qA; apply stp_pur; apply s_load1; rfl; rfl; exact qP)); (first | (apply ol_gskip; rfl; rfl; exact qA; rfl) | (apply ol_gval; rfl; rfl; rfl; exact qA; apply s_callv; rfl; exact gf_50; (intro w' hw'; first | exact k1 w' | exact k2 w' | exact k3 w' | exact k5 w'))); (first | (apply ol_gskip; rfl; rfl; exact qA; rfl) | (apply ol_gval; rfl; rfl; rfl; exact qA; apply stp_pur; first | (apply s_not_t; rfl; exact qA) | (apply s_not_f; rfl; exact qA) | (apply s_not; rfl))); (apply ol_val; rfl; apply stp_pur; first | (apply s_pick_t; rfl; exact qA; rfl) | (apply s_pick_f; rfl; exact qA; rfl)); (apply ol_nil))
                | (refine cw_region_id 3 ?_; (apply ol_fa; rfl; rfl; exact fd_25_2; exact qZ); (apply ol_ld; rfl; rfl; rfl; exact qP); (apply ol_val; rfl; apply stp_cmp; apply s_eql; rfl; rfl; all_goals (intro hc38; try (exfalso; (first | exact hc38 rfl | omega)))); all_goals (apply ol_nil))
                | (refine cw_region_id 4 ?_; (apply ol_ldN; rfl; rfl; rfl; exact sz_25; exact qQ); (apply ol_val; rfl; apply s_callv; rfl; exact gf_52; (intro w' hw'; exact kvo w' hw'.le)); (apply ol_as; rfl; rfl); (apply ol_nil))
                | (apply cw_cond_true; rfl; exact qA)
                | (apply cw_cond_false; rfl; exact qA)
                | apply cw_skip
                | apply cw_ret
                | apply cw_block
                | apply cw_exit
              all_goals (refine ends [] (RVal.tmp rfl RVal.nil) Pick.nil ?_; rfl)
            · rw [if_neg h6]
              by_cases h7 : vo.length = 0 ∧ ph ≠ 2 ∧ ph ≠ 3
              · rw [decide_eq_true h7]
                repeat' first
                  | apply cw_seq
                  | (refine cw_region_id 0 ?_; (apply ol_val; rfl; first | (apply s_boxN; rfl; intro bk1) | (apply s_box1; rfl; rfl; intro bk1)); (apply ol_as; rfl; rfl); (apply ol_nil))
                  | (refine cw_region_id 1 ?_; (apply ol_fa; rfl; rfl; exact fd_25_0; exact qZ); (apply ol_ld; rfl; rfl; rfl; exact qP); (apply ol_val; rfl; apply s_callv; rfl; exact gf_50; (intro w' hw'; first | exact k1 w' | exact k2 w' | exact k3 w' | exact k5 w')); (apply ol_val; rfl; apply stp_pur; first | (apply s_not_t; rfl; exact qA) | (apply s_not_f; rfl; exact qA) | (apply s_not; rfl)); (apply ol_mv; rfl; rfl); (first | (apply ol_gskip; rfl; rfl; exact qA; rfl) | (apply ol_gval; rfl; rfl; rfl; exact qA; apply stp_pur; apply s_fieldAddr'; rfl; exact fd_25_3; exact qZ)); (first | (apply ol_gskip; rfl; rfl; exact qA; rfl) | (apply ol_gval; rfl; rfl; rfl; exact qA; apply stp_pur; apply s_load1; rfl; rfl; exact qP)); (first | (apply ol_gskip; rfl; rfl; exact qA; rfl) | (apply ol_gval; rfl; rfl; rfl; exact qA; apply s_callv; rfl; exact gf_50; (intro w' hw'; first | exact k1 w' | exact k2 w' | exact k3 w' | exact k5 w'))); (first | (apply ol_gskip; rfl; rfl; exact qA; rfl) | (apply ol_gval; rfl; rfl; rfl; exact qA; apply stp_pur; first | (apply s_not_t; rfl; exact qA) | (apply s_not_f; rfl; exact qA) | (apply s_not; rfl))); (apply ol_val; rfl; apply stp_pur; first | (apply s_pick_t; rfl; exact qA; rfl) | (apply s_pick_f; rfl; exact qA; rfl)); (apply ol_mv; rfl; rfl); (first | (apply ol_gskip; rfl; rfl; exact qA; rfl) | (apply ol_gval; rfl; rfl; rfl; exact qA; apply stp_pur; apply s_fieldAddr'; rfl; exact fd_25_2; exact qZ)); (first | (apply ol_gskip; rfl; rfl; exact qA; rfl) | (apply ol_gval; rfl; rfl; rfl; exact qA; apply stp_pur; apply s_load1; rfl; rfl; exact qP)); (first | (apply ol_gskip; rfl; rfl; exact qA; rfl) | (apply ol_gval; rfl; rfl; rfl; exact qA; apply stp_pur; apply s_fieldAddr'; rfl; exact fd_25_3; exact qZ)); (first | (apply ol_gskip; rfl; rfl; exact qA; rfl) | (apply ol_gval; rfl; rfl; rfl; exact qA; apply stp_pur; apply s_load1; rfl; rfl; exact qP)); (first | (apply ol_gskip; rfl; rfl; exact qA; rfl) | (apply ol_gval; rfl; rfl; rfl; exact qA; apply stp_pur; apply s_sub64; rfl; rfl; omega)); (first | (apply ol_gskip; rfl; rfl; exact qA; rfl) | (apply ol_gval; rfl; rfl; rfl; exact qA; apply s_callv; rfl; exact gf_50; (intro w' hw'; first | exact k1 w' | exact k2 w' | exact k3 w' | exact k5 w'))); (first | (apply ol_gskip; rfl; rfl; exact qA; rfl) | (apply ol_gval; rfl; rfl; rfl; exact qA; apply stp_pur; first | (apply s_not_t; rfl; exact qA) | (apply s_not_f; rfl; exact qA) | (apply s_not; rfl))); (apply ol_val; rfl; apply stp_pur; first | (apply s_pick_t; rfl; exact qA; rfl) | (apply s_pick_f; rfl; exact qA; rfl)); (apply ol_mv; rfl; rfl); (first | (apply ol_gskip; rfl; rfl; exact qA; rfl) | (apply ol_gval; rfl; rfl; rfl; exact qA; apply stp_pur; apply s_fieldAddr'; rfl; exact fd_25_3; exact qZ)); (first | (apply ol_gskip; rfl; rfl; exact qA; rfl) | (apply ol_gval; rfl; rfl; rfl; exact qA; apply stp_pur; apply s_load1; rfl; rfl; exact qP)); (first | (apply ol_gskip; rfl; rfl; exact qA; rfl) | (apply ol_gval; rfl; rfl; rfl; exact qA; apply stp_pur; apply s_fieldAddr'; rfl; exact fd_25_4; exact qZ)); (first | (apply ol_gskip; rfl; rfl; exact qA; rfl) | (apply ol_gval; rfl; rfl; rfl; exact qA; apply stp_pur; apply s_load1; rfl; rfl; exact qP)); (first | (apply ol_gskip; rfl; rfl; exact qA; rfl) | (apply ol_gval; rfl; rfl; rfl; exact qA; apply s_callv; rfl; exact gf_51; (intro w' hw'; exact kt w' hw'.le))); (first | (apply ol_gskip; rfl; rfl; exact qA; rfl) | (apply ol_gval; rfl; rfl; rfl; exact qA; apply stp_pur; first | (apply s_not_t; rfl; exact qA) | (apply s_not_f; rfl; exact qA) | (apply s_not; rfl))); (apply ol_val; rfl; apply stp_pur; first | (apply s_pick_t; rfl; exact qA; rfl) | (apply s_pick_f; rfl; exact qA; rfl)); (apply ol_mv; rfl; rfl); (first | (apply ol_gskip; rfl; rfl; exact qA; rfl) | (apply ol_gval; rfl; rfl; rfl; exact qA; apply stp_pur; apply s_fieldAddr'; rfl; exact fd_25_1; exact qZ)); (first | (apply ol_gskip; rfl; rfl; exact qA; rfl) | (apply ol_gval; rfl; rfl; rfl; exact qA; apply stp_pur; apply s_load1; rfl; rfl; exact qP)); (first | (apply ol_gskip; rfl; rfl; exact qA; rfl) | (apply ol_gval; rfl; rfl; rfl; exact qA; apply s_callv; rfl; exact gf_50; (intro w' hw'; first | exact k1 w' | exact k2 w' | exact k3 w' | exact k5 w'))); (first | (apply ol_gskip; rfl; rfl; exact qA; rfl) | (apply ol_gval; rfl; rfl; rfl; exact qA; apply stp_pur; first | (apply s_not_t; rfl; exact qA) | (apply s_not_f; rfl; exact qA) | (apply s_not; rfl))); (apply ol_val; rfl; apply stp_pur; first | (apply s_pick_t; rfl; exact qA; rfl) | (apply s_pick_f; rfl; exact qA; rfl)); (apply ol_nil))
                  | (refine cw_region_id 3 ?_; (apply ol_fa; rfl; rfl; exact fd_25_2; exact qZ); (apply ol_ld; rfl; rfl; rfl; exact qP); (apply ol_val; rfl; apply stp_cmp; apply s_eql; rfl; rfl; all_goals (intro hc38; try (exfalso; (first | exact hc38 rfl | omega)))); all_goals (apply ol_nil))
                  | (refine cw_region_id 5 ?_; (apply ol_fa; rfl; rfl; exact fd_25_5; exact qZ); (apply ol_ld; rfl; rfl; rfl; exact qP); (apply ol_val; rfl; apply stp_pur; apply s_len; rfl; exact el_23); (apply ol_val; rfl; apply stp_cmp; apply s_eql; rfl; rfl; all_goals (intro hc44; try (exfalso; (first | exact hc44 rfl | omega)))); all_goals (apply ol_mv; rfl; rfl); all_goals (first | (apply ol_gskip; rfl; rfl; exact qA; rfl) | (apply ol_gval; rfl; rfl; rfl; exact qA; apply stp_pur; apply s_fieldAddr'; rfl; exact fd_25_1; exact qZ)); all_goals (first | (apply ol_gskip; rfl; rfl; exact qA; rfl) | (apply ol_gval; rfl; rfl; rfl; exact qA; apply stp_pur; apply s_load1; rfl; rfl; exact qP)); all_goals (first | (apply ol_gskip; rfl; rfl; exact qA; rfl) | (apply ol_gval; rfl; rfl; rfl; exact qA; apply stp_cmp; apply s_neq; rfl; rfl; all_goals (intro hc48; try (exfalso; (first | exact hc48 rfl | omega))))); all_goals (apply ol_val; rfl; apply stp_pur; first | (apply s_pick_t; rfl; exact qA; rfl) | (apply s_pick_f; rfl; exact qA; rfl)); all_goals (apply ol_mv; rfl; rfl); all_goals (first | (apply ol_gskip; rfl; rfl; exact qA; rfl) | (apply ol_gval; rfl; rfl; rfl; exact qA; apply stp_pur; apply s_fieldAddr'; rfl; exact fd_25_1; exact qZ)); all_goals (first | (apply ol_gskip; rfl; rfl; exact qA; rfl) | (apply ol_gval; rfl; rfl; rfl; exact qA; apply stp_pur; apply s_load1; rfl; rfl; exact qP)); all_goals (first | (apply ol_gskip; rfl; rfl; exact qA; rfl) | (apply ol_gval; rfl; rfl; rfl; exact qA; apply stp_cmp; apply s_neq; rfl; rfl; all_goals (intro hc53; try (exfalso; (first | exact hc53 rfl | omega))))); all_goals (apply ol_val; rfl; apply stp_pur; first | (apply s_pick_t; rfl; exact qA; rfl) | (apply s_pick_f; rfl; exact qA; rfl)); all_goals (apply ol_as; rfl; rfl); all_goals (apply ol_nil))
                  | (apply cw_cond_true; rfl; exact qA)
                  | (apply cw_cond_false; rfl; exact qA)
                  | apply cw_skip
                  | apply cw_ret
                  | apply cw_block
                  | apply cw_exit
                all_goals (refine ends [] (RVal.tmp rfl RVal.nil) Pick.nil ?_; rfl)
              · rw [decide_eq_false h7]
                repeat' first
                  | apply cw_seq
                  | (refine cw_region_id 0 ?_; (apply ol_val; rfl; first | (apply s_boxN; rfl; intro bk1) | (apply s_box1; rfl; rfl; intro bk1)); (apply ol_as; rfl; rfl); (apply ol_nil))
                  | (refine cw_region_id 1 ?_; (apply ol_fa; rfl; rfl; exact fd_25_0; exact qZ); (apply ol_ld; rfl; rfl; rfl; exact qP); (apply ol_val; rfl; apply s_callv; rfl; exact gf_50; (intro w' hw'; first | exact k1 w' | exact k2 w' | exact k3 w' | exact k5 w')); (apply ol_val; rfl; apply stp_pur; first | (apply s_not_t; rfl; exact qA) | (apply s_not_f; rfl; exact qA) | (apply s_not; rfl)); (apply ol_mv; rfl; rfl); (first | (apply ol_gskip; rfl; rfl; exact qA; rfl) | (apply ol_gval; rfl; rfl; rfl; exact qA; apply stp_pur; apply s_fieldAddr'; rfl; exact fd_25_3; exact qZ)); (first | (apply ol_gskip; rfl; rfl; exact qA; rfl) | (apply ol_gval; rfl; rfl; rfl; exact qA; apply stp_pur; apply s_load1; rfl; rfl; exact qP)); (first | (apply ol_gskip; rfl; rfl; exact qA; rfl) | (apply ol_gval; rfl; rfl; rfl; exact qA; apply s_callv; rfl; exact gf_50; (intro w' hw'; first | exact k1 w' | exact k2 w' | exact k3 w' | exact k5 w'))); (first | (apply ol_gskip; rfl; rfl; exact qA; rfl) | (apply ol_gval; rfl; rfl; rfl; exact qA; apply stp_pur; first | (apply s_not_t; rfl; exact qA) | (apply s_not_f; rfl; exact qA) | (apply s_not; rfl))); (apply ol_val; rfl; apply stp_pur; first | (apply s_pick_t; rfl; exact qA; rfl) | (apply s_pick_f; rfl; exact qA; rfl)); (apply ol_mv; rfl; rfl); (first | (apply ol_gskip; rfl; rfl; exact qA; rfl) | (apply ol_gval; rfl; rfl; rfl; exact qA; apply stp_pur; apply s_fieldAddr'; rfl; exact fd_25_2; exact qZ)); (first | (apply ol_gskip; rfl; rfl; exact qA; rfl) | (apply ol_gval; rfl; rfl; rfl; exact qA; apply stp_pur; apply s_load1; rfl; rfl; exact qP)); (first | (apply ol_gskip; rfl; rfl; exact qA; rfl) | (apply ol_gval; rfl; rfl; rfl; exact qA; apply stp_pur; apply s_fieldAddr'; rfl; exact fd_25_3; exact qZ)); (first | (apply ol_gskip; rfl; rfl; exact qA; rfl) | (apply ol_gval; rfl; rfl; rfl; exact qA; apply stp_pur; apply s_load1; rfl; rfl; exact qP)); (first | (apply ol_gskip; rfl; rfl; exact qA; rfl) | (apply ol_gval; rfl; rfl; rfl; exact qA; apply stp_pur; apply s_sub64; rfl; rfl; omega)); (first | (apply ol_gskip; rfl; rfl; exact qA; rfl) | (apply ol_gval; rfl; rfl; rfl; exact qA; apply s_callv; rfl; exact gf_50; (intro w' hw'; first | exact k1 w' | exact k2 w' | exact k3 w' | exact k5 w'))); (first | (apply ol_gskip; rfl; rfl; exact qA; rfl) | (apply ol_gval; rfl; rfl; rfl; exact qA; apply stp_pur; first | (apply s_not_t; rfl; exact qA) | (apply s_not_f; rfl; exact qA) | (apply s_not; rfl))); (apply ol_val; rfl; apply stp_pur; first | (apply s_pick_t; rfl; exact qA; rfl) | (apply s_pick_f; rfl; exact qA; rfl)); (apply ol_mv; rfl; rfl); (first | (apply ol_gskip; rfl; rfl; exact qA; rfl) | (apply ol_gval; rfl; rfl; rfl; exact qA; apply stp_pur; apply s_fieldAddr'; rfl; exact fd_25_3; exact qZ)); (first | (apply ol_gskip; rfl; rfl; exact qA; rfl) | (apply ol_gval; rfl; rfl; rfl; exact qA; apply stp_pur; apply s_load1; rfl; rfl; exact qP)); (first | (apply ol_gskip; rfl; rfl; exact qA; rfl) | (apply ol_gval; rfl; rfl; rfl; exact qA; apply stp_pur; apply s_fieldAddr'; rfl; exact fd_25_4; exact qZ)); (first | (apply ol_gskip; rfl; rfl; exact qA; rfl) | (apply ol_gval; rfl; rfl; rfl; exact qA; apply stp_pur; apply s_load1; rfl; rfl; exact qP)); (first | (apply ol_gskip; rfl; rfl; exact qA; rfl) | (apply ol_gval; rfl; rfl; rfl; exact qA; apply s_callv; rfl; exact gf_51; (intro w' hw'; exact kt w' hw'.le))); (first | (apply ol_gskip; rfl; rfl; exact qA; rfl) | (apply ol_gval; rfl; rfl; rfl; exact qA; apply stp_pur; first | (apply s_not_t; rfl; exact qA) | (apply s_not_f; rfl; exact qA) | (apply s_not; rfl))); (apply ol_val; rfl; apply stp_pur; first | (apply s_pick_t; rfl; exact qA; rfl) | (apply s_pick_f; rfl; exact qA; rfl)); (apply ol_mv; rfl; rfl); (first | (apply ol_gskip; rfl; rfl; exact qA; rfl) | (apply ol_gval; rfl; rfl; rfl; exact qA; apply stp_pur; apply s_fieldAddr'; rfl; exact fd_25_1; exact qZ)); (first | (apply ol_gskip; rfl; rfl; exact qA; rfl) | (apply ol_gval; rfl; rfl; rfl; exact qA; apply stp_pur; apply s_load1; rfl; rfl; exact qP)); (first | (apply ol_gskip; rfl; rfl; exact qA; rfl) | (apply ol_gval; rfl; rfl; rfl; exact qA; apply s_callv; rfl; exact gf_50; (intro w' hw'; first | exact k1 w' | exact k2 w' | exact k3 w' | exact k5 w'))); (first | (apply ol_gskip; rfl; rfl; exact qA; rfl) | (apply ol_gval; rfl; rfl; rfl; exact qA; apply stp_pur; first | (apply s_not_t; rfl; exact qA) | (apply s_not_f; rfl; exact qA) | (apply s_not; rfl))); (apply ol_val; rfl; apply stp_pur; first | (apply s_pick_t; rfl; exact qA; rfl) | (apply s_pick_f; rfl; exact qA; rfl)); (apply ol_nil))
                  | (refine cw_region_id 3 ?_; (apply ol_fa; rfl; rfl; exact fd_25_2; exact qZ); (apply ol_ld; rfl; rfl; rfl; exact qP); (apply ol_val; rfl; apply stp_cmp; apply s_eql; rfl; rfl; all_goals (intro hc38; try (exfalso; (first | exact hc38 rfl | omega)))); all_goals (apply ol_nil))
                  | (refine cw_region_id 5 ?_; (apply ol_fa; rfl; rfl; exact fd_25_5; exact qZ); (apply ol_ld; rfl; rfl; rfl; exact qP); (apply ol_val; rfl; apply stp_pur; apply s_len; rfl; exact el_23); (apply ol_val; rfl; apply stp_cmp; apply s_eql; rfl; rfl; all_goals (intro hc44; try (exfalso; (first | exact hc44 rfl | omega)))); all_goals (apply ol_mv; rfl; rfl); all_goals (first | (apply ol_gskip; rfl; rfl; exact qA; rfl) | (apply ol_gval; rfl; rfl; rfl; exact qA; apply stp_pur; apply s_fieldAddr'; rfl; exact fd_25_1; exact qZ)); all_goals (first | (apply ol_gskip; rfl; rfl; exact qA; rfl) | (apply ol_gval; rfl; rfl; rfl; exact qA; apply stp_pur; apply s_load1; rfl; rfl; exact qP)); all_goals (first | (apply ol_gskip; rfl; rfl; exact qA; rfl) | (apply ol_gval; rfl; rfl; rfl; exact qA; apply stp_cmp; apply s_neq; rfl; rfl; all_goals (intro hc48; try (exfalso; (first | exact hc48 rfl | omega))))); all_goals (apply ol_val; rfl; apply stp_pur; first | (apply s_pick_t; rfl; exact qA; rfl) | (apply s_pick_f; rfl; exact qA; rfl)); all_goals (apply ol_mv; rfl; rfl); all_goals (first | (apply ol_gskip; rfl; rfl; exact qA; rfl) | (apply ol_gval; rfl; rfl; rfl; exact qA; apply stp_pur; apply s_fieldAddr'; rfl; exact fd_25_1; exact qZ)); all_goals (first | (apply ol_gskip; rfl; rfl; exact qA; rfl) | (apply ol_gval; rfl; rfl; rfl; exact qA; apply stp_pur; apply s_load1; rfl; rfl; exact qP)); all_goals (first | (apply ol_gskip; rfl; rfl; exact qA; rfl) | (apply ol_gval; rfl; rfl; rfl; exact qA; apply stp_cmp; apply s_neq; rfl; rfl; all_goals (intro hc53; try (exfalso; (first | exact hc53 rfl | omega))))); all_goals (apply ol_val; rfl; apply stp_pur; first | (apply s_pick_t; rfl; exact qA; rfl) | (apply s_pick_f; rfl; exact qA; rfl)); all_goals (apply ol_as; rfl; rfl); all_goals (apply ol_nil))
                  | (apply cw_cond_true; rfl; exact qA)
                  | (apply cw_cond_false; rfl; exact qA)
                  | apply cw_skip
                  | apply cw_ret
                  | apply cw_block
                  | apply cw_exit
                all_goals (refine ends [] (RVal.tmp rfl RVal.nil) Pick.nil ?_; rfl)
end Go.Proofs.Ytagmoecojmlogaa
namespace Go.Proofs.Ytagmoecojmlogaa
set_option maxRecDepth 20000
set_option linter.unusedSimpArgs false
set_option linter.unusedVariables false
open Go Go.Fw
structure VSt where
  i : Nat
  z : Bool
theorem all_false {n : Int} {l : List C3} {i : Nat} (hi : i < l.length) (h : tfB n l[i] = false) : l.all (tfB n) = false := by
  rw [List.all_eq_false]
  exact ⟨_, List.getElem_mem hi, by simp [h]⟩
end Go.Proofs.Ytagmoecojmlogaa
namespace Go.Proofs.Ytagmoecojmlogaa
set_option maxRecDepth 20000
set_option linter.unusedSimpArgs false
set_option linter.unusedVariables false
open Go Go.Fw
attribute [local irreducible] CW OL OD FX Stp FnC FnV FnA Ret
set_option maxHeartbeats 800000
theorem message_spec (w : World) (m : LM) : FnC Try.prog 32 [.agg m.enc.toArray] w (fun v _ => v = .bool (mvB m.val)) := by
  obtain ⟨fr, to, ki, nu, ⟨bo, ba, bb, bo', bc⟩⟩ := m
  unfold LM.enc LM.val mvB
  dsimp only
  have k1 := fun (w' : World) => in_spec w' fr 0 1000
  have k2 := fun (w' : World) => in_spec w' to 0 1000
  have k3 := fun (w' : World) => in_spec w' ki 0 1000
  have k4 := fun (w' : World) => in_spec w' nu 0 1073741824
  refine enterF (M := View.of w) Try.func32 rfl rfl rfl rfl (View.le.refl _) ?_
  cases h0 : inn fr 0 1000 with
  | false =>
    rw [h0] at k1
    repeat' first
      | apply cw_seq
      | (refine cw_region_id 0 ?_; (apply ol_val; rfl; first | (apply s_boxN; rfl; intro bk1) | (apply s_box1; rfl; rfl; intro bk1)); (apply ol_as; rfl; rfl); (apply ol_nil))
      | (refine cw_region_id 1 ?_; (apply ol_fa; rfl; rfl; exact fd_28_0; exact qZ); (apply ol_ld; rfl; rfl; rfl; exact qP); (apply ol_val; rfl; apply s_callv; rfl; exact gf_50; (intro w' hw'; first | exact k1 w' | exact k2 w' | exact k3 w' | exact k4 w')); (apply ol_mv; rfl; rfl); (first | (apply ol_gskip; rfl; rfl; exact qA; rfl) | (apply ol_gval; rfl; rfl; rfl; exact qA; apply stp_pur; apply s_fieldAddr'; rfl; exact fd_28_1; exact qZ)); (first | (apply ol_gskip; rfl; rfl; exact qA; rfl) | (apply ol_gval; rfl; rfl; rfl; exact qA; apply stp_pur; apply s_load1; rfl; rfl; exact qP)); (first | (apply ol_gskip; rfl; rfl; exact qA; rfl) | (apply ol_gval; rfl; rfl; rfl; exact qA; apply s_callv; rfl; exact gf_50; (intro w' hw'; first | exact k1 w' | exact k2 w' | exact k3 w' | exact k4 w'))); (apply ol_val; rfl; apply stp_pur; first | (apply s_pick_t; rfl; exact qA; rfl) | (apply s_pick_f; rfl; exact qA; rfl)); (apply ol_mv; rfl; rfl); (first | (apply ol_gskip; rfl; rfl; exact qA; rfl) | (apply ol_gval; rfl; rfl; rfl; exact qA; apply stp_pur; apply s_fieldAddr'; rfl; exact fd_28_2; exact qZ)); (first | (apply ol_gskip; rfl; rfl; exact qA; rfl) | (apply ol_gval; rfl; rfl; rfl; exact qA; apply stp_pur; apply s_load1; rfl; rfl; exact qP)); (first | (apply ol_gskip; rfl; rfl; exact qA; rfl) | (apply ol_gval; rfl; rfl; rfl; exact qA; apply s_callv; rfl; exact gf_50; (intro w' hw'; first | exact k1 w' | exact k2 w' | exact k3 w' | exact k4 w'))); (apply ol_val; rfl; apply stp_pur; first | (apply s_pick_t; rfl; exact qA; rfl) | (apply s_pick_f; rfl; exact qA; rfl)); (apply ol_mv; rfl; rfl); (first | (apply ol_gskip; rfl; rfl; exact qA; rfl) | (apply ol_gval; rfl; rfl; rfl; exact qA; apply stp_pur; apply s_fieldAddr'; rfl; exact fd_28_3; exact qZ)); (first | (apply ol_gskip; rfl; rfl; exact qA; rfl) | (apply ol_gval; rfl; rfl; rfl; exact qA; apply stp_pur; apply s_load1; rfl; rfl; exact qP)); (first | (apply ol_gskip; rfl; rfl; exact qA; rfl) | (apply ol_gval; rfl; rfl; rfl; exact qA; apply s_callv; rfl; exact gf_50; (intro w' hw'; first | exact k1 w' | exact k2 w' | exact k3 w' | exact k4 w'))); (apply ol_val; rfl; apply stp_pur; first | (apply s_pick_t; rfl; exact qA; rfl) | (apply s_pick_f; rfl; exact qA; rfl)); (apply ol_mv; rfl; rfl); (first | (apply ol_gskip; rfl; rfl; exact qA; rfl) | (apply ol_gval; rfl; rfl; rfl; exact qA; apply stp_pur; apply s_fieldAddr'; rfl; exact fd_28_4; exact qZ)); (first | (apply ol_gskip; rfl; rfl; exact qA; rfl) | (apply ol_gval; rfl; rfl; rfl; exact qA; apply stp_pur; apply s_load1; rfl; rfl; exact qP)); (first | (apply ol_gskip; rfl; rfl; exact qA; rfl) | (apply ol_gval; rfl; rfl; rfl; exact qA; apply stp_pur; apply s_len; rfl; exact el_26)); (first | (apply ol_gskip; rfl; rfl; exact qA; rfl) | (apply ol_gval; rfl; rfl; rfl; exact qA; apply stp_cmp; apply s_leq; rfl; rfl; all_goals (intro hc25; try (exfalso; (first | exact hc25 rfl | omega))))); all_goals (apply ol_val; rfl; apply stp_pur; first | (apply s_pick_t; rfl; exact qA; rfl) | (apply s_pick_f; rfl; exact qA; rfl)); all_goals (apply ol_as; rfl; rfl); all_goals (apply ol_nil))
      | (apply cw_cond_true; rfl; exact qA)
      | (apply cw_cond_false; rfl; exact qA)
      | apply cw_skip
      | apply cw_ret
      | apply cw_block
      | apply cw_exit
    all_goals (refine ends [] (RVal.tmp rfl RVal.nil) Pick.nil ?_; rfl)
  | true =>
    rw [h0] at k1
    cases h1 : inn to 0 1000 with
    | false =>
      rw [h1] at k2
      repeat' first
        | apply cw_seq
        | (refine cw_region_id 0 ?_; (apply ol_val; rfl; first | (apply s_boxN; rfl; intro bk1) | (apply s_box1; rfl; rfl; intro bk1)); (apply ol_as; rfl; rfl); (apply ol_nil))
        | (refine cw_region_id 1 ?_; (apply ol_fa; rfl; rfl; exact fd_28_0; exact qZ); (apply ol_ld; rfl; rfl; rfl; exact qP); (apply ol_val; rfl; apply s_callv; rfl; exact gf_50; (intro w' hw'; first | exact k1 w' | exact k2 w' | exact k3 w' | exact k4 w')); (apply ol_mv; rfl; rfl); (first | (apply ol_gskip; rfl; rfl; exact qA; rfl) | (apply ol_gval; rfl; rfl; rfl; exact qA; apply stp_pur; apply s_fieldAddr'; rfl; exact fd_28_1; exact qZ)); (first | (apply ol_gskip; rfl; rfl; exact qA; rfl) | (apply ol_gval; rfl; rfl; rfl; exact qA; apply stp_pur; apply s_load1; rfl; rfl; exact qP)); (first | (apply ol_gskip; rfl; rfl; exact qA; rfl) | (apply ol_gval; rfl; rfl; rfl; exact qA; apply s_callv; rfl; exact gf_50; (intro w' hw'; first | exact k1 w' | exact k2 w' | exact k3 w' | exact k4 w'))); (apply ol_val; rfl; apply stp_pur; first | (apply s_pick_t; rfl; exact qA; rfl) | (apply s_pick_f; rfl; exact qA; rfl)); (apply ol_mv; rfl; rfl); (first | (apply ol_gskip; rfl; rfl; exact qA; rfl) | (apply ol_gval; rfl; rfl; rfl; exact qA; apply stp_pur; apply s_fieldAddr'; rfl; exact fd_28_2; exact qZ)); (first | (apply ol_gskip; rfl; rfl; exact qA; rfl) | (apply ol_gval; rfl; rfl; rfl; exact qA; apply stp_pur; apply s_load1; rfl; rfl; exact qP)); (first | (apply ol_gskip; rfl; rfl; exact qA; rfl) | (apply ol_gval; rfl; rfl; rfl; exact qA; apply s_callv; rfl; exact gf_50; (intro w' hw'; first | exact k1 w' | exact k2 w' | exact k3 w' | exact k4 w'))); (apply ol_val; rfl; apply stp_pur; first | (apply s_pick_t; rfl; exact qA; rfl) | (apply s_pick_f; rfl; exact qA; rfl)); (apply ol_mv; rfl; rfl); (first | (apply ol_gskip; rfl; rfl; exact qA; rfl) | (apply ol_gval; rfl; rfl; rfl; exact qA; apply stp_pur; apply s_fieldAddr'; rfl; exact fd_28_3; exact qZ)); (first | (apply ol_gskip; rfl; rfl; exact qA; rfl) | (apply ol_gval; rfl; rfl; rfl; exact qA; apply stp_pur; apply s_load1; rfl; rfl; exact qP)); (first | (apply ol_gskip; rfl; rfl; exact qA; rfl) | (apply ol_gval; rfl; rfl; rfl; exact qA; apply s_callv; rfl; exact gf_50; (intro w' hw'; first | exact k1 w' | exact k2 w' | exact k3 w' | exact k4 w'))); (apply ol_val; rfl; apply stp_pur; first | (apply s_pick_t; rfl; exact qA; rfl) | (apply s_pick_f; rfl; exact qA; rfl)); (apply ol_mv; rfl; rfl); (first | (apply ol_gskip; rfl; rfl; exact qA; rfl) | (apply ol_gval; rfl; rfl; rfl; exact qA; apply stp_pur; apply s_fieldAddr'; rfl; exact fd_28_4; exact qZ)); (first | (apply ol_gskip; rfl; rfl; exact qA; rfl) | (apply ol_gval; rfl; rfl; rfl; exact qA; apply stp_pur; apply s_load1; rfl; rfl; exact qP)); (first | (apply ol_gskip; rfl; rfl; exact qA; rfl) | (apply ol_gval; rfl; rfl; rfl; exact qA; apply stp_pur; apply s_len; rfl; exact el_26)); (first | (apply ol_gskip; rfl; rfl; exact qA; rfl) | (apply ol_gval; rfl; rfl; rfl; exact qA; apply stp_cmp; apply s_leq; rfl; rfl; all_goals (intro hc25; try (exfalso; (first | exact hc25 rfl | omega))))); all_goals (apply ol_val; rfl; apply stp_pur; first | (apply s_pick_t; rfl; exact qA; rfl) | (apply s_pick_f; rfl; exact qA; rfl)); all_goals (apply ol_as; rfl; rfl); all_goals (apply ol_nil))
        | (apply cw_cond_true; rfl; exact qA)
        | (apply cw_cond_false; rfl; exact qA)
        | apply cw_skip
        | apply cw_ret
        | apply cw_block
        | apply cw_exit
      all_goals (refine ends [] (RVal.tmp rfl RVal.nil) Pick.nil ?_; rfl)
    | true =>
      rw [h1] at k2
      cases h2 : inn ki 0 1000 with
      | false =>
        rw [h2] at k3
        repeat' first
          | apply cw_seq
          | (refine cw_region_id 0 ?_; (apply ol_val; rfl; first | (apply s_boxN; rfl; intro bk1) | (apply s_box1; rfl; rfl; intro bk1)); (apply ol_as; rfl; rfl); (apply ol_nil))
          | (refine cw_region_id 1 ?_; (apply ol_fa; rfl; rfl; exact fd_28_0; exact qZ); (apply ol_ld; rfl; rfl; rfl; exact qP); (apply ol_val; rfl; apply s_callv; rfl; exact gf_50; (intro w' hw'; first | exact k1 w' | exact k2 w' | exact k3 w' | exact k4 w')); (apply ol_mv; rfl; rfl); (first | (apply ol_gskip; rfl; rfl; exact qA; rfl) | (apply ol_gval; rfl; rfl; rfl; exact qA; apply stp_pur; apply s_fieldAddr'; rfl; exact fd_28_1; exact qZ)); (first | (apply ol_gskip; rfl; rfl; exact qA; rfl) | (apply ol_gval; rfl; rfl; rfl; exact qA; apply stp_pur; apply s_load1; rfl; rfl; exact qP)); (first | (apply ol_gskip; rfl; rfl; exact qA; rfl) | (apply ol_gval; rfl; rfl; rfl; exact qA; apply s_callv; rfl; exact gf_50; (intro w' hw'; first | exact k1 w' | exact k2 w' | exact k3 w' | exact k4 w'))); (apply ol_val; rfl; apply stp_pur; first | (apply s_pick_t; rfl; exact qA; rfl) | (apply s_pick_f; rfl; exact qA; rfl)); (apply ol_mv; rfl; rfl); (first | (apply ol_gskip; rfl; rfl; exact qA; rfl) | (apply ol_gval; rfl; rfl; rfl; exact qA; apply stp_pur; apply s_fieldAddr'; rfl; exact fd_28_2; exact qZ)); (first | (apply ol_gskip; rfl; rfl; exact qA; rfl) | (apply ol_gval; rfl; rfl; rfl; exact qA; apply stp_pur; apply s_load1; rfl; rfl; exact qP)); (first | (apply ol_gskip; rfl; rfl; exact qA; rfl) | (apply ol_gval; rfl; rfl; rfl; exact qA; apply s_callv; rfl; exact gf_50; (intro w' hw'; first | exact k1 w' | exact k2 w' | exact k3 w' | exact k4 w'))); (apply ol_val; rfl; apply stp_pur; first | (apply s_pick_t; rfl; exact qA; rfl) | (apply s_pick_f; rfl; exact qA; rfl)); (apply ol_mv; rfl; rfl); (first | (apply ol_gskip; rfl; rfl; exact qA; rfl) | (apply ol_gval; rfl; rfl; rfl; exact qA; apply stp_pur; apply s_fieldAddr'; rfl; exact fd_28_3; exact qZ)); (first | (apply ol_gskip; rfl; rfl; exact qA; rfl) | (apply ol_gval; rfl; rfl; rfl; exact qA; apply stp_pur; apply s_load1; rfl; rfl; exact qP)); (first | (apply ol_gskip; rfl; rfl; exact qA; rfl) | (apply ol_gval; rfl; rfl; rfl; exact qA; apply s_callv; rfl; exact gf_50; (intro w' hw'; first | exact k1 w' | exact k2 w' | exact k3 w' | exact k4 w'))); (apply ol_val; rfl; apply stp_pur; first | (apply s_pick_t; rfl; exact qA; rfl) | (apply s_pick_f; rfl; exact qA; rfl)); (apply ol_mv; rfl; rfl); (first | (apply ol_gskip; rfl; rfl; exact qA; rfl) | (apply ol_gval; rfl; rfl; rfl; exact qA; apply stp_pur; apply s_fieldAddr'; rfl; exact fd_28_4; exact qZ)); (first | (apply ol_gskip; rfl; rfl; exact qA; rfl) | (apply ol_gval; rfl; rfl; rfl; exact qA; apply stp_pur; apply s_load1; rfl; rfl; exact qP)); (first | (apply ol_gskip; rfl; rfl; exact qA; rfl) | (apply ol_gval; rfl; rfl; rfl; exact qA; apply stp_pur; apply s_len; rfl; exact el_26)); (first | (apply ol_gskip; rfl; rfl; exact qA; rfl) | (apply ol_gval; rfl; rfl; rfl; exact qA; apply stp_cmp; apply s_leq; rfl; rfl; all_goals (intro hc25; try (exfalso; (first | exact hc25 rfl | omega))))); all_goals (apply ol_val; rfl; apply stp_pur; first | (apply s_pick_t; rfl; exact qA; rfl) | (apply s_pick_f; rfl; exact qA; rfl)); all_goals (apply ol_as; rfl; rfl); all_goals (apply ol_nil))
          | (apply cw_cond_true; rfl; exact qA)
          | (apply cw_cond_false; rfl; exact qA)
          | apply cw_skip
          | apply cw_ret
          | apply cw_block
          | apply cw_exit
        all_goals (refine ends [] (RVal.tmp rfl RVal.nil) Pick.nil ?_; rfl)
      | true =>
        rw [h2] at k3
        cases h3 : inn nu 0 1073741824 with
        | false =>
          rw [h3] at k4
          repeat' first
            | apply cw_seq
            | (refine cw_region_id 0 ?_; (apply ol_val; rfl; first | (apply s_boxN; rfl; intro bk1) | (apply s_box1; rfl; rfl; intro bk1)); (apply ol_as; rfl; rfl); (apply ol_nil))
            | (refine cw_region_id 1 ?_; (apply ol_fa; rfl; rfl; exact fd_28_0; exact qZ); (apply ol_ld; rfl; rfl; rfl; exact qP); (apply ol_val; rfl; apply s_callv; rfl; exact gf_50; (intro w' hw'; first | exact k1 w' | exact k2 w' | exact k3 w' | exact k4 w')); (apply ol_mv; rfl; rfl); (first | (apply ol_gskip; rfl; rfl; exact qA; rfl) | (apply ol_gval; rfl; rfl; rfl; exact qA; apply stp_pur; apply s_fieldAddr'; rfl; exact fd_28_1; exact qZ)); (first | (apply ol_gskip; rfl; rfl; exact qA; rfl) | (apply ol_gval; rfl; rfl; rfl; exact qA; apply stp_pur; apply s_load1; rfl; rfl; exact qP)); (first | (apply ol_gskip; rfl; rfl; exact qA; rfl) | (apply ol_gval; rfl; rfl; rfl; exact qA; apply s_callv; rfl; exact gf_50; (intro w' hw'; first | exact k1 w' | exact k2 w' | exact k3 w' | exact k4 w'))); (apply ol_val; rfl; apply stp_pur; first | (apply s_pick_t; rfl; exact qA; rfl) | (apply s_pick_f; rfl; exact qA; rfl)); (apply ol_mv; rfl; rfl); (first | (apply ol_gskip; rfl; rfl; exact qA; rfl) | (apply ol_gval; rfl; rfl; rfl; exact qA; apply stp_pur; apply s_fieldAddr'; rfl; exact fd_28_2; exact qZ)); (first | (apply ol_gskip; rfl; rfl; exact qA; rfl) | (apply ol_gval; rfl; rfl; rfl; exact qA; apply stp_pur; apply s_load1; rfl; rfl; exact qP)); (first | (apply ol_gskip; rfl; rfl; exact qA; rfl) | (apply ol_gval; rfl; rfl; rfl; exact qA; apply s_callv; rfl; exact gf_50; (intro w' hw'; first | exact k1 w' | exact k2 w' | exact k3 w' | exact k4 w'))); (apply ol_val; rfl; apply stp_pur; first | (apply s_pick_t; rfl; exact qA; rfl) | (apply s_pick_f; rfl; exact qA; rfl)); (apply ol_mv; rfl; rfl); (first | (apply ol_gskip; rfl; rfl; exact qA; rfl) | (apply ol_gval; rfl; rfl; rfl; exact qA; apply stp_pur; apply s_fieldAddr'; rfl; exact fd_28_3; exact qZ)); (first | (apply ol_gskip; rfl; rfl; exact qA; rfl) | (apply ol_gval; rfl; rfl; rfl; exact qA; apply stp_pur; apply s_load1; rfl; rfl; exact qP)); (first | (apply ol_gskip; rfl; rfl; exact qA; rfl) | (apply ol_gval; rfl; rfl; rfl; exact qA; apply s_callv; rfl; exact gf_50; (intro w' hw'; first | exact k1 w' | exact k2 w' | exact k3 w' | exact k4 w'))); (apply ol_val; rfl; apply stp_pur; first | (apply s_pick_t; rfl; exact qA; rfl) | (apply s_pick_f; rfl; exact qA; rfl)); (apply ol_mv; rfl; rfl); (first | (apply ol_gskip; rfl; rfl; exact qA; rfl) | (apply ol_gval; rfl; rfl; rfl; exact qA; apply stp_pur; apply s_fieldAddr'; rfl; exact fd_28_4; exact qZ)); (first | (apply ol_gskip; rfl; rfl; exact qA; rfl) | (apply ol_gval; rfl; rfl; rfl; exact qA; apply stp_pur; apply s_load1; rfl; rfl; exact qP)); (first | (apply ol_gskip; rfl; rfl; exact qA; rfl) | (apply ol_gval; rfl; rfl; rfl; exact qA; apply stp_pur; apply s_len; rfl; exact el_26)); (first | (apply ol_gskip; rfl; rfl; exact qA; rfl) | (apply ol_gval; rfl; rfl; rfl; exact qA; apply stp_cmp; apply s_leq; rfl; rfl; all_goals (intro hc25; try (exfalso; (first | exact hc25 rfl | omega))))); all_goals (apply ol_val; rfl; apply stp_pur; first | (apply s_pick_t; rfl; exact qA; rfl) | (apply s_pick_f; rfl; exact qA; rfl)); all_goals (apply ol_as; rfl; rfl); all_goals (apply ol_nil))
            | (apply cw_cond_true; rfl; exact qA)
            | (apply cw_cond_false; rfl; exact qA)
            | apply cw_skip
            | apply cw_ret
            | apply cw_block
            | apply cw_exit
          all_goals (refine ends [] (RVal.tmp rfl RVal.nil) Pick.nil ?_; rfl)
        | true =>
          rw [h3] at k4
          by_cases h : bo.length ≤ 16384
          · rw [decide_eq_true h]
            repeat' first
              | apply cw_seq
              | (refine cw_region_id 0 ?_; (apply ol_val; rfl; first | (apply s_boxN; rfl; intro bk1) | (apply s_box1; rfl; rfl; intro bk1)); (apply ol_as; rfl; rfl); (apply ol_nil))
              | (refine cw_region_id 1 ?_; (apply ol_fa; rfl; rfl; exact fd_28_0; exact qZ); (apply ol_ld; rfl; rfl; rfl; exact qP); (apply ol_val; rfl; apply s_callv; rfl; exact gf_50; (intro w' hw'; first | exact k1 w' | exact k2 w' | exact k3 w' | exact k4 w')); (apply ol_mv; rfl; rfl); (first | (apply ol_gskip; rfl; rfl; exact qA; rfl) | (apply ol_gval; rfl; rfl; rfl; exact qA; apply stp_pur; apply s_fieldAddr'; rfl; exact fd_28_1; exact qZ)); (first | (apply ol_gskip; rfl; rfl; exact qA; rfl) | (apply ol_gval; rfl; rfl; rfl; exact qA; apply stp_pur; apply s_load1; rfl; rfl; exact qP)); (first | (apply ol_gskip; rfl; rfl; exact qA; rfl) | (apply ol_gval; rfl; rfl; rfl; exact qA; apply s_callv; rfl; exact gf_50; (intro w' hw'; first | exact k1 w' | exact k2 w' | exact k3 w' | exact k4 w'))); (apply ol_val; rfl; apply stp_pur; first | (apply s_pick_t; rfl; exact qA; rfl) | (apply s_pick_f; rfl; exact qA; rfl)); (apply ol_mv; rfl; rfl); (first | (apply ol_gskip; rfl; rfl; exact qA; rfl) | (apply ol_gval; rfl; rfl; rfl; exact qA; apply stp_pur; apply s_fieldAddr'; rfl; exact fd_28_2; exact qZ)); (first | (apply ol_gskip; rfl; rfl; exact qA; rfl) | (apply ol_gval; rfl; rfl; rfl; exact qA; apply stp_pur; apply s_load1; rfl; rfl; exact qP)); (first | (apply ol_gskip; rfl; rfl; exact qA; rfl) | (apply ol_gval; rfl; rfl; rfl; exact qA; apply s_callv; rfl; exact gf_50; (intro w' hw'; first | exact k1 w' | exact k2 w' | exact k3 w' | exact k4 w'))); (apply ol_val; rfl; apply stp_pur; first | (apply s_pick_t; rfl; exact qA; rfl) | (apply s_pick_f; rfl; exact qA; rfl)); (apply ol_mv; rfl; rfl); (first | (apply ol_gskip; rfl; rfl; exact qA; rfl) | (apply ol_gval; rfl; rfl; rfl; exact qA; apply stp_pur; apply s_fieldAddr'; rfl; exact fd_28_3; exact qZ)); (first | (apply ol_gskip; rfl; rfl; exact qA; rfl) | (apply ol_gval; rfl; rfl; rfl; exact qA; apply stp_pur; apply s_load1; rfl; rfl; exact qP)); (first | (apply ol_gskip; rfl; rfl; exact qA; rfl) | (apply ol_gval; rfl; rfl; rfl; exact qA; apply s_callv; rfl; exact gf_50; (intro w' hw'; first | exact k1 w' | exact k2 w' | exact k3 w' | exact k4 w'))); (apply ol_val; rfl; apply stp_pur; first | (apply s_pick_t; rfl; exact qA; rfl) | (apply s_pick_f; rfl; exact qA; rfl)); (apply ol_mv; rfl; rfl); (first | (apply ol_gskip; rfl; rfl; exact qA; rfl) | (apply ol_gval; rfl; rfl; rfl; exact qA; apply stp_pur; apply s_fieldAddr'; rfl; exact fd_28_4; exact qZ)); (first | (apply ol_gskip; rfl; rfl; exact qA; rfl) | (apply ol_gval; rfl; rfl; rfl; exact qA; apply stp_pur; apply s_load1; rfl; rfl; exact qP)); (first | (apply ol_gskip; rfl; rfl; exact qA; rfl) | (apply ol_gval; rfl; rfl; rfl; exact qA; apply stp_pur; apply s_len; rfl; exact el_26)); (first | (apply ol_gskip; rfl; rfl; exact qA; rfl) | (apply ol_gval; rfl; rfl; rfl; exact qA; apply stp_cmp; apply s_leq; rfl; rfl; all_goals (intro hc25; try (exfalso; (first | exact hc25 rfl | omega))))); all_goals (apply ol_val; rfl; apply stp_pur; first | (apply s_pick_t; rfl; exact qA; rfl) | (apply s_pick_f; rfl; exact qA; rfl)); all_goals (apply ol_as; rfl; rfl); all_goals (apply ol_nil))
              | (apply cw_cond_true; rfl; exact qA)
              | (apply cw_cond_false; rfl; exact qA)
              | apply cw_skip
              | apply cw_ret
              | apply cw_block
              | apply cw_exit
            all_goals (refine ends [] (RVal.tmp rfl RVal.nil) Pick.nil ?_; rfl)
          · rw [decide_eq_false h]
            repeat' first
              | apply cw_seq
              | (refine cw_region_id 0 ?_; (apply ol_val; rfl; first | (apply s_boxN; rfl; intro bk1) | (apply s_box1; rfl; rfl; intro bk1)); (apply ol_as; rfl; rfl); (apply ol_nil))
              | (refine cw_region_id 1 ?_; (apply ol_fa; rfl; rfl; exact fd_28_0; exact qZ); (apply ol_ld; rfl; rfl; rfl; exact qP); (apply ol_val; rfl; apply s_callv; rfl; exact gf_50; (intro w' hw'; first | exact k1 w' | exact k2 w' | exact k3 w' | exact k4 w')); (apply ol_mv; rfl; rfl); (first | (apply ol_gskip; rfl; rfl; exact qA; rfl) | (apply ol_gval; rfl; rfl; rfl; exact qA; apply stp_pur; apply s_fieldAddr'; rfl; exact fd_28_1; exact qZ)); (first | (apply ol_gskip; rfl; rfl; exact qA; rfl) | (apply ol_gval; rfl; rfl; rfl; exact qA; apply stp_pur; apply s_load1; rfl; rfl; exact qP)); (first | (apply ol_gskip; rfl; rfl; exact qA; rfl) | (apply ol_gval; rfl; rfl; rfl; exact qA; apply s_callv; rfl; exact gf_50; (intro w' hw'; first | exact k1 w' | exact k2 w' | exact k3 w' | exact k4 w'))); (apply ol_val; rfl; apply stp_pur; first | (apply s_pick_t; rfl; exact qA; rfl) | (apply s_pick_f; rfl; exact qA; rfl)); (apply ol_mv; rfl; rfl); (first | (apply ol_gskip; rfl; rfl; exact qA; rfl) | (apply ol_gval; rfl; rfl; rfl; exact qA; apply stp_pur; apply s_fieldAddr'; rfl; exact fd_28_2; exact qZ)); (first | (apply ol_gskip; rfl; rfl; exact qA; rfl) | (apply ol_gval; rfl; rfl; rfl; exact qA; apply stp_pur; apply s_load1; rfl; rfl; exact qP)); (first | (apply ol_gskip; rfl; rfl; exact qA; rfl) | (apply ol_gval; rfl; rfl; rfl; exact qA; apply s_callv; rfl; exact gf_50; (intro w' hw'; first | exact k1 w' | exact k2 w' | exact k3 w' | exact k4 w'))); (apply ol_val; rfl; apply stp_pur; first | (apply s_pick_t; rfl; exact qA; rfl) | (apply s_pick_f; rfl; exact qA; rfl)); (apply ol_mv; rfl; rfl); (first | (apply ol_gskip; rfl; rfl; exact qA; rfl) | (apply ol_gval; rfl; rfl; rfl; exact qA; apply stp_pur; apply s_fieldAddr'; rfl; exact fd_28_3; exact qZ)); (first | (apply ol_gskip; rfl; rfl; exact qA; rfl) | (apply ol_gval; rfl; rfl; rfl; exact qA; apply stp_pur; apply s_load1; rfl; rfl; exact qP)); (first | (apply ol_gskip; rfl; rfl; exact qA; rfl) | (apply ol_gval; rfl; rfl; rfl; exact qA; apply s_callv; rfl; exact gf_50; (intro w' hw'; first | exact k1 w' | exact k2 w' | exact k3 w' | exact k4 w'))); (apply ol_val; rfl; apply stp_pur; first | (apply s_pick_t; rfl; exact qA; rfl) | (apply s_pick_f; rfl; exact qA; rfl)); (apply ol_mv; rfl; rfl); (first | (apply ol_gskip; rfl; rfl; exact qA; rfl) | (apply ol_gval; rfl; rfl; rfl; exact qA; apply stp_pur; apply s_fieldAddr'; rfl; exact fd_28_4; exact qZ)); (first | (apply ol_gskip; rfl; rfl; exact qA; rfl) | (apply ol_gval; rfl; rfl; rfl; exact qA; apply stp_pur; apply s_load1; rfl; rfl; exact qP)); (first | (apply ol_gskip; rfl; rfl; exact qA; rfl) | (apply ol_gval; rfl; rfl; rfl; exact qA; apply stp_pur; apply s_len; rfl; exact el_26)); (first | (apply ol_gskip; rfl; rfl; exact qA; rfl) | (apply ol_gval; rfl; rfl; rfl; exact qA; apply stp_cmp; apply s_leq; rfl; rfl; all_goals (intro hc25; try (exfalso; (first | exact hc25 rfl | omega))))); all_goals (apply ol_val; rfl; apply stp_pur; first | (apply s_pick_t; rfl; exact qA; rfl) | (apply s_pick_f; rfl; exact qA; rfl)); all_goals (apply ol_as; rfl; rfl); all_goals (apply ol_nil))
              | (apply cw_cond_true; rfl; exact qA)
              | (apply cw_cond_false; rfl; exact qA)
              | apply cw_skip
              | apply cw_ret
              | apply cw_block
              | apply cw_exit
            all_goals (refine ends [] (RVal.tmp rfl RVal.nil) Pick.nil ?_; rfl)
theorem rtransfers_spec {M : View} {w : World} (hM : View.le M (View.of w)) {n : Int} (hn : 1 ≤ n ∧ n ≤ 8) {l : List C3} {m : Nat} (hm : l.length = m) {a : Option Addr} {b o c : Nat} (s : SlA M C3.enc 3 a l b o) :
    FnC Try.prog 54 [.slice a m c, .int .i64 n] w (fun v _ => v = .bool (trB n l)) := by
  subst hm
  refine enterF (M := M) Try.func54 rfl rfl rfl rfl hM ?_
  unfold trB
  by_cases hl : l.length ≤ 300
  · rw [decide_eq_true hl, Bool.true_and]
    repeat' first
      | apply cw_seq
      | (refine cw_region_id 0 ?_; (apply ol_as; rfl; rfl); (apply ol_nil))
      | (refine cw_region_id 1 ?_; (apply ol_mv; rfl; rfl); (apply ol_val; rfl; apply stp_pur; apply s_len; rfl; exact el_22); (apply ol_val; rfl; apply stp_cmp; apply s_gtr; rfl; rfl; all_goals (intro hc8; try (exfalso; (first | exact hc8 rfl | omega)))); all_goals (apply ol_nil))
      | (refine cw_region_id 3 ?_; (apply ol_as; rfl; rfl); (apply ol_nil))
      | (apply cw_cond_true; rfl; exact qA)
      | (apply cw_cond_false; rfl; exact qA)
      | apply cw_skip
      | apply cw_ret
      | apply cw_block
      | apply cw_exit
    refine cw_loopK (σ := Nat) [0, 1] (by (repeat (first | exact Keep.nil | (apply Keep.cons; rfl)))) (fun i => [(5, .int .i64 i)]) (fun _ => M) (fun _ => []) (fun i => i ≤ l.length ∧ (l.take i).all (tfB n) = true) (fun i => l.length - i) 0 (by (repeat (first | exact trivial | refine And.intro rfl ?_))) (View.le.refl _) (by exact qK) ⟨Nat.zero_le _, rfl⟩ ?_
    rintro i ⟨hi, hall⟩
    by_cases hin : i < l.length
    · have hci := s.cells i hin
      have htk := List.take_succ_eq_append_getElem hin
      have hnext : tfB n l[i] = true → (l.take (i + 1)).all (tfB n) = true := fun h => by rw [htk, List.all_append, hall]; simp [h]
      have hbad : tfB n l[i] = false → l.all (tfB n) = false := fun h => all_false hin h
      clear htk
      generalize l[i] = x at *
      obtain ⟨f, t, q⟩ := x
      dsimp only [C3.enc] at hci
      have hnext : (inn f 0 (n - 1) && inn t 0 (n - 1) && !decide (f = t) && inn q 1 1125899906842624) = true → (l.take (i + 1)).all (tfB n) = true := hnext
      have hbad : (inn f 0 (n - 1) && inn t 0 (n - 1) && !decide (f = t) && inn q 1 1125899906842624) = false → l.all (tfB n) = false := hbad
      have c0 := hci.fld 0 rfl
      have c1 := hci.fld 1 rfl
      have c2 := hci.fld 2 rfl
      have k1 := fun (w' : World) => between_spec w' f 0 (n - 1)
      have k2 := fun (w' : World) => between_spec w' t 0 (n - 1)
      have k3 := fun (w' : World) => between_spec w' q 1 1125899906842624
      cases h1 : inn f 0 (n - 1) with
      | false =>
        rw [h1] at k1
        rw [hbad (by simp [h1])]
        repeat' first
          | apply cw_seq
          | (refine cw_region_id 4 ?_; (apply ol_mv; rfl; rfl); (apply ol_mv; rfl; rfl); (apply ol_val; rfl; apply stp_pur; apply s_len; rfl; exact el_22); (apply ol_val; rfl; apply stp_cmp; apply s_lss; rfl; rfl; all_goals (intro hc12; try (exfalso; (first | exact hc12 rfl | omega)))); all_goals (apply ol_nil))
          | (refine cw_draw (id := 6) 42 (.mv 0 (.mv 1 (.mv 2 (.mv 3 (.mv 4 (.mv 5 (.mv 6 (.fx 7 (.mv 8 (.mv 9 (.mv 10 (.mv 11 (.mv 12 (.mv 13 (.mv 14 (.mv 15 (.mv 16 (.fx 17 (.mv 18 (.mv 19 (.mv 20 (.mv 21 (.mv 22 (.mv 23 (.mv 24 (.mv 25 (.mv 26 (.mv 27 (.mv 28 (.mv 29 (.mv 30 (.mv 31 (.mv 32 (.mv 33 (.mv 34 (.mv 35 (.mv 36 (.mv 37 (.mv 38 (.fx 39 (.mv 40 (.mv 41 (PT.nil))))))))))))))))))))))))))))))))))))))))))) mixed (by kernel_rfl) ?_; (apply od_mv; rfl; rfl; apply s_move; rfl); (apply od_mv; rfl; rfl; apply s_move; rfl); (apply od_mv; rfl; rfl; first | (apply s_indexK; rfl; rfl; exact el_22; exact sz_61; (first | rfl | exact s.at_ (by omega)); omega) | (apply s_indexO; rfl; rfl; exact el_22; exact sz_61; (first | rfl | exact s.at_ (by omega)); omega)); (apply od_mv; rfl; rfl; apply s_fieldAddr'; rfl; exact fd_61_0; exact qZ); (apply od_mv; rfl; rfl; apply s_load1; rfl; rfl; (first | exact qP | (apply RdN.view; first | exact c0 | exact c1 | exact c2))); (apply od_mv; rfl; rfl; apply s_move; rfl); (apply od_mv; rfl; rfl; apply s_sub64; rfl; rfl; omega); (apply od_fx; (first | exact Wk.refl _ _ | exact qW); (apply fx_val; rfl; rfl; apply s_callv; rfl; exact gf_53; (intro w' hw'; first | exact k1 w' | exact k2 w' | exact k3 w'))); (apply od_mv; rfl; rfl; first | (apply s_not_t; rfl; exact qA) | (apply s_not_f; rfl; exact qA) | (apply s_not; rfl)); (apply od_mv; rfl; rfl; apply s_move; rfl); (first | (apply od_gskip; rfl; rfl; rfl; exact qA; rfl) | (apply od_gmv; rfl; rfl; rfl; exact qA; rfl; apply s_move; rfl)); (first | (apply od_gskip; rfl; rfl; rfl; exact qA; rfl) | (apply od_gmv; rfl; rfl; rfl; exact qA; rfl; apply s_move; rfl)); (first | (apply od_gskip; rfl; rfl; rfl; exact qA; rfl) | (apply od_gmv; rfl; rfl; rfl; exact qA; rfl; first | (apply s_indexK; rfl; rfl; exact el_22; exact sz_61; (first | rfl | exact s.at_ (by omega)); omega) | (apply s_indexO; rfl; rfl; exact el_22; exact sz_61; (first | rfl | exact s.at_ (by omega)); omega))); (first | (apply od_gskip; rfl; rfl; rfl; exact qA; rfl) | (apply od_gmv; rfl; rfl; rfl; exact qA; rfl; apply s_fieldAddr'; rfl; exact fd_61_1; exact qZ)); (first | (apply od_gskip; rfl; rfl; rfl; exact qA; rfl) | (apply od_gmv; rfl; rfl; rfl; exact qA; rfl; apply s_load1; rfl; rfl; (first | exact qP | (apply RdN.view; first | exact c0 | exact c1 | exact c2)))); (first | (apply od_gskip; rfl; rfl; rfl; exact qA; rfl) | (apply od_gmv; rfl; rfl; rfl; exact qA; rfl; apply s_move; rfl)); (first | (apply od_gskip; rfl; rfl; rfl; exact qA; rfl) | (apply od_gmv; rfl; rfl; rfl; exact qA; rfl; apply s_sub64; rfl; rfl; omega)); (apply od_fx; (first | exact Wk.refl _ _ | exact qW); (first | (apply fx_gskip; rfl; rfl; rfl; exact qA; rfl) | (apply fx_gval; rfl; rfl; rfl; exact qA; rfl; apply s_callv; rfl; exact gf_53; (intro w' hw'; first | exact k1 w' | exact k2 w' | exact k3 w')))); (first | (apply od_gskip; rfl; rfl; rfl; exact qA; rfl) | (apply od_gmv; rfl; rfl; rfl; exact qA; rfl; first | (apply s_not_t; rfl; exact qA) | (apply s_not_f; rfl; exact qA) | (apply s_not; rfl))); (apply od_mv; rfl; rfl; first | (apply s_pick_t; rfl; exact qA; rfl) | (apply s_pick_f; rfl; exact qA; rfl)); (apply od_mv; rfl; rfl; apply s_move; rfl); (first | (apply od_gskip; rfl; rfl; rfl; exact qA; rfl) | (apply od_gmv; rfl; rfl; rfl; exact qA; rfl; apply s_move; rfl)); (first | (apply od_gskip; rfl; rfl; rfl; exact qA; rfl) | (apply od_gmv; rfl; rfl; rfl; exact qA; rfl; apply s_move; rfl)); (first | (apply od_gskip; rfl; rfl; rfl; exact qA; rfl) | (apply od_gmv; rfl; rfl; rfl; exact qA; rfl; first | (apply s_indexK; rfl; rfl; exact el_22; exact sz_61; (first | rfl | exact s.at_ (by omega)); omega) | (apply s_indexO; rfl; rfl; exact el_22; exact sz_61; (first | rfl | exact s.at_ (by omega)); omega))); (first | (apply od_gskip; rfl; rfl; rfl; exact qA; rfl) | (apply od_gmv; rfl; rfl; rfl; exact qA; rfl; apply s_fieldAddr'; rfl; exact fd_61_0; exact qZ)); (first | (apply od_gskip; rfl; rfl; rfl; exact qA; rfl) | (apply od_gmv; rfl; rfl; rfl; exact qA; rfl; apply s_load1; rfl; rfl; (first | exact qP | (apply RdN.view; first | exact c0 | exact c1 | exact c2)))); (first | (apply od_gskip; rfl; rfl; rfl; exact qA; rfl) | (apply od_gmv; rfl; rfl; rfl; exact qA; rfl; apply s_move; rfl)); (first | (apply od_gskip; rfl; rfl; rfl; exact qA; rfl) | (apply od_gmv; rfl; rfl; rfl; exact qA; rfl; apply s_move; rfl)); (first | (apply od_gskip; rfl; rfl; rfl; exact qA; rfl) | (apply od_gmv; rfl; rfl; rfl; exact qA; rfl; first | (apply s_indexK; rfl; rfl; exact el_22; exact sz_61; (first | rfl | exact s.at_ (by omega)); omega) | (apply s_indexO; rfl; rfl; exact el_22; exact sz_61; (first | rfl | exact s.at_ (by omega)); omega))); (first | (apply od_gskip; rfl; rfl; rfl; exact qA; rfl) | (apply od_gmv; rfl; rfl; rfl; exact qA; rfl; apply s_fieldAddr'; rfl; exact fd_61_1; exact qZ)); (first | (apply od_gskip; rfl; rfl; rfl; exact qA; rfl) | (apply od_gmv; rfl; rfl; rfl; exact qA; rfl; apply s_load1; rfl; rfl; (first | exact qP | (apply RdN.view; first | exact c0 | exact c1 | exact c2)))); (first | (apply od_gskip; rfl; rfl; rfl; exact qA; rfl) | (apply od_gcmp; rfl; rfl; rfl; exact qA; rfl; apply s_eql; rfl; rfl; all_goals (intro hc46; try (exfalso; (first | exact hc46 rfl | omega))))); all_goals (apply od_mv; rfl; rfl; first | (apply s_pick_t; rfl; exact qA; rfl) | (apply s_pick_f; rfl; exact qA; rfl)); all_goals (apply od_mv; rfl; rfl; apply s_move; rfl); all_goals (first | (apply od_gskip; rfl; rfl; rfl; exact qA; rfl) | (apply od_gmv; rfl; rfl; rfl; exact qA; rfl; apply s_move; rfl)); all_goals (first | (apply od_gskip; rfl; rfl; rfl; exact qA; rfl) | (apply od_gmv; rfl; rfl; rfl; exact qA; rfl; apply s_move; rfl)); all_goals (first | (apply od_gskip; rfl; rfl; rfl; exact qA; rfl) | (apply od_gmv; rfl; rfl; rfl; exact qA; rfl; first | (apply s_indexK; rfl; rfl; exact el_22; exact sz_61; (first | rfl | exact s.at_ (by omega)); omega) | (apply s_indexO; rfl; rfl; exact el_22; exact sz_61; (first | rfl | exact s.at_ (by omega)); omega))); all_goals (first | (apply od_gskip; rfl; rfl; rfl; exact qA; rfl) | (apply od_gmv; rfl; rfl; rfl; exact qA; rfl; apply s_fieldAddr'; rfl; exact fd_61_2; exact qZ)); all_goals (first | (apply od_gskip; rfl; rfl; rfl; exact qA; rfl) | (apply od_gmv; rfl; rfl; rfl; exact qA; rfl; apply s_load1; rfl; rfl; (first | exact qP | (apply RdN.view; first | exact c0 | exact c1 | exact c2)))); all_goals (apply od_fx; (first | exact Wk.refl _ _ | exact qW); (first | (apply fx_gskip; rfl; rfl; rfl; exact qA; rfl) | (apply fx_gval; rfl; rfl; rfl; exact qA; rfl; apply s_callv; rfl; exact gf_53; (intro w' hw'; first | exact k1 w' | exact k2 w' | exact k3 w')))); all_goals (first | (apply od_gskip; rfl; rfl; rfl; exact qA; rfl) | (apply od_gmv; rfl; rfl; rfl; exact qA; rfl; first | (apply s_not_t; rfl; exact qA) | (apply s_not_f; rfl; exact qA) | (apply s_not; rfl))); all_goals (apply od_mv; rfl; rfl; first | (apply s_pick_t; rfl; exact qA; rfl) | (apply s_pick_f; rfl; exact qA; rfl)); all_goals (apply od_nil; (first | exact Wk.refl _ _ | exact qW)); all_goals (apply ol_nil))
          | (refine cw_region_id 7 ?_; (apply ol_as; rfl; rfl); (apply ol_nil))
          | (apply cw_cond_true; rfl; exact qA)
          | (apply cw_cond_false; rfl; exact qA)
          | apply cw_skip
          | apply cw_ret
          | apply cw_block
          | apply cw_exit
        all_goals (refine ends [] (RVal.tmp rfl RVal.nil) Pick.nil ?_; rfl)
      | true =>
        rw [h1] at k1
        cases h2 : inn t 0 (n - 1) with
        | false =>
          rw [h2] at k2
          rw [hbad (by simp [h2])]
          repeat' first
            | apply cw_seq
            | (refine cw_region_id 4 ?_; (apply ol_mv; rfl; rfl); (apply ol_mv; rfl; rfl); (apply ol_val; rfl; apply stp_pur; apply s_len; rfl; exact el_22); (apply ol_val; rfl; apply stp_cmp; apply s_lss; rfl; rfl; all_goals (intro hc12; try (exfalso; (first | exact hc12 rfl | omega)))); all_goals (apply ol_nil))
            | (refine cw_draw (id := 6) 42 (.mv 0 (.mv 1 (.mv 2 (.mv 3 (.mv 4 (.mv 5 (.mv 6 (.fx 7 (.mv 8 (.mv 9 (.mv 10 (.mv 11 (.mv 12 (.mv 13 (.mv 14 (.mv 15 (.mv 16 (.fx 17 (.mv 18 (.mv 19 (.mv 20 (.mv 21 (.mv 22 (.mv 23 (.mv 24 (.mv 25 (.mv 26 (.mv 27 (.mv 28 (.mv 29 (.mv 30 (.mv 31 (.mv 32 (.mv 33 (.mv 34 (.mv 35 (.mv 36 (.mv 37 (.mv 38 (.fx 39 (.mv 40 (.mv 41 (PT.nil))))))))))))))))))))))))))))))))))))))))))) mixed (by kernel_rfl) ?_; (apply od_mv; rfl; rfl; apply s_move; rfl); (apply od_mv; rfl; rfl; apply s_move; rfl); (apply od_mv; rfl; rfl; first | (apply s_indexK; rfl; rfl; exact el_22; exact sz_61; (first | rfl | exact s.at_ (by omega)); omega) | (apply s_indexO; rfl; rfl; exact el_22; exact sz_61; (first | rfl | exact s.at_ (by omega)); omega)); (apply od_mv; rfl; rfl; apply s_fieldAddr'; rfl; exact fd_61_0; exact qZ); (apply od_mv; rfl; rfl; apply s_load1; rfl; rfl; (first | exact qP | (apply RdN.view; first | exact c0 | exact c1 | exact c2))); (apply od_mv; rfl; rfl; apply s_move; rfl); (apply od_mv; rfl; rfl; apply s_sub64; rfl; rfl; omega); (apply od_fx; (first | exact Wk.refl _ _ | exact qW); (apply fx_val; rfl; rfl; apply s_callv; rfl; exact gf_53; (intro w' hw'; first | exact k1 w' | exact k2 w' | exact k3 w'))); (apply od_mv; rfl; rfl; first | (apply s_not_t; rfl; exact qA) | (apply s_not_f; rfl; exact qA) | (apply s_not; rfl)); (apply od_mv; rfl; rfl; apply s_move; rfl); (first | (apply od_gskip; rfl; rfl; rfl; exact qA; rfl) | (apply od_gmv; rfl; rfl; rfl; exact qA; rfl; apply s_move; rfl)); (first | (apply od_gskip; rfl; rfl; rfl; exact qA; rfl) | (apply od_gmv; rfl; rfl; rfl; exact qA; rfl; apply s_move; rfl)); (first | (apply od_gskip; rfl; rfl; rfl; exact qA; rfl) | (apply od_gmv; rfl; rfl; rfl; exact qA; rfl; first | (apply s_indexK; rfl; rfl; exact el_22; exact sz_61; (first | rfl | exact s.at_ (by omega)); omega) | (apply s_indexO; rfl; rfl; exact el_22; exact sz_61; (first | rfl | exact s.at_ (by omega)); omega))); (first | (apply od_gskip; rfl; rfl; rfl; exact qA; rfl) | (apply od_gmv; rfl; rfl; rfl; exact qA; rfl; apply s_fieldAddr'; rfl; exact fd_61_1; exact qZ)); (first | (apply od_gskip; rfl; rfl; rfl; exact qA; rfl) | (apply od_gmv; rfl; rfl; rfl; exact qA; rfl; apply s_load1; rfl; rfl; (first | exact qP | (apply RdN.view; first | exact c0 | exact c1 | exact c2)))); (first | (apply od_gskip; rfl; rfl; rfl; exact qA; rfl) | (apply od_gmv; rfl; rfl; rfl; exact qA; rfl; apply s_move; rfl)); (first | (apply od_gskip; rfl; rfl; rfl; exact qA; rfl) | (apply od_gmv; rfl; rfl; rfl; exact qA; rfl; apply s_sub64; rfl; rfl; omega)); (apply od_fx; (first | exact Wk.refl _ _ | exact qW); (first | (apply fx_gskip; rfl; rfl; rfl; exact qA; rfl) | (apply fx_gval; rfl; rfl; rfl; exact qA; rfl; apply s_callv; rfl; exact gf_53; (intro w' hw'; first | exact k1 w' | exact k2 w' | exact k3 w')))); (first | (apply od_gskip; rfl; rfl; rfl; exact qA; rfl) | (apply od_gmv; rfl; rfl; rfl; exact qA; rfl; first | (apply s_not_t; rfl; exact qA) | (apply s_not_f; rfl; exact qA) | (apply s_not; rfl))); (apply od_mv; rfl; rfl; first | (apply s_pick_t; rfl; exact qA; rfl) | (apply s_pick_f; rfl; exact qA; rfl)); (apply od_mv; rfl; rfl; apply s_move; rfl); (first | (apply od_gskip; rfl; rfl; rfl; exact qA; rfl) | (apply od_gmv; rfl; rfl; rfl; exact qA; rfl; apply s_move; rfl)); (first | (apply od_gskip; rfl; rfl; rfl; exact qA; rfl) | (apply od_gmv; rfl; rfl; rfl; exact qA; rfl; apply s_move; rfl)); (first | (apply od_gskip; rfl; rfl; rfl; exact qA; rfl) | (apply od_gmv; rfl; rfl; rfl; exact qA; rfl; first | (apply s_indexK; rfl; rfl; exact el_22; exact sz_61; (first | rfl | exact s.at_ (by omega)); omega) | (apply s_indexO; rfl; rfl; exact el_22; exact sz_61; (first | rfl | exact s.at_ (by omega)); omega))); (first | (apply od_gskip; rfl; rfl; rfl; exact qA; rfl) | (apply od_gmv; rfl; rfl; rfl; exact qA; rfl; apply s_fieldAddr'; rfl; exact fd_61_0; exact qZ)); (first | (apply od_gskip; rfl; rfl; rfl; exact qA; rfl) | (apply od_gmv; rfl; rfl; rfl; exact qA; rfl; apply s_load1; rfl; rfl; (first | exact qP | (apply RdN.view; first | exact c0 | exact c1 | exact c2)))); (first | (apply od_gskip; rfl; rfl; rfl; exact qA; rfl) | (apply od_gmv; rfl; rfl; rfl; exact qA; rfl; apply s_move; rfl)); (first | (apply od_gskip; rfl; rfl; rfl; exact qA; rfl) | (apply od_gmv; rfl; rfl; rfl; exact qA; rfl; apply s_move; rfl)); (first | (apply od_gskip; rfl; rfl; rfl; exact qA; rfl) | (apply od_gmv; rfl; rfl; rfl; exact qA; rfl; first | (apply s_indexK; rfl; rfl; exact el_22; exact sz_61; (first | rfl | exact s.at_ (by omega)); omega) | (apply s_indexO; rfl; rfl; exact el_22; exact sz_61; (first | rfl | exact s.at_ (by omega)); omega))); (first | (apply od_gskip; rfl; rfl; rfl; exact qA; rfl) | (apply od_gmv; rfl; rfl; rfl; exact qA; rfl; apply s_fieldAddr'; rfl; exact fd_61_1; exact qZ)); (first | (apply od_gskip; rfl; rfl; rfl; exact qA; rfl) | (apply od_gmv; rfl; rfl; rfl; exact qA; rfl; apply s_load1; rfl; rfl; (first | exact qP | (apply RdN.view; first | exact c0 | exact c1 | exact c2)))); (first | (apply od_gskip; rfl; rfl; rfl; exact qA; rfl) | (apply od_gcmp; rfl; rfl; rfl; exact qA; rfl; apply s_eql; rfl; rfl; all_goals (intro hc46; try (exfalso; (first | exact hc46 rfl | omega))))); all_goals (apply od_mv; rfl; rfl; first | (apply s_pick_t; rfl; exact qA; rfl) | (apply s_pick_f; rfl; exact qA; rfl)); all_goals (apply od_mv; rfl; rfl; apply s_move; rfl); all_goals (first | (apply od_gskip; rfl; rfl; rfl; exact qA; rfl) | (apply od_gmv; rfl; rfl; rfl; exact qA; rfl; apply s_move; rfl)); all_goals (first | (apply od_gskip; rfl; rfl; rfl; exact qA; rfl) | (apply od_gmv; rfl; rfl; rfl; exact qA; rfl; apply s_move; rfl)); all_goals (first | (apply od_gskip; rfl; rfl; rfl; exact qA; rfl) | (apply od_gmv; rfl; rfl; rfl; exact qA; rfl; first | (apply s_indexK; rfl; rfl; exact el_22; exact sz_61; (first | rfl | exact s.at_ (by omega)); omega) | (apply s_indexO; rfl; rfl; exact el_22; exact sz_61; (first | rfl | exact s.at_ (by omega)); omega))); all_goals (first | (apply od_gskip; rfl; rfl; rfl; exact qA; rfl) | (apply od_gmv; rfl; rfl; rfl; exact qA; rfl; apply s_fieldAddr'; rfl; exact fd_61_2; exact qZ)); all_goals (first | (apply od_gskip; rfl; rfl; rfl; exact qA; rfl) | (apply od_gmv; rfl; rfl; rfl; exact qA; rfl; apply s_load1; rfl; rfl; (first | exact qP | (apply RdN.view; first | exact c0 | exact c1 | exact c2)))); all_goals (apply od_fx; (first | exact Wk.refl _ _ | exact qW); (first | (apply fx_gskip; rfl; rfl; rfl; exact qA; rfl) | (apply fx_gval; rfl; rfl; rfl; exact qA; rfl; apply s_callv; rfl; exact gf_53; (intro w' hw'; first | exact k1 w' | exact k2 w' | exact k3 w')))); all_goals (first | (apply od_gskip; rfl; rfl; rfl; exact qA; rfl) | (apply od_gmv; rfl; rfl; rfl; exact qA; rfl; first | (apply s_not_t; rfl; exact qA) | (apply s_not_f; rfl; exact qA) | (apply s_not; rfl))); all_goals (apply od_mv; rfl; rfl; first | (apply s_pick_t; rfl; exact qA; rfl) | (apply s_pick_f; rfl; exact qA; rfl)); all_goals (apply od_nil; (first | exact Wk.refl _ _ | exact qW)); all_goals (apply ol_nil))
            | (refine cw_region_id 7 ?_; (apply ol_as; rfl; rfl); (apply ol_nil))
            | (apply cw_cond_true; rfl; exact qA)
            | (apply cw_cond_false; rfl; exact qA)
            | apply cw_skip
            | apply cw_ret
            | apply cw_block
            | apply cw_exit
          all_goals (refine ends [] (RVal.tmp rfl RVal.nil) Pick.nil ?_; rfl)
        | true =>
          rw [h2] at k2
          by_cases h3 : f = t
          · rw [hbad (by simp [h3])]
            subst h3
            repeat' first
              | apply cw_seq
              | (refine cw_region_id 4 ?_; (apply ol_mv; rfl; rfl); (apply ol_mv; rfl; rfl); (apply ol_val; rfl; apply stp_pur; apply s_len; rfl; exact el_22); (apply ol_val; rfl; apply stp_cmp; apply s_lss; rfl; rfl; all_goals (intro hc12; try (exfalso; (first | exact hc12 rfl | omega)))); all_goals (apply ol_nil))
              | (refine cw_draw (id := 6) 42 (.mv 0 (.mv 1 (.mv 2 (.mv 3 (.mv 4 (.mv 5 (.mv 6 (.fx 7 (.mv 8 (.mv 9 (.mv 10 (.mv 11 (.mv 12 (.mv 13 (.mv 14 (.mv 15 (.mv 16 (.fx 17 (.mv 18 (.mv 19 (.mv 20 (.mv 21 (.mv 22 (.mv 23 (.mv 24 (.mv 25 (.mv 26 (.mv 27 (.mv 28 (.mv 29 (.mv 30 (.mv 31 (.mv 32 (.mv 33 (.mv 34 (.mv 35 (.mv 36 (.mv 37 (.mv 38 (.fx 39 (.mv 40 (.mv 41 (PT.nil))))))))))))))))))))))))))))))))))))))))))) mixed (by kernel_rfl) ?_; (apply od_mv; rfl; rfl; apply s_move; rfl); (apply od_mv; rfl; rfl; apply s_move; rfl); (apply od_mv; rfl; rfl; first | (apply s_indexK; rfl; rfl; exact el_22; exact sz_61; (first | rfl | exact s.at_ (by omega)); omega) | (apply s_indexO; rfl; rfl; exact el_22; exact sz_61; (first | rfl | exact s.at_ (by omega)); omega)); (apply od_mv; rfl; rfl; apply s_fieldAddr'; rfl; exact fd_61_0; exact qZ); (apply od_mv; rfl; rfl; apply s_load1; rfl; rfl; (first | exact qP | (apply RdN.view; first | exact c0 | exact c1 | exact c2))); (apply od_mv; rfl; rfl; apply s_move; rfl); (apply od_mv; rfl; rfl; apply s_sub64; rfl; rfl; omega); (apply od_fx; (first | exact Wk.refl _ _ | exact qW); (apply fx_val; rfl; rfl; apply s_callv; rfl; exact gf_53; (intro w' hw'; first | exact k1 w' | exact k2 w' | exact k3 w'))); (apply od_mv; rfl; rfl; first | (apply s_not_t; rfl; exact qA) | (apply s_not_f; rfl; exact qA) | (apply s_not; rfl)); (apply od_mv; rfl; rfl; apply s_move; rfl); (first | (apply od_gskip; rfl; rfl; rfl; exact qA; rfl) | (apply od_gmv; rfl; rfl; rfl; exact qA; rfl; apply s_move; rfl)); (first | (apply od_gskip; rfl; rfl; rfl; exact qA; rfl) | (apply od_gmv; rfl; rfl; rfl; exact qA; rfl; apply s_move; rfl)); (first | (apply od_gskip; rfl; rfl; rfl; exact qA; rfl) | (apply od_gmv; rfl; rfl; rfl; exact qA; rfl; first | (apply s_indexK; rfl; rfl; exact el_22; exact sz_61; (first | rfl | exact s.at_ (by omega)); omega) | (apply s_indexO; rfl; rfl; exact el_22; exact sz_61; (first | rfl | exact s.at_ (by omega)); omega))); (first | (apply od_gskip; rfl; rfl; rfl; exact qA; rfl) | (apply od_gmv; rfl; rfl; rfl; exact qA; rfl; apply s_fieldAddr'; rfl; exact fd_61_1; exact qZ)); (first | (apply od_gskip; rfl; rfl; rfl; exact qA; rfl) | (apply od_gmv; rfl; rfl; rfl; exact qA; rfl; apply s_load1; rfl; rfl; (first | exact qP | (apply RdN.view; first | exact c0 | exact c1 | exact c2)))); (first | (apply od_gskip; rfl; rfl; rfl; exact qA; rfl) | (apply od_gmv; rfl; rfl; rfl; exact qA; rfl; apply s_move; rfl)); (first | (apply od_gskip; rfl; rfl; rfl; exact qA; rfl) | (apply od_gmv; rfl; rfl; rfl; exact qA; rfl; apply s_sub64; rfl; rfl; omega)); (apply od_fx; (first | exact Wk.refl _ _ | exact qW); (first | (apply fx_gskip; rfl; rfl; rfl; exact qA; rfl) | (apply fx_gval; rfl; rfl; rfl; exact qA; rfl; apply s_callv; rfl; exact gf_53; (intro w' hw'; first | exact k1 w' | exact k2 w' | exact k3 w')))); (first | (apply od_gskip; rfl; rfl; rfl; exact qA; rfl) | (apply od_gmv; rfl; rfl; rfl; exact qA; rfl; first | (apply s_not_t; rfl; exact qA) | (apply s_not_f; rfl; exact qA) | (apply s_not; rfl))); (apply od_mv; rfl; rfl; first | (apply s_pick_t; rfl; exact qA; rfl) | (apply s_pick_f; rfl; exact qA; rfl)); (apply od_mv; rfl; rfl; apply s_move; rfl); (first | (apply od_gskip; rfl; rfl; rfl; exact qA; rfl) | (apply od_gmv; rfl; rfl; rfl; exact qA; rfl; apply s_move; rfl)); (first | (apply od_gskip; rfl; rfl; rfl; exact qA; rfl) | (apply od_gmv; rfl; rfl; rfl; exact qA; rfl; apply s_move; rfl)); (first | (apply od_gskip; rfl; rfl; rfl; exact qA; rfl) | (apply od_gmv; rfl; rfl; rfl; exact qA; rfl; first | (apply s_indexK; rfl; rfl; exact el_22; exact sz_61; (first | rfl | exact s.at_ (by omega)); omega) | (apply s_indexO; rfl; rfl; exact el_22; exact sz_61; (first | rfl | exact s.at_ (by omega)); omega))); (first | (apply od_gskip; rfl; rfl; rfl; exact qA; rfl) | (apply od_gmv; rfl; rfl; rfl; exact qA; rfl; apply s_fieldAddr'; rfl; exact fd_61_0; exact qZ)); (first | (apply od_gskip; rfl; rfl; rfl; exact qA; rfl) | (apply od_gmv; rfl; rfl; rfl; exact qA; rfl; apply s_load1; rfl; rfl; (first | exact qP | (apply RdN.view; first | exact c0 | exact c1 | exact c2)))); (first | (apply od_gskip; rfl; rfl; rfl; exact qA; rfl) | (apply od_gmv; rfl; rfl; rfl; exact qA; rfl; apply s_move; rfl)); (first | (apply od_gskip; rfl; rfl; rfl; exact qA; rfl) | (apply od_gmv; rfl; rfl; rfl; exact qA; rfl; apply s_move; rfl)); (first | (apply od_gskip; rfl; rfl; rfl; exact qA; rfl) | (apply od_gmv; rfl; rfl; rfl; exact qA; rfl; first | (apply s_indexK; rfl; rfl; exact el_22; exact sz_61; (first | rfl | exact s.at_ (by omega)); omega) | (apply s_indexO; rfl; rfl; exact el_22; exact sz_61; (first | rfl | exact s.at_ (by omega)); omega))); (first | (apply od_gskip; rfl; rfl; rfl; exact qA; rfl) | (apply od_gmv; rfl; rfl; rfl; exact qA; rfl; apply s_fieldAddr'; rfl; exact fd_61_1; exact qZ)); (first | (apply od_gskip; rfl; rfl; rfl; exact qA; rfl) | (apply od_gmv; rfl; rfl; rfl; exact qA; rfl; apply s_load1; rfl; rfl; (first | exact qP | (apply RdN.view; first | exact c0 | exact c1 | exact c2)))); (first | (apply od_gskip; rfl; rfl; rfl; exact qA; rfl) | (apply od_gcmp; rfl; rfl; rfl; exact qA; rfl; apply s_eql; rfl; rfl; all_goals (intro hc46; try (exfalso; (first | exact hc46 rfl | omega))))); all_goals (apply od_mv; rfl; rfl; first | (apply s_pick_t; rfl; exact qA; rfl) | (apply s_pick_f; rfl; exact qA; rfl)); all_goals (apply od_mv; rfl; rfl; apply s_move; rfl); all_goals (first | (apply od_gskip; rfl; rfl; rfl; exact qA; rfl) | (apply od_gmv; rfl; rfl; rfl; exact qA; rfl; apply s_move; rfl)); all_goals (first | (apply od_gskip; rfl; rfl; rfl; exact qA; rfl) | (apply od_gmv; rfl; rfl; rfl; exact qA; rfl; apply s_move; rfl)); all_goals (first | (apply od_gskip; rfl; rfl; rfl; exact qA; rfl) | (apply od_gmv; rfl; rfl; rfl; exact qA; rfl; first | (apply s_indexK; rfl; rfl; exact el_22; exact sz_61; (first | rfl | exact s.at_ (by omega)); omega) | (apply s_indexO; rfl; rfl; exact el_22; exact sz_61; (first | rfl | exact s.at_ (by omega)); omega))); all_goals (first | (apply od_gskip; rfl; rfl; rfl; exact qA; rfl) | (apply od_gmv; rfl; rfl; rfl; exact qA; rfl; apply s_fieldAddr'; rfl; exact fd_61_2; exact qZ)); all_goals (first | (apply od_gskip; rfl; rfl; rfl; exact qA; rfl) | (apply od_gmv; rfl; rfl; rfl; exact qA; rfl; apply s_load1; rfl; rfl; (first | exact qP | (apply RdN.view; first | exact c0 | exact c1 | exact c2)))); all_goals (apply od_fx; (first | exact Wk.refl _ _ | exact qW); (first | (apply fx_gskip; rfl; rfl; rfl; exact qA; rfl) | (apply fx_gval; rfl; rfl; rfl; exact qA; rfl; apply s_callv; rfl; exact gf_53; (intro w' hw'; first | exact k1 w' | exact k2 w' | exact k3 w')))); all_goals (first | (apply od_gskip; rfl; rfl; rfl; exact qA; rfl) | (apply od_gmv; rfl; rfl; rfl; exact qA; rfl; first | (apply s_not_t; rfl; exact qA) | (apply s_not_f; rfl; exact qA) | (apply s_not; rfl))); all_goals (apply od_mv; rfl; rfl; first | (apply s_pick_t; rfl; exact qA; rfl) | (apply s_pick_f; rfl; exact qA; rfl)); all_goals (apply od_nil; (first | exact Wk.refl _ _ | exact qW)); all_goals (apply ol_nil))
              | (refine cw_region_id 7 ?_; (apply ol_as; rfl; rfl); (apply ol_nil))
              | (apply cw_cond_true; rfl; exact qA)
              | (apply cw_cond_false; rfl; exact qA)
              | apply cw_skip
              | apply cw_ret
              | apply cw_block
              | apply cw_exit
            all_goals (refine ends [] (RVal.tmp rfl RVal.nil) Pick.nil ?_; rfl)
          · cases h4 : inn q 1 1125899906842624 with
            | false =>
              rw [h4] at k3
              rw [hbad (by simp [h4])]
              repeat' first
                | apply cw_seq
                | (refine cw_region_id 4 ?_; (apply ol_mv; rfl; rfl); (apply ol_mv; rfl; rfl); (apply ol_val; rfl; apply stp_pur; apply s_len; rfl; exact el_22); (apply ol_val; rfl; apply stp_cmp; apply s_lss; rfl; rfl; all_goals (intro hc12; try (exfalso; (first | exact hc12 rfl | omega | exact h3 (by assumption))))); all_goals (apply ol_nil))
                | (refine cw_draw (id := 6) 42 (.mv 0 (.mv 1 (.mv 2 (.mv 3 (.mv 4 (.mv 5 (.mv 6 (.fx 7 (.mv 8 (.mv 9 (.mv 10 (.mv 11 (.mv 12 (.mv 13 (.mv 14 (.mv 15 (.mv 16 (.fx 17 (.mv 18 (.mv 19 (.mv 20 (.mv 21 (.mv 22 (.mv 23 (.mv 24 (.mv 25 (.mv 26 (.mv 27 (.mv 28 (.mv 29 (.mv 30 (.mv 31 (.mv 32 (.mv 33 (.mv 34 (.mv 35 (.mv 36 (.mv 37 (.mv 38 (.fx 39 (.mv 40 (.mv 41 (PT.nil))))))))))))))))))))))))))))))))))))))))))) mixed (by kernel_rfl) ?_; (apply od_mv; rfl; rfl; apply s_move; rfl); (apply od_mv; rfl; rfl; apply s_move; rfl); (apply od_mv; rfl; rfl; first | (apply s_indexK; rfl; rfl; exact el_22; exact sz_61; (first | rfl | exact s.at_ (by omega)); omega) | (apply s_indexO; rfl; rfl; exact el_22; exact sz_61; (first | rfl | exact s.at_ (by omega)); omega)); (apply od_mv; rfl; rfl; apply s_fieldAddr'; rfl; exact fd_61_0; exact qZ); (apply od_mv; rfl; rfl; apply s_load1; rfl; rfl; (first | exact qP | (apply RdN.view; first | exact c0 | exact c1 | exact c2))); (apply od_mv; rfl; rfl; apply s_move; rfl); (apply od_mv; rfl; rfl; apply s_sub64; rfl; rfl; omega); (apply od_fx; (first | exact Wk.refl _ _ | exact qW); (apply fx_val; rfl; rfl; apply s_callv; rfl; exact gf_53; (intro w' hw'; first | exact k1 w' | exact k2 w' | exact k3 w'))); (apply od_mv; rfl; rfl; first | (apply s_not_t; rfl; exact qA) | (apply s_not_f; rfl; exact qA) | (apply s_not; rfl)); (apply od_mv; rfl; rfl; apply s_move; rfl); (first | (apply od_gskip; rfl; rfl; rfl; exact qA; rfl) | (apply od_gmv; rfl; rfl; rfl; exact qA; rfl; apply s_move; rfl)); (first | (apply od_gskip; rfl; rfl; rfl; exact qA; rfl) | (apply od_gmv; rfl; rfl; rfl; exact qA; rfl; apply s_move; rfl)); (first | (apply od_gskip; rfl; rfl; rfl; exact qA; rfl) | (apply od_gmv; rfl; rfl; rfl; exact qA; rfl; first | (apply s_indexK; rfl; rfl; exact el_22; exact sz_61; (first | rfl | exact s.at_ (by omega)); omega) | (apply s_indexO; rfl; rfl; exact el_22; exact sz_61; (first | rfl | exact s.at_ (by omega)); omega))); (first | (apply od_gskip; rfl; rfl; rfl; exact qA; rfl) | (apply od_gmv; rfl; rfl; rfl; exact qA; rfl; apply s_fieldAddr'; rfl; exact fd_61_1; exact qZ)); (first | (apply od_gskip; rfl; rfl; rfl; exact qA; rfl) | (apply od_gmv; rfl; rfl; rfl; exact qA; rfl; apply s_load1; rfl; rfl; (first | exact qP | (apply RdN.view; first | exact c0 | exact c1 | exact c2)))); (first | (apply od_gskip; rfl; rfl; rfl; exact qA; rfl) | (apply od_gmv; rfl; rfl; rfl; exact qA; rfl; apply s_move; rfl)); (first | (apply od_gskip; rfl; rfl; rfl; exact qA; rfl) | (apply od_gmv; rfl; rfl; rfl; exact qA; rfl; apply s_sub64; rfl; rfl; omega)); (apply od_fx; (first | exact Wk.refl _ _ | exact qW); (first | (apply fx_gskip; rfl; rfl; rfl; exact qA; rfl) | (apply fx_gval; rfl; rfl; rfl; exact qA; rfl; apply s_callv; rfl; exact gf_53; (intro w' hw'; first | exact k1 w' | exact k2 w' | exact k3 w')))); (first | (apply od_gskip; rfl; rfl; rfl; exact qA; rfl) | (apply od_gmv; rfl; rfl; rfl; exact qA; rfl; first | (apply s_not_t; rfl; exact qA) | (apply s_not_f; rfl; exact qA) | (apply s_not; rfl))); (apply od_mv; rfl; rfl; first | (apply s_pick_t; rfl; exact qA; rfl) | (apply s_pick_f; rfl; exact qA; rfl)); (apply od_mv; rfl; rfl; apply s_move; rfl); (first | (apply od_gskip; rfl; rfl; rfl; exact qA; rfl) | (apply od_gmv; rfl; rfl; rfl; exact qA; rfl; apply s_move; rfl)); (first | (apply od_gskip; rfl; rfl; rfl; exact qA; rfl) | (apply od_gmv; rfl; rfl; rfl; exact qA; rfl; apply s_move; rfl)); (first | (apply od_gskip; rfl; rfl; rfl; exact qA; rfl) | (apply od_gmv; rfl; rfl; rfl; exact qA; rfl; first | (apply s_indexK; rfl; rfl; exact el_22; exact sz_61; (first | rfl | exact s.at_ (by omega)); omega) | (apply s_indexO; rfl; rfl; exact el_22; exact sz_61; (first | rfl | exact s.at_ (by omega)); omega))); (first | (apply od_gskip; rfl; rfl; rfl; exact qA; rfl) | (apply od_gmv; rfl; rfl; rfl; exact qA; rfl; apply s_fieldAddr'; rfl; exact fd_61_0; exact qZ)); (first | (apply od_gskip; rfl; rfl; rfl; exact qA; rfl) | (apply od_gmv; rfl; rfl; rfl; exact qA; rfl; apply s_load1; rfl; rfl; (first | exact qP | (apply RdN.view; first | exact c0 | exact c1 | exact c2)))); (first | (apply od_gskip; rfl; rfl; rfl; exact qA; rfl) | (apply od_gmv; rfl; rfl; rfl; exact qA; rfl; apply s_move; rfl)); (first | (apply od_gskip; rfl; rfl; rfl; exact qA; rfl) | (apply od_gmv; rfl; rfl; rfl; exact qA; rfl; apply s_move; rfl)); (first | (apply od_gskip; rfl; rfl; rfl; exact qA; rfl) | (apply od_gmv; rfl; rfl; rfl; exact qA; rfl; first | (apply s_indexK; rfl; rfl; exact el_22; exact sz_61; (first | rfl | exact s.at_ (by omega)); omega) | (apply s_indexO; rfl; rfl; exact el_22; exact sz_61; (first | rfl | exact s.at_ (by omega)); omega))); (first | (apply od_gskip; rfl; rfl; rfl; exact qA; rfl) | (apply od_gmv; rfl; rfl; rfl; exact qA; rfl; apply s_fieldAddr'; rfl; exact fd_61_1; exact qZ)); (first | (apply od_gskip; rfl; rfl; rfl; exact qA; rfl) | (apply od_gmv; rfl; rfl; rfl; exact qA; rfl; apply s_load1; rfl; rfl; (first | exact qP | (apply RdN.view; first | exact c0 | exact c1 | exact c2)))); (first | (apply od_gskip; rfl; rfl; rfl; exact qA; rfl) | (apply od_gcmp; rfl; rfl; rfl; exact qA; rfl; apply s_eql; rfl; rfl; all_goals (intro hc46; try (exfalso; (first | exact hc46 rfl | omega | exact h3 (by assumption)))))); all_goals (apply od_mv; rfl; rfl; first | (apply s_pick_t; rfl; exact qA; rfl) | (apply s_pick_f; rfl; exact qA; rfl)); all_goals (apply od_mv; rfl; rfl; apply s_move; rfl); all_goals (first | (apply od_gskip; rfl; rfl; rfl; exact qA; rfl) | (apply od_gmv; rfl; rfl; rfl; exact qA; rfl; apply s_move; rfl)); all_goals (first | (apply od_gskip; rfl; rfl; rfl; exact qA; rfl) | (apply od_gmv; rfl; rfl; rfl; exact qA; rfl; apply s_move; rfl)); all_goals (first | (apply od_gskip; rfl; rfl; rfl; exact qA; rfl) | (apply od_gmv; rfl; rfl; rfl; exact qA; rfl; first | (apply s_indexK; rfl; rfl; exact el_22; exact sz_61; (first | rfl | exact s.at_ (by omega)); omega) | (apply s_indexO; rfl; rfl; exact el_22; exact sz_61; (first | rfl | exact s.at_ (by omega)); omega))); all_goals (first | (apply od_gskip; rfl; rfl; rfl; exact qA; rfl) | (apply od_gmv; rfl; rfl; rfl; exact qA; rfl; apply s_fieldAddr'; rfl; exact fd_61_2; exact qZ)); all_goals (first | (apply od_gskip; rfl; rfl; rfl; exact qA; rfl) | (apply od_gmv; rfl; rfl; rfl; exact qA; rfl; apply s_load1; rfl; rfl; (first | exact qP | (apply RdN.view; first | exact c0 | exact c1 | exact c2)))); all_goals (apply od_fx; (first | exact Wk.refl _ _ | exact qW); (first | (apply fx_gskip; rfl; rfl; rfl; exact qA; rfl) | (apply fx_gval; rfl; rfl; rfl; exact qA; rfl; apply s_callv; rfl; exact gf_53; (intro w' hw'; first | exact k1 w' | exact k2 w' | exact k3 w')))); all_goals (first | (apply od_gskip; rfl; rfl; rfl; exact qA; rfl) | (apply od_gmv; rfl; rfl; rfl; exact qA; rfl; first | (apply s_not_t; rfl; exact qA) | (apply s_not_f; rfl; exact qA) | (apply s_not; rfl))); all_goals (apply od_mv; rfl; rfl; first | (apply s_pick_t; rfl; exact qA; rfl) | (apply s_pick_f; rfl; exact qA; rfl)); all_goals (apply od_nil; (first | exact Wk.refl _ _ | exact qW)); all_goals (apply ol_nil))
                | (refine cw_region_id 7 ?_; (apply ol_as; rfl; rfl); (apply ol_nil))
                | (apply cw_cond_true; rfl; exact qA)
                | (apply cw_cond_false; rfl; exact qA)
                | apply cw_skip
                | apply cw_ret
                | apply cw_block
                | apply cw_exit
              all_goals (refine ends [] (RVal.tmp rfl RVal.nil) Pick.nil ?_; rfl)
            | true =>
              rw [h4] at k3
              repeat' first
                | apply cw_seq
                | (refine cw_region_id 4 ?_; (apply ol_mv; rfl; rfl); (apply ol_mv; rfl; rfl); (apply ol_val; rfl; apply stp_pur; apply s_len; rfl; exact el_22); (apply ol_val; rfl; apply stp_cmp; apply s_lss; rfl; rfl; all_goals (intro hc12; try (exfalso; (first | exact hc12 rfl | omega | exact h3 (by assumption))))); all_goals (apply ol_nil))
                | (refine cw_draw (id := 6) 42 (.mv 0 (.mv 1 (.mv 2 (.mv 3 (.mv 4 (.mv 5 (.mv 6 (.fx 7 (.mv 8 (.mv 9 (.mv 10 (.mv 11 (.mv 12 (.mv 13 (.mv 14 (.mv 15 (.mv 16 (.fx 17 (.mv 18 (.mv 19 (.mv 20 (.mv 21 (.mv 22 (.mv 23 (.mv 24 (.mv 25 (.mv 26 (.mv 27 (.mv 28 (.mv 29 (.mv 30 (.mv 31 (.mv 32 (.mv 33 (.mv 34 (.mv 35 (.mv 36 (.mv 37 (.mv 38 (.fx 39 (.mv 40 (.mv 41 (PT.nil))))))))))))))))))))))))))))))))))))))))))) mixed (by kernel_rfl) ?_; (apply od_mv; rfl; rfl; apply s_move; rfl); (apply od_mv; rfl; rfl; apply s_move; rfl); (apply od_mv; rfl; rfl; first | (apply s_indexK; rfl; rfl; exact el_22; exact sz_61; (first | rfl | exact s.at_ (by omega)); omega) | (apply s_indexO; rfl; rfl; exact el_22; exact sz_61; (first | rfl | exact s.at_ (by omega)); omega)); (apply od_mv; rfl; rfl; apply s_fieldAddr'; rfl; exact fd_61_0; exact qZ); (apply od_mv; rfl; rfl; apply s_load1; rfl; rfl; (first | exact qP | (apply RdN.view; first | exact c0 | exact c1 | exact c2))); (apply od_mv; rfl; rfl; apply s_move; rfl); (apply od_mv; rfl; rfl; apply s_sub64; rfl; rfl; omega); (apply od_fx; (first | exact Wk.refl _ _ | exact qW); (apply fx_val; rfl; rfl; apply s_callv; rfl; exact gf_53; (intro w' hw'; first | exact k1 w' | exact k2 w' | exact k3 w'))); (apply od_mv; rfl; rfl; first | (apply s_not_t; rfl; exact qA) | (apply s_not_f; rfl; exact qA) | (apply s_not; rfl)); (apply od_mv; rfl; rfl; apply s_move; rfl); (first | (apply od_gskip; rfl; rfl; rfl; exact qA; rfl) | (apply od_gmv; rfl; rfl; rfl; exact qA; rfl; apply s_move; rfl)); (first | (apply od_gskip; rfl; rfl; rfl; exact qA; rfl) | (apply od_gmv; rfl; rfl; rfl; exact qA; rfl; apply s_move; rfl)); (first | (apply od_gskip; rfl; rfl; rfl; exact qA; rfl) | (apply od_gmv; rfl; rfl; rfl; exact qA; rfl; first | (apply s_indexK; rfl; rfl; exact el_22; exact sz_61; (first | rfl | exact s.at_ (by omega)); omega) | (apply s_indexO; rfl; rfl; exact el_22; exact sz_61; (first | rfl | exact s.at_ (by omega)); omega))); (first | (apply od_gskip; rfl; rfl; rfl; exact qA; rfl) | (apply od_gmv; rfl; rfl; rfl; exact qA; rfl; apply s_fieldAddr'; rfl; exact fd_61_1; exact qZ)); (first | (apply od_gskip; rfl; rfl; rfl; exact qA; rfl) | (apply od_gmv; rfl; rfl; rfl; exact qA; rfl; apply s_load1; rfl; rfl; (first | exact qP | (apply RdN.view; first | exact c0 | exact c1 | exact c2)))); (first | (apply od_gskip; rfl; rfl; rfl; exact qA; rfl) | (apply od_gmv; rfl; rfl; rfl; exact qA; rfl; apply s_move; rfl)); (first | (apply od_gskip; rfl; rfl; rfl; exact qA; rfl) | (apply od_gmv; rfl; rfl; rfl; exact qA; rfl; apply s_sub64; rfl; rfl; omega)); (apply od_fx; (first | exact Wk.refl _ _ | exact qW); (first | (apply fx_gskip; rfl; rfl; rfl; exact qA; rfl) | (apply fx_gval; rfl; rfl; rfl; exact qA; rfl; apply s_callv; rfl; exact gf_53; (intro w' hw'; first | exact k1 w' | exact k2 w' | exact k3 w')))); (first | (apply od_gskip; rfl; rfl; rfl; exact qA; rfl) | (apply od_gmv; rfl; rfl; rfl; exact qA; rfl; first | (apply s_not_t; rfl; exact qA) | (apply s_not_f; rfl; exact qA) | (apply s_not; rfl))); (apply od_mv; rfl; rfl; first | (apply s_pick_t; rfl; exact qA; rfl) | (apply s_pick_f; rfl; exact qA; rfl)); (apply od_mv; rfl; rfl; apply s_move; rfl); (first | (apply od_gskip; rfl; rfl; rfl; exact qA; rfl) | (apply od_gmv; rfl; rfl; rfl; exact qA; rfl; apply s_move; rfl)); (first | (apply od_gskip; rfl; rfl; rfl; exact qA; rfl) | (apply od_gmv; rfl; rfl; rfl; exact qA; rfl; apply s_move; rfl)); (first | (apply od_gskip; rfl; rfl; rfl; exact qA; rfl) | (apply od_gmv; rfl; rfl; rfl; exact qA; rfl; first | (apply s_indexK; rfl; rfl; exact el_22; exact sz_61; (first | rfl | exact s.at_ (by omega)); omega) | (apply s_indexO; rfl; rfl; exact el_22; exact sz_61; (first | rfl | exact s.at_ (by omega)); omega))); (first | (apply od_gskip; rfl; rfl; rfl; exact qA; rfl) | (apply od_gmv; rfl; rfl; rfl; exact qA; rfl; apply s_fieldAddr'; rfl; exact fd_61_0; exact qZ)); (first | (apply od_gskip; rfl; rfl; rfl; exact qA; rfl) | (apply od_gmv; rfl; rfl; rfl; exact qA; rfl; apply s_load1; rfl; rfl; (first | exact qP | (apply RdN.view; first | exact c0 | exact c1 | exact c2)))); (first | (apply od_gskip; rfl; rfl; rfl; exact qA; rfl) | (apply od_gmv; rfl; rfl; rfl; exact qA; rfl; apply s_move; rfl)); (first | (apply od_gskip; rfl; rfl; rfl; exact qA; rfl) | (apply od_gmv; rfl; rfl; rfl; exact qA; rfl; apply s_move; rfl)); (first | (apply od_gskip; rfl; rfl; rfl; exact qA; rfl) | (apply od_gmv; rfl; rfl; rfl; exact qA; rfl; first | (apply s_indexK; rfl; rfl; exact el_22; exact sz_61; (first | rfl | exact s.at_ (by omega)); omega) | (apply s_indexO; rfl; rfl; exact el_22; exact sz_61; (first | rfl | exact s.at_ (by omega)); omega))); (first | (apply od_gskip; rfl; rfl; rfl; exact qA; rfl) | (apply od_gmv; rfl; rfl; rfl; exact qA; rfl; apply s_fieldAddr'; rfl; exact fd_61_1; exact qZ)); (first | (apply od_gskip; rfl; rfl; rfl; exact qA; rfl) | (apply od_gmv; rfl; rfl; rfl; exact qA; rfl; apply s_load1; rfl; rfl; (first | exact qP | (apply RdN.view; first | exact c0 | exact c1 | exact c2)))); (first | (apply od_gskip; rfl; rfl; rfl; exact qA; rfl) | (apply od_gcmp; rfl; rfl; rfl; exact qA; rfl; apply s_eql; rfl; rfl; all_goals (intro hc46; try (exfalso; (first | exact hc46 rfl | omega | exact h3 (by assumption)))))); all_goals (apply od_mv; rfl; rfl; first | (apply s_pick_t; rfl; exact qA; rfl) | (apply s_pick_f; rfl; exact qA; rfl)); all_goals (apply od_mv; rfl; rfl; apply s_move; rfl); all_goals (first | (apply od_gskip; rfl; rfl; rfl; exact qA; rfl) | (apply od_gmv; rfl; rfl; rfl; exact qA; rfl; apply s_move; rfl)); all_goals (first | (apply od_gskip; rfl; rfl; rfl; exact qA; rfl) | (apply od_gmv; rfl; rfl; rfl; exact qA; rfl; apply s_move; rfl)); all_goals (first | (apply od_gskip; rfl; rfl; rfl; exact qA; rfl) | (apply od_gmv; rfl; rfl; rfl; exact qA; rfl; first | (apply s_indexK; rfl; rfl; exact el_22; exact sz_61; (first | rfl | exact s.at_ (by omega)); omega) | (apply s_indexO; rfl; rfl; exact el_22; exact sz_61; (first | rfl | exact s.at_ (by omega)); omega))); all_goals (first | (apply od_gskip; rfl; rfl; rfl; exact qA; rfl) | (apply od_gmv; rfl; rfl; rfl; exact qA; rfl; apply s_fieldAddr'; rfl; exact fd_61_2; exact qZ)); all_goals (first | (apply od_gskip; rfl; rfl; rfl; exact qA; rfl) | (apply od_gmv; rfl; rfl; rfl; exact qA; rfl; apply s_load1; rfl; rfl; (first | exact qP | (apply RdN.view; first | exact c0 | exact c1 | exact c2)))); all_goals (apply od_fx; (first | exact Wk.refl _ _ | exact qW); (first | (apply fx_gskip; rfl; rfl; rfl; exact qA; rfl) | (apply fx_gval; rfl; rfl; rfl; exact qA; rfl; apply s_callv; rfl; exact gf_53; (intro w' hw'; first | exact k1 w' | exact k2 w' | exact k3 w')))); all_goals (first | (apply od_gskip; rfl; rfl; rfl; exact qA; rfl) | (apply od_gmv; rfl; rfl; rfl; exact qA; rfl; first | (apply s_not_t; rfl; exact qA) | (apply s_not_f; rfl; exact qA) | (apply s_not; rfl))); all_goals (apply od_mv; rfl; rfl; first | (apply s_pick_t; rfl; exact qA; rfl) | (apply s_pick_f; rfl; exact qA; rfl)); all_goals (apply od_nil; (first | exact Wk.refl _ _ | exact qW)); all_goals (apply ol_nil))
                | (refine cw_region_id 5 ?_; (apply ol_mv; rfl; rfl); (apply ol_val; rfl; apply stp_pur; apply s_add64; rfl; rfl; omega); (apply ol_as; rfl; rfl); (apply ol_nil))
                | (apply cw_cond_true; rfl; exact qA)
                | (apply cw_cond_false; rfl; exact qA)
                | apply cw_skip
                | apply cw_ret
                | apply cw_block
                | apply cw_exit
              exact ⟨i + 1, ⟨by (repeat (first | exact trivial | refine And.intro rfl ?_)), View.le.refl _, by exact qK, ⟨hin, hnext (by simp [h1, h2, h3, h4])⟩, by omega⟩⟩
    · have hf : l.all (tfB n) = true := by rw [List.take_of_length_le (by omega)] at hall; exact hall
      rw [hf]
      repeat' first
        | apply cw_seq
        | (refine cw_region_id 4 ?_; (apply ol_mv; rfl; rfl); (apply ol_mv; rfl; rfl); (apply ol_val; rfl; apply stp_pur; apply s_len; rfl; exact el_22); (apply ol_val; rfl; apply stp_cmp; apply s_lss; rfl; rfl; all_goals (intro hc12; try (exfalso; (first | exact hc12 rfl | omega)))); all_goals (apply ol_nil))
        | (refine cw_region_id 8 ?_; (apply ol_as; rfl; rfl); (apply ol_nil))
        | (apply cw_cond_true; rfl; exact qA)
        | (apply cw_cond_false; rfl; exact qA)
        | apply cw_skip
        | apply cw_ret
        | apply cw_block
        | apply cw_exit
      refine ends [] (RVal.tmp rfl RVal.nil) Pick.nil ?_
      rfl
  · rw [decide_eq_false hl, Bool.false_and]
    repeat' first
      | apply cw_seq
      | (refine cw_region_id 0 ?_; (apply ol_as; rfl; rfl); (apply ol_nil))
      | (refine cw_region_id 1 ?_; (apply ol_mv; rfl; rfl); (apply ol_val; rfl; apply stp_pur; apply s_len; rfl; exact el_22); (apply ol_val; rfl; apply stp_cmp; apply s_gtr; rfl; rfl; all_goals (intro hc8; try (exfalso; (first | exact hc8 rfl | omega)))); all_goals (apply ol_nil))
      | (refine cw_region_id 2 ?_; (apply ol_as; rfl; rfl); (apply ol_nil))
      | (apply cw_cond_true; rfl; exact qA)
      | (apply cw_cond_false; rfl; exact qA)
      | apply cw_skip
      | apply cw_ret
      | apply cw_block
      | apply cw_exit
    all_goals (refine ends [] (RVal.tmp rfl RVal.nil) Pick.nil ?_; rfl)
end Go.Proofs.Ytagmoecojmlogaa
namespace Go.Proofs.Ytagmoecojmlogaa
set_option maxRecDepth 20000
set_option linter.unusedSimpArgs false
set_option linter.unusedVariables false
open Go Go.Fw
def cmB (ph : Int) : Bool := decide (ph = 2 ∨ ph = 4)
def dcP (s : SV) : Bool × Bool := if svB s = true ∧ 2 ≤ s.ph then (true, cmB s.ph) else (false, false)
def amt (bk : Int) (t : C3) : Int := if bk = t.t then t.a else if bk = t.f then -t.a else 0
def sumT (bk : Int) (l : List C3) : Int := (l.map (amt bk)).sum
def mnP (s : SV) : Int × Nat := if svB s = false then (0, 1) else if s.ph < 2 then (0, 6) else if cmB s.ph = false then (0, 0) else (sumT s.bk s.tr, 0)
def fewB (s : SV) : Bool := decide ((s.tr.length ≤ 20 ∨ 300 < s.tr.length ∧ s.tr.length < 320) ∧ s.vo.length ≤ 20)
theorem sumT_snoc (bk : Int) (l : List C3) (t : C3) : sumT bk (l ++ [t]) = sumT bk l + amt bk t := by unfold sumT; rw [List.map_append, List.sum_append]; simp
theorem svB_tr {s : SV} (h : svB s = true) : trB s.bn s.tr = true := by
  unfold svB at h
  simp only [Bool.and_eq_true] at h
  exact h.2.2.2.1
theorem svB_ph {s : SV} (h : svB s = true) : 0 ≤ s.ph ∧ s.ph ≤ 5 := by
  unfold svB at h
  simp only [Bool.and_eq_true] at h
  exact inn_iff.1 h.2.2.2.2.1
theorem trB_mem {n : Int} {l : List C3} (h : trB n l = true) : l.length ≤ 300 ∧ ∀ t ∈ l, t.f ≠ t.t ∧ 1 ≤ t.a ∧ t.a ≤ 1125899906842624 := by
  unfold trB at h
  rw [Bool.and_eq_true, decide_eq_true_eq, List.all_eq_true] at h
  refine ⟨h.1, fun t ht => ?_⟩
  have := h.2 t ht
  unfold tfB at this
  simp only [Bool.and_eq_true, Bool.not_eq_true', decide_eq_false_iff_not] at this
  exact ⟨this.1.2, inn_iff.1 this.2⟩
structure MSt where
  i : Nat
  z : Int
end Go.Proofs.Ytagmoecojmlogaa
namespace Go.Proofs.Ytagmoecojmlogaa
set_option maxRecDepth 20000
set_option linter.unusedSimpArgs false
set_option linter.unusedVariables false
open Go Go.Fw
attribute [local irreducible] CW OL OD FX Stp FnC FnV FnA Ret svB
set_option maxHeartbeats 800000
theorem decided_spec {M : View} {w : World} (hM : View.le M (View.of w)) {s : LS} (hs : LsV M s) : FnC Try.prog 14 [.agg s.enc.toArray] w (fun v _ => v = .tuple #[.bool (dcP s.val).1, .bool (dcP s.val).2]) := by
  have kv := fun (w' : World) (h : View.le M (View.of w')) => valid_spec' h hs
  have hph := svB_ph (s := s.val)
  unfold dcP
  generalize svB s.val = z at *
  obtain ⟨ro, ph, bk, bn, ⟨tr, ta, tb, to, tc⟩, ⟨vo, va, vb, vo', vc⟩⟩ := s
  unfold LS.enc at *
  unfold LS.val at hph ⊢
  unfold cmB
  dsimp only at kv hph ⊢
  refine enterF (M := M) Try.func14 rfl rfl rfl rfl hM ?_
  cases z with
  | false =>
    rw [if_neg (by simp)]
    repeat' first
      | apply cw_seq
      | (refine cw_region_id 0 ?_; (apply ol_val; rfl; first | (apply s_boxN; rfl; intro bk1) | (apply s_box1; rfl; rfl; intro bk1)); (apply ol_as; rfl; rfl); (apply ol_as; rfl; rfl); (apply ol_nil))
      | (refine cw_region_id 1 ?_; (apply ol_ldN; rfl; rfl; rfl; exact sz_25; exact qQ); (apply ol_val; rfl; apply s_callv; rfl; exact gf_24; (intro w' hw'; exact kv w' hw'.le)); (apply ol_val; rfl; apply stp_pur; first | (apply s_not_t; rfl; exact qA) | (apply s_not_f; rfl; exact qA) | (apply s_not; rfl)); (apply ol_mv; rfl; rfl); (first | (apply ol_gskip; rfl; rfl; exact qA; rfl) | (apply ol_gval; rfl; rfl; rfl; exact qA; apply stp_pur; apply s_fieldAddr'; rfl; exact fd_25_1; exact qZ)); (first | (apply ol_gskip; rfl; rfl; exact qA; rfl) | (apply ol_gval; rfl; rfl; rfl; exact qA; apply stp_pur; apply s_load1; rfl; rfl; exact qP)); (first | (apply ol_gskip; rfl; rfl; exact qA; rfl) | (apply ol_gval; rfl; rfl; rfl; exact qA; apply stp_cmp; apply s_lss; rfl; rfl; all_goals (intro hc10; try (exfalso; (first | exact hc10 rfl | omega))))); all_goals (apply ol_val; rfl; apply stp_pur; first | (apply s_pick_t; rfl; exact qA; rfl) | (apply s_pick_f; rfl; exact qA; rfl)); all_goals (apply ol_nil))
      | (refine cw_region_id 2 ?_; (apply ol_as; rfl; rfl); (apply ol_as; rfl; rfl); (apply ol_nil))
      | (apply cw_cond_true; rfl; exact qA)
      | (apply cw_cond_false; rfl; exact qA)
      | apply cw_skip
      | apply cw_ret
      | apply cw_block
      | apply cw_exit
    all_goals (refine ends [] (RVal.tmp rfl (RVal.tmp rfl RVal.nil)) Pick.nil ?_; rfl)
  | true =>
    by_cases h2 : 2 ≤ ph
    · rw [if_pos ⟨rfl, h2⟩]
      by_cases h : ph = 2 ∨ ph = 4
      · rw [decide_eq_true h]
        repeat' first
          | apply cw_seq
          | (refine cw_region_id 0 ?_; (apply ol_val; rfl; first | (apply s_boxN; rfl; intro bk1) | (apply s_box1; rfl; rfl; intro bk1)); (apply ol_as; rfl; rfl); (apply ol_as; rfl; rfl); (apply ol_nil))
          | (refine cw_region_id 1 ?_; (apply ol_ldN; rfl; rfl; rfl; exact sz_25; exact qQ); (apply ol_val; rfl; apply s_callv; rfl; exact gf_24; (intro w' hw'; exact kv w' hw'.le)); (apply ol_val; rfl; apply stp_pur; first | (apply s_not_t; rfl; exact qA) | (apply s_not_f; rfl; exact qA) | (apply s_not; rfl)); (apply ol_mv; rfl; rfl); (first | (apply ol_gskip; rfl; rfl; exact qA; rfl) | (apply ol_gval; rfl; rfl; rfl; exact qA; apply stp_pur; apply s_fieldAddr'; rfl; exact fd_25_1; exact qZ)); (first | (apply ol_gskip; rfl; rfl; exact qA; rfl) | (apply ol_gval; rfl; rfl; rfl; exact qA; apply stp_pur; apply s_load1; rfl; rfl; exact qP)); (first | (apply ol_gskip; rfl; rfl; exact qA; rfl) | (apply ol_gval; rfl; rfl; rfl; exact qA; apply stp_cmp; apply s_lss; rfl; rfl; all_goals (intro hc10; try (exfalso; (first | exact hc10 rfl | omega))))); all_goals (apply ol_val; rfl; apply stp_pur; first | (apply s_pick_t; rfl; exact qA; rfl) | (apply s_pick_f; rfl; exact qA; rfl)); all_goals (apply ol_nil))
          | (refine cw_draw (id := 3) 10 (.mv 0 (.mv 1 (.mv 2 (.mv 3 (.mv 4 (.mv 5 (.mv 6 (.mv 7 (.mv 8 (.mv 9 (PT.nil))))))))))) mixed (by kernel_rfl) ?_; (apply od_mv; rfl; rfl; apply s_fieldAddr'; rfl; exact fd_25_1; exact qZ); (apply od_mv; rfl; rfl; apply s_load1; rfl; rfl; exact qP); (apply od_cmp; rfl; rfl; apply s_eql; rfl; rfl; all_goals (intro hc14; try (exfalso; (first | exact hc14 rfl | omega)))); all_goals (apply od_mv; rfl; rfl; apply s_move; rfl); all_goals (first | (apply od_gskip; rfl; rfl; rfl; exact qA; rfl) | (apply od_gmv; rfl; rfl; rfl; exact qA; rfl; apply s_fieldAddr'; rfl; exact fd_25_1; exact qZ)); all_goals (first | (apply od_gskip; rfl; rfl; rfl; exact qA; rfl) | (apply od_gmv; rfl; rfl; rfl; exact qA; rfl; apply s_load1; rfl; rfl; exact qP)); all_goals (first | (apply od_gskip; rfl; rfl; rfl; exact qA; rfl) | (apply od_gcmp; rfl; rfl; rfl; exact qA; rfl; apply s_eql; rfl; rfl; all_goals (intro hc18; try (exfalso; (first | exact hc18 rfl | omega))))); all_goals (apply od_mv; rfl; rfl; first | (apply s_pick_t; rfl; exact qA; rfl) | (apply s_pick_f; rfl; exact qA; rfl)); all_goals (apply od_mv; rfl; rfl; apply s_assign; rfl); all_goals (apply od_mv; rfl; rfl; apply s_assign; rfl); all_goals (apply od_nil; (first | exact Wk.refl _ _ | exact qW)); all_goals (apply ol_nil))
          | (apply cw_cond_true; rfl; exact qA)
          | (apply cw_cond_false; rfl; exact qA)
          | apply cw_skip
          | apply cw_ret
          | apply cw_block
          | apply cw_exit
        all_goals (refine ends [] (RVal.tmp rfl (RVal.tmp rfl RVal.nil)) Pick.nil ?_; rfl)
      · rw [decide_eq_false h]
        repeat' first
          | apply cw_seq
          | (refine cw_region_id 0 ?_; (apply ol_val; rfl; first | (apply s_boxN; rfl; intro bk1) | (apply s_box1; rfl; rfl; intro bk1)); (apply ol_as; rfl; rfl); (apply ol_as; rfl; rfl); (apply ol_nil))
          | (refine cw_region_id 1 ?_; (apply ol_ldN; rfl; rfl; rfl; exact sz_25; exact qQ); (apply ol_val; rfl; apply s_callv; rfl; exact gf_24; (intro w' hw'; exact kv w' hw'.le)); (apply ol_val; rfl; apply stp_pur; first | (apply s_not_t; rfl; exact qA) | (apply s_not_f; rfl; exact qA) | (apply s_not; rfl)); (apply ol_mv; rfl; rfl); (first | (apply ol_gskip; rfl; rfl; exact qA; rfl) | (apply ol_gval; rfl; rfl; rfl; exact qA; apply stp_pur; apply s_fieldAddr'; rfl; exact fd_25_1; exact qZ)); (first | (apply ol_gskip; rfl; rfl; exact qA; rfl) | (apply ol_gval; rfl; rfl; rfl; exact qA; apply stp_pur; apply s_load1; rfl; rfl; exact qP)); (first | (apply ol_gskip; rfl; rfl; exact qA; rfl) | (apply ol_gval; rfl; rfl; rfl; exact qA; apply stp_cmp; apply s_lss; rfl; rfl; all_goals (intro hc10; try (exfalso; (first | exact hc10 rfl | omega))))); all_goals (apply ol_val; rfl; apply stp_pur; first | (apply s_pick_t; rfl; exact qA; rfl) | (apply s_pick_f; rfl; exact qA; rfl)); all_goals (apply ol_nil))
          | (refine cw_draw (id := 3) 10 (.mv 0 (.mv 1 (.mv 2 (.mv 3 (.mv 4 (.mv 5 (.mv 6 (.mv 7 (.mv 8 (.mv 9 (PT.nil))))))))))) mixed (by kernel_rfl) ?_; (apply od_mv; rfl; rfl; apply s_fieldAddr'; rfl; exact fd_25_1; exact qZ); (apply od_mv; rfl; rfl; apply s_load1; rfl; rfl; exact qP); (apply od_cmp; rfl; rfl; apply s_eql; rfl; rfl; all_goals (intro hc14; try (exfalso; (first | exact hc14 rfl | omega)))); all_goals (apply od_mv; rfl; rfl; apply s_move; rfl); all_goals (first | (apply od_gskip; rfl; rfl; rfl; exact qA; rfl) | (apply od_gmv; rfl; rfl; rfl; exact qA; rfl; apply s_fieldAddr'; rfl; exact fd_25_1; exact qZ)); all_goals (first | (apply od_gskip; rfl; rfl; rfl; exact qA; rfl) | (apply od_gmv; rfl; rfl; rfl; exact qA; rfl; apply s_load1; rfl; rfl; exact qP)); all_goals (first | (apply od_gskip; rfl; rfl; rfl; exact qA; rfl) | (apply od_gcmp; rfl; rfl; rfl; exact qA; rfl; apply s_eql; rfl; rfl; all_goals (intro hc18; try (exfalso; (first | exact hc18 rfl | omega))))); all_goals (apply od_mv; rfl; rfl; first | (apply s_pick_t; rfl; exact qA; rfl) | (apply s_pick_f; rfl; exact qA; rfl)); all_goals (apply od_mv; rfl; rfl; apply s_assign; rfl); all_goals (apply od_mv; rfl; rfl; apply s_assign; rfl); all_goals (apply od_nil; (first | exact Wk.refl _ _ | exact qW)); all_goals (apply ol_nil))
          | (apply cw_cond_true; rfl; exact qA)
          | (apply cw_cond_false; rfl; exact qA)
          | apply cw_skip
          | apply cw_ret
          | apply cw_block
          | apply cw_exit
        all_goals (refine ends [] (RVal.tmp rfl (RVal.tmp rfl RVal.nil)) Pick.nil ?_; rfl)
    · rw [if_neg (fun h => h2 h.2)]
      repeat' first
        | apply cw_seq
        | (refine cw_region_id 0 ?_; (apply ol_val; rfl; first | (apply s_boxN; rfl; intro bk1) | (apply s_box1; rfl; rfl; intro bk1)); (apply ol_as; rfl; rfl); (apply ol_as; rfl; rfl); (apply ol_nil))
        | (refine cw_region_id 1 ?_; (apply ol_ldN; rfl; rfl; rfl; exact sz_25; exact qQ); (apply ol_val; rfl; apply s_callv; rfl; exact gf_24; (intro w' hw'; exact kv w' hw'.le)); (apply ol_val; rfl; apply stp_pur; first | (apply s_not_t; rfl; exact qA) | (apply s_not_f; rfl; exact qA) | (apply s_not; rfl)); (apply ol_mv; rfl; rfl); (first | (apply ol_gskip; rfl; rfl; exact qA; rfl) | (apply ol_gval; rfl; rfl; rfl; exact qA; apply stp_pur; apply s_fieldAddr'; rfl; exact fd_25_1; exact qZ)); (first | (apply ol_gskip; rfl; rfl; exact qA; rfl) | (apply ol_gval; rfl; rfl; rfl; exact qA; apply stp_pur; apply s_load1; rfl; rfl; exact qP)); (first | (apply ol_gskip; rfl; rfl; exact qA; rfl) | (apply ol_gval; rfl; rfl; rfl; exact qA; apply stp_cmp; apply s_lss; rfl; rfl; all_goals (intro hc10; try (exfalso; (first | exact hc10 rfl | omega))))); all_goals (apply ol_val; rfl; apply stp_pur; first | (apply s_pick_t; rfl; exact qA; rfl) | (apply s_pick_f; rfl; exact qA; rfl)); all_goals (apply ol_nil))
        | (refine cw_region_id 2 ?_; (apply ol_as; rfl; rfl); (apply ol_as; rfl; rfl); (apply ol_nil))
        | (apply cw_cond_true; rfl; exact qA)
        | (apply cw_cond_false; rfl; exact qA)
        | apply cw_skip
        | apply cw_ret
        | apply cw_block
        | apply cw_exit
      all_goals (refine ends [] (RVal.tmp rfl (RVal.tmp rfl RVal.nil)) Pick.nil ?_; rfl)
end Go.Proofs.Ytagmoecojmlogaa
namespace Go.Proofs.Ytagmoecojmlogaa
set_option maxRecDepth 20000
set_option linter.unusedSimpArgs false
set_option linter.unusedVariables false
open Go Go.Fw
theorem amt_bound {bk : Int} {t : C3} (h : 1 ≤ t.a ∧ t.a ≤ 1125899906842624) : -1125899906842624 ≤ amt bk t ∧ amt bk t ≤ 1125899906842624 := by
  unfold amt
  split
  · omega
  · split <;> omega
theorem take_sum (bk : Int) {l : List C3} {i : Nat} (hi : i < l.length) : sumT bk (l.take (i + 1)) = sumT bk (l.take i) + amt bk l[i] := by
  rw [List.take_succ_eq_append_getElem hi, sumT_snoc]
end Go.Proofs.Ytagmoecojmlogaa
namespace Go.Proofs.Ytagmoecojmlogaa
set_option maxRecDepth 20000
set_option linter.unusedSimpArgs false
set_option linter.unusedVariables false
open Go Go.Fw
attribute [local irreducible] CW OL OD FX Stp FnC FnV FnA Ret svB
set_option maxHeartbeats 1600000
theorem mine_spec {M : View} {w : World} (hM : View.le M (View.of w)) {s : LS} (hs : LsV M s) : FnC Try.prog 15 [.agg s.enc.toArray] w (fun v _ => v = .tuple #[.int .i64 (mnP s.val).1, .int .i64 (mnP s.val).2]) := by
  have kv := fun (w' : World) (h : View.le M (View.of w')) => valid_spec' h hs
  have kd := fun (w' : World) (h : View.le M (View.of w')) => decided_spec h hs
  have hph := svB_ph (s := s.val)
  have htr := fun h => trB_mem (svB_tr (s := s.val) h)
  unfold mnP
  unfold dcP at kd
  generalize svB s.val = z at *
  obtain ⟨ro, ph, bk, bn, ⟨tr, ta, tb, to, tc⟩, ⟨vo, va, vb, vo', vc⟩⟩ := s
  obtain ⟨s1, s2, l1, l2⟩ := hs
  unfold LS.enc at *
  unfold LS.val at hph htr kd ⊢
  dsimp only at kv kd hph htr s1 s2 l1 l2 ⊢
  refine enterF (M := M) Try.func15 rfl rfl rfl rfl hM ?_
  cases z with
  | false =>
    rw [if_neg (by simp)] at kd
    rw [if_pos rfl]
    repeat' first
      | apply cw_seq
      | (refine cw_region_id 0 ?_; (apply ol_val; rfl; first | (apply s_boxN; rfl; intro bk1) | (apply s_box1; rfl; rfl; intro bk1)); (apply ol_as; rfl; rfl); (apply ol_as; rfl; rfl); (apply ol_nil))
      | (refine cw_region_id 1 ?_; (apply ol_ldN; rfl; rfl; rfl; exact sz_25; exact qQ); (apply ol_val; rfl; apply s_callv; rfl; exact gf_14; (intro w' hw'; exact kd w' hw'.le)); (apply ol_mv; rfl; rfl); (apply ol_ex; rfl; rfl; rfl); (apply ol_ex; rfl; rfl; rfl); (apply ol_as; rfl; rfl); (apply ol_as; rfl; rfl); (apply ol_nil))
      | (refine cw_region_id 2 ?_; (apply ol_ldN; rfl; rfl; rfl; exact sz_25; exact qQ); (apply ol_val; rfl; apply s_callv; rfl; exact gf_24; (intro w' hw'; exact kv w' hw'.le)); (apply ol_val; rfl; apply stp_pur; first | (apply s_not_t; rfl; exact qA) | (apply s_not_f; rfl; exact qA) | (apply s_not; rfl)); (apply ol_as; rfl; rfl); (apply ol_nil))
      | (refine cw_region_id 3 ?_; (apply ol_as; rfl; rfl); (apply ol_as; rfl; rfl); (apply ol_nil))
      | (apply cw_cond_true; rfl; exact qA)
      | (apply cw_cond_false; rfl; exact qA)
      | apply cw_skip
      | apply cw_ret
      | apply cw_block
      | apply cw_exit
    all_goals (refine ends [] (RVal.tmp rfl (RVal.tmp rfl RVal.nil)) Pick.nil ?_; rfl)
  | true =>
    rw [if_neg (by simp)]
    by_cases h2 : 2 ≤ ph
    · rw [if_pos ⟨rfl, h2⟩] at kd
      rw [if_neg (by omega)]
      cases hcm : cmB ph with
      | false =>
        rw [hcm] at kd
        rw [if_pos rfl]
        repeat' first
          | apply cw_seq
          | (refine cw_region_id 0 ?_; (apply ol_val; rfl; first | (apply s_boxN; rfl; intro bk1) | (apply s_box1; rfl; rfl; intro bk1)); (apply ol_as; rfl; rfl); (apply ol_as; rfl; rfl); (apply ol_nil))
          | (refine cw_region_id 1 ?_; (apply ol_ldN; rfl; rfl; rfl; exact sz_25; exact qQ); (apply ol_val; rfl; apply s_callv; rfl; exact gf_14; (intro w' hw'; exact kd w' hw'.le)); (apply ol_mv; rfl; rfl); (apply ol_ex; rfl; rfl; rfl); (apply ol_ex; rfl; rfl; rfl); (apply ol_as; rfl; rfl); (apply ol_as; rfl; rfl); (apply ol_nil))
          | (refine cw_region_id 2 ?_; (apply ol_ldN; rfl; rfl; rfl; exact sz_25; exact qQ); (apply ol_val; rfl; apply s_callv; rfl; exact gf_24; (intro w' hw'; exact kv w' hw'.le)); (apply ol_val; rfl; apply stp_pur; first | (apply s_not_t; rfl; exact qA) | (apply s_not_f; rfl; exact qA) | (apply s_not; rfl)); (apply ol_as; rfl; rfl); (apply ol_nil))
          | (refine cw_region_id 4 ?_; (apply ol_mv; rfl; rfl); (apply ol_val; rfl; apply stp_pur; first | (apply s_not_t; rfl; exact qA) | (apply s_not_f; rfl; exact qA) | (apply s_not; rfl)); (apply ol_as; rfl; rfl); (apply ol_nil))
          | (refine cw_region_id 6 ?_; (apply ol_mv; rfl; rfl); (apply ol_val; rfl; apply stp_pur; first | (apply s_not_t; rfl; exact qA) | (apply s_not_f; rfl; exact qA) | (apply s_not; rfl)); (apply ol_as; rfl; rfl); (apply ol_nil))
          | (refine cw_region_id 7 ?_; (apply ol_as; rfl; rfl); (apply ol_as; rfl; rfl); (apply ol_nil))
          | (apply cw_cond_true; rfl; exact qA)
          | (apply cw_cond_false; rfl; exact qA)
          | apply cw_skip
          | apply cw_ret
          | apply cw_block
          | apply cw_exit
        all_goals (refine ends [] (RVal.tmp rfl (RVal.tmp rfl RVal.nil)) Pick.nil ?_; rfl)
      | true =>
        rw [hcm] at kd
        rw [if_neg (by simp)]
        obtain ⟨hl, ht⟩ := htr rfl
        repeat' first
          | apply cw_seq
          | (refine cw_region_id 0 ?_; (apply ol_val; rfl; first | (apply s_boxN; rfl; intro bk1) | (apply s_box1; rfl; rfl; intro bk1)); (apply ol_as; rfl; rfl); (apply ol_as; rfl; rfl); (apply ol_nil))
          | (refine cw_region_id 1 ?_; (apply ol_ldN; rfl; rfl; rfl; exact sz_25; exact qQ); (apply ol_val; rfl; apply s_callv; rfl; exact gf_14; (intro w' hw'; exact kd w' hw'.le)); (apply ol_mv; rfl; rfl); (apply ol_ex; rfl; rfl; rfl); (apply ol_ex; rfl; rfl; rfl); (apply ol_as; rfl; rfl); (apply ol_as; rfl; rfl); (apply ol_nil))
          | (refine cw_region_id 2 ?_; (apply ol_ldN; rfl; rfl; rfl; exact sz_25; exact qQ); (apply ol_val; rfl; apply s_callv; rfl; exact gf_24; (intro w' hw'; exact kv w' hw'.le)); (apply ol_val; rfl; apply stp_pur; first | (apply s_not_t; rfl; exact qA) | (apply s_not_f; rfl; exact qA) | (apply s_not; rfl)); (apply ol_as; rfl; rfl); (apply ol_nil))
          | (refine cw_region_id 4 ?_; (apply ol_mv; rfl; rfl); (apply ol_val; rfl; apply stp_pur; first | (apply s_not_t; rfl; exact qA) | (apply s_not_f; rfl; exact qA) | (apply s_not; rfl)); (apply ol_as; rfl; rfl); (apply ol_nil))
          | (refine cw_region_id 6 ?_; (apply ol_mv; rfl; rfl); (apply ol_val; rfl; apply stp_pur; first | (apply s_not_t; rfl; exact qA) | (apply s_not_f; rfl; exact qA) | (apply s_not; rfl)); (apply ol_as; rfl; rfl); (apply ol_nil))
          | (refine cw_region_id 8 ?_; (apply ol_as; rfl; rfl); (apply ol_nil))
          | (refine cw_region_id 9 ?_; (apply ol_fa; rfl; rfl; exact fd_25_4; exact qZ); (apply ol_ld; rfl; rfl; rfl; exact qP); (apply ol_val; rfl; apply stp_pur; apply s_len; rfl; exact el_22); (apply ol_mv; rfl; rfl); (apply ol_nil))
          | (apply cw_cond_true; rfl; exact qA)
          | (apply cw_cond_false; rfl; exact qA)
          | apply cw_skip
          | apply cw_ret
          | apply cw_block
          | apply cw_exit
        refine cw_loopK (σ := MSt) [1, 25, 26] (by (repeat (first | exact Keep.nil | (apply Keep.cons; rfl)))) (fun s => [(6, .int .i64 s.z), (27, .int .i64 s.i)]) (fun _ => M) (fun _ => [⟨some bk1, [.int .i64 ro, .int .i64 ph, .int .i64 bk, .int .i64 bn, .slice ta tr.length tc, .slice va vo.length vc], 25⟩]) (fun s => s.i ≤ tr.length ∧ sumT bk (tr.take s.i) = s.z ∧ (-1125899906842624 * (s.i : Int) ≤ s.z ∧ s.z ≤ 1125899906842624 * (s.i : Int))) (fun s => tr.length - s.i) ⟨0, 0⟩ (by (repeat (first | exact trivial | refine And.intro rfl ?_))) (View.le.refl _) (by exact qK) ⟨Nat.zero_le _, rfl, by dsimp only; omega⟩ ?_
        rintro ⟨i, z⟩ ⟨hi, hz, hzb⟩
        dsimp only at hi hz hzb
        dsimp only
        by_cases hin : i < tr.length
        · have hci := s1.cells i hin
          have hnx := take_sum bk hin
          have hx := ht _ (List.getElem_mem hin)
          have hab := amt_bound (bk := bk) hx.2
          rw [hz] at hnx
          clear ht htr
          generalize tr[i] = x at *
          obtain ⟨f, t, a⟩ := x
          dsimp only [C3.enc] at hci hx
          unfold amt at hnx hab
          dsimp only at hnx hab
          by_cases h5 : bk = t
          · rw [if_pos h5] at hnx hab
            repeat' first
              | apply cw_seq
              | (refine cw_region_id 10 ?_; (apply ol_val; rfl; apply stp_cmp; apply s_lss; rfl; rfl; all_goals (intro hc28; try (exfalso; (first | exact hc28 rfl | omega)))); all_goals (apply ol_nil))
              | (refine cw_region_id 11 ?_; (apply ol_val; rfl; apply stp_pur; first | (apply s_indexK; rfl; rfl; exact el_22; exact sz_61; (first | rfl | exact s1.at_ (by omega)); omega) | (apply s_indexO; rfl; rfl; exact el_22; exact sz_61; (first | rfl | exact s1.at_ (by omega)); omega)); (apply ol_ldN; rfl; rfl; rfl; exact sz_61; (first | exact qQ | (apply RdN.view; exact hci))); (apply ol_val; rfl; apply s_alloc; exact zb_61; exact qN; intro bk8); (apply ol_eff; apply s_storeN; rfl; rfl; exact sz_61; rfl; rfl; exact qN; exact qN); (apply ol_nil))
              | (refine cw_region_id 12 ?_; (apply ol_fa; rfl; rfl; exact fd_25_2; exact qZ); (apply ol_ld; rfl; rfl; rfl; (first | exact qP | (apply RdN.view; exact hci))); (apply ol_nil))
              | (refine cw_region_id 13 ?_; (apply ol_fa; rfl; rfl; exact fd_61_1; exact qZ); (apply ol_ld; rfl; rfl; rfl; (first | exact qP | (apply RdN.view; exact hci))); (apply ol_val; rfl; apply stp_cmp; apply s_eql; rfl; rfl; all_goals (intro hc36; try (exfalso; (first | exact hc36 rfl | omega)))); all_goals (apply ol_as; rfl; rfl); all_goals (apply ol_nil))
              | (refine cw_region_id 14 ?_; (apply ol_mv; rfl; rfl); (apply ol_fa; rfl; rfl; exact fd_61_2; exact qZ); (apply ol_ld; rfl; rfl; rfl; (first | exact qP | (apply RdN.view; exact hci))); (apply ol_val; rfl; apply stp_pur; apply s_add64; rfl; rfl; omega); (apply ol_as; rfl; rfl); (apply ol_nil))
              | (refine cw_region_id 17 ?_; (apply ol_val; rfl; apply stp_pur; apply s_add64; rfl; rfl; omega); (apply ol_mv; rfl; rfl); (apply ol_nil))
              | (apply cw_cond_true; rfl; exact qA)
              | (apply cw_cond_false; rfl; exact qA)
              | apply cw_skip
              | apply cw_ret
              | apply cw_block
              | apply cw_exit
            exact ⟨⟨i + 1, z + a⟩, ⟨by (repeat (first | exact trivial | refine And.intro rfl ?_)), View.le.refl _, by exact qK, ⟨hin, hnx, by dsimp only; omega⟩, by dsimp only; omega⟩⟩
          · rw [if_neg h5] at hnx hab
            by_cases h6 : bk = f
            · rw [if_pos h6] at hnx hab
              repeat' first
                | apply cw_seq
                | (refine cw_region_id 10 ?_; (apply ol_val; rfl; apply stp_cmp; apply s_lss; rfl; rfl; all_goals (intro hc28; try (exfalso; (first | exact hc28 rfl | omega)))); all_goals (apply ol_nil))
                | (refine cw_region_id 11 ?_; (apply ol_val; rfl; apply stp_pur; first | (apply s_indexK; rfl; rfl; exact el_22; exact sz_61; (first | rfl | exact s1.at_ (by omega)); omega) | (apply s_indexO; rfl; rfl; exact el_22; exact sz_61; (first | rfl | exact s1.at_ (by omega)); omega)); (apply ol_ldN; rfl; rfl; rfl; exact sz_61; (first | exact qQ | (apply RdN.view; exact hci))); (apply ol_val; rfl; apply s_alloc; exact zb_61; exact qN; intro bk8); (apply ol_eff; apply s_storeN; rfl; rfl; exact sz_61; rfl; rfl; exact qN; exact qN); (apply ol_nil))
                | (refine cw_region_id 12 ?_; (apply ol_fa; rfl; rfl; exact fd_25_2; exact qZ); (apply ol_ld; rfl; rfl; rfl; (first | exact qP | (apply RdN.view; exact hci))); (apply ol_nil))
                | (refine cw_region_id 13 ?_; (apply ol_fa; rfl; rfl; exact fd_61_1; exact qZ); (apply ol_ld; rfl; rfl; rfl; (first | exact qP | (apply RdN.view; exact hci))); (apply ol_val; rfl; apply stp_cmp; apply s_eql; rfl; rfl; all_goals (intro hc36; try (exfalso; (first | exact hc36 rfl | omega)))); all_goals (apply ol_as; rfl; rfl); all_goals (apply ol_nil))
                | (refine cw_region_id 15 ?_; (apply ol_fa; rfl; rfl; exact fd_61_0; exact qZ); (apply ol_ld; rfl; rfl; rfl; (first | exact qP | (apply RdN.view; exact hci))); (apply ol_val; rfl; apply stp_cmp; apply s_eql; rfl; rfl; all_goals (intro hc44; try (exfalso; (first | exact hc44 rfl | omega)))); all_goals (apply ol_as; rfl; rfl); all_goals (apply ol_nil))
                | (refine cw_region_id 16 ?_; (apply ol_mv; rfl; rfl); (apply ol_fa; rfl; rfl; exact fd_61_2; exact qZ); (apply ol_ld; rfl; rfl; rfl; (first | exact qP | (apply RdN.view; exact hci))); (apply ol_val; rfl; apply stp_pur; apply s_sub64; rfl; rfl; omega); (apply ol_as; rfl; rfl); (apply ol_nil))
                | (refine cw_region_id 17 ?_; (apply ol_val; rfl; apply stp_pur; apply s_add64; rfl; rfl; omega); (apply ol_mv; rfl; rfl); (apply ol_nil))
                | (apply cw_cond_true; rfl; exact qA)
                | (apply cw_cond_false; rfl; exact qA)
                | apply cw_skip
                | apply cw_ret
                | apply cw_block
                | apply cw_exit
              exact ⟨⟨i + 1, z - a⟩, ⟨by (repeat (first | exact trivial | refine And.intro rfl ?_)), View.le.refl _, by exact qK, ⟨hin, by rw [hnx]; show _ = z - a; omega, by dsimp only; omega⟩, by dsimp only; omega⟩⟩
            · rw [if_neg h6] at hnx hab
              repeat' first
                | apply cw_seq
                | (refine cw_region_id 10 ?_; (apply ol_val; rfl; apply stp_cmp; apply s_lss; rfl; rfl; all_goals (intro hc28; try (exfalso; (first | exact hc28 rfl | omega)))); all_goals (apply ol_nil))
                | (refine cw_region_id 11 ?_; (apply ol_val; rfl; apply stp_pur; first | (apply s_indexK; rfl; rfl; exact el_22; exact sz_61; (first | rfl | exact s1.at_ (by omega)); omega) | (apply s_indexO; rfl; rfl; exact el_22; exact sz_61; (first | rfl | exact s1.at_ (by omega)); omega)); (apply ol_ldN; rfl; rfl; rfl; exact sz_61; (first | exact qQ | (apply RdN.view; exact hci))); (apply ol_val; rfl; apply s_alloc; exact zb_61; exact qN; intro bk8); (apply ol_eff; apply s_storeN; rfl; rfl; exact sz_61; rfl; rfl; exact qN; exact qN); (apply ol_nil))
                | (refine cw_region_id 12 ?_; (apply ol_fa; rfl; rfl; exact fd_25_2; exact qZ); (apply ol_ld; rfl; rfl; rfl; (first | exact qP | (apply RdN.view; exact hci))); (apply ol_nil))
                | (refine cw_region_id 13 ?_; (apply ol_fa; rfl; rfl; exact fd_61_1; exact qZ); (apply ol_ld; rfl; rfl; rfl; (first | exact qP | (apply RdN.view; exact hci))); (apply ol_val; rfl; apply stp_cmp; apply s_eql; rfl; rfl; all_goals (intro hc36; try (exfalso; (first | exact hc36 rfl | omega)))); all_goals (apply ol_as; rfl; rfl); all_goals (apply ol_nil))
                | (refine cw_region_id 15 ?_; (apply ol_fa; rfl; rfl; exact fd_61_0; exact qZ); (apply ol_ld; rfl; rfl; rfl; (first | exact qP | (apply RdN.view; exact hci))); (apply ol_val; rfl; apply stp_cmp; apply s_eql; rfl; rfl; all_goals (intro hc44; try (exfalso; (first | exact hc44 rfl | omega)))); all_goals (apply ol_as; rfl; rfl); all_goals (apply ol_nil))
                | (refine cw_region_id 17 ?_; (apply ol_val; rfl; apply stp_pur; apply s_add64; rfl; rfl; omega); (apply ol_mv; rfl; rfl); (apply ol_nil))
                | (apply cw_cond_true; rfl; exact qA)
                | (apply cw_cond_false; rfl; exact qA)
                | apply cw_skip
                | apply cw_ret
                | apply cw_block
                | apply cw_exit
              exact ⟨⟨i + 1, z⟩, ⟨by (repeat (first | exact trivial | refine And.intro rfl ?_)), View.le.refl _, by exact qK, ⟨hin, by rw [hnx]; show _ = z; omega, by dsimp only; omega⟩, by dsimp only; omega⟩⟩
        · rw [List.take_of_length_le (by omega)] at hz
          rw [hz]
          repeat' first
            | apply cw_seq
            | (refine cw_region_id 10 ?_; (apply ol_val; rfl; apply stp_cmp; apply s_lss; rfl; rfl; all_goals (intro hc28; try (exfalso; (first | exact hc28 rfl | omega)))); all_goals (apply ol_nil))
            | (refine cw_region_id 18 ?_; (apply ol_mv; rfl; rfl); (apply ol_as; rfl; rfl); (apply ol_as; rfl; rfl); (apply ol_nil))
            | (apply cw_cond_true; rfl; exact qA)
            | (apply cw_cond_false; rfl; exact qA)
            | apply cw_skip
            | apply cw_ret
            | apply cw_block
            | apply cw_exit
          all_goals (refine ends [] (RVal.tmp rfl (RVal.tmp rfl RVal.nil)) Pick.nil ?_; rfl)
    · rw [if_neg (fun h => h2 h.2)] at kd
      rw [if_pos (by omega)]
      repeat' first
        | apply cw_seq
        | (refine cw_region_id 0 ?_; (apply ol_val; rfl; first | (apply s_boxN; rfl; intro bk1) | (apply s_box1; rfl; rfl; intro bk1)); (apply ol_as; rfl; rfl); (apply ol_as; rfl; rfl); (apply ol_nil))
        | (refine cw_region_id 1 ?_; (apply ol_ldN; rfl; rfl; rfl; exact sz_25; exact qQ); (apply ol_val; rfl; apply s_callv; rfl; exact gf_14; (intro w' hw'; exact kd w' hw'.le)); (apply ol_mv; rfl; rfl); (apply ol_ex; rfl; rfl; rfl); (apply ol_ex; rfl; rfl; rfl); (apply ol_as; rfl; rfl); (apply ol_as; rfl; rfl); (apply ol_nil))
        | (refine cw_region_id 2 ?_; (apply ol_ldN; rfl; rfl; rfl; exact sz_25; exact qQ); (apply ol_val; rfl; apply s_callv; rfl; exact gf_24; (intro w' hw'; exact kv w' hw'.le)); (apply ol_val; rfl; apply stp_pur; first | (apply s_not_t; rfl; exact qA) | (apply s_not_f; rfl; exact qA) | (apply s_not; rfl)); (apply ol_as; rfl; rfl); (apply ol_nil))
        | (refine cw_region_id 4 ?_; (apply ol_mv; rfl; rfl); (apply ol_val; rfl; apply stp_pur; first | (apply s_not_t; rfl; exact qA) | (apply s_not_f; rfl; exact qA) | (apply s_not; rfl)); (apply ol_as; rfl; rfl); (apply ol_nil))
        | (refine cw_region_id 5 ?_; (apply ol_as; rfl; rfl); (apply ol_as; rfl; rfl); (apply ol_nil))
        | (apply cw_cond_true; rfl; exact qA)
        | (apply cw_cond_false; rfl; exact qA)
        | apply cw_skip
        | apply cw_ret
        | apply cw_block
        | apply cw_exit
      all_goals (refine ends [] (RVal.tmp rfl (RVal.tmp rfl RVal.nil)) Pick.nil ?_; rfl)
end Go.Proofs.Ytagmoecojmlogaa
namespace Go.Proofs.Ytagmoecojmlogaa
set_option maxRecDepth 20000
set_option linter.unusedSimpArgs false
set_option linter.unusedVariables false
open Go Go.Fw
def mkJ (ns : List Int) (A : Option Addr) (b c : Nat) : It 8 := (⟨3, 0, ⟨[], none, 0, 0, 0⟩, A, b, 0, c, ns.length⟩, ns.map fun n => mkL 7 (hdN n))
theorem mkJ_enc (ns : List Int) (A : Option Addr) (b c : Nat) : (mkJ ns A b c).enc = [.int .i64 3, .int .i64 0, .slice none 0 0, .slice A ns.length c] := rfl
theorem encI_mkJ (ns : List Int) (A : Option Addr) (b c : Nat) : encI 8 (mkJ ns A b c) = inE ns := by
  unfold mkJ
  rw [encI_list rfl, List.flatMap_map]
  have : (fun n : Int => encI 7 (mkL 7 (hdN n))) = lfN := by
    funext n
    rw [encI_mkL (by show (1 : Int) ≠ 3; omega)]; rfl
  rw [this]
  rfl
theorem okI_mkJ {ns : List Int} (h : ns.length ≤ 1000) (A : Option Addr) (b c : Nat) : okI 8 (mkJ ns A b c) = true := by
  unfold mkJ
  rw [okI_list rfl, Bool.and_eq_true, decide_eq_true_eq, List.all_eq_true]
  refine ⟨⟨rfl, rfl, h⟩, fun x hx => ?_⟩
  obtain ⟨n, _, rfl⟩ := List.mem_map.1 hx
  rw [okI_mkL (by show (1 : Int) ≠ 3; omega)]; rfl
theorem flat_lfE7 (ns : List Int) : flat lfE ns = flat It.enc (ns.map fun n => mkL 7 (hdN n)) := by
  induction ns with
  | nil => rfl
  | cons n ns ih =>
    show lfE n ++ flat lfE ns = (mkL 7 (hdN n)).enc ++ flat It.enc _
    rw [ih, mkL_enc]
    rfl
theorem ItV_mkJ {w : World} {ns : List Int} (h : ns.length ≤ 1000) {r : Option Nat} {A : Option Addr} {c : Nat} {sp : List Value} (ho : OB.ok ⟨r, flat lfE ns ++ sp, 101⟩ w) (hr : r = none → ns = []) : ItV (View.of w) 8 (mkJ ns (base r A) (r.getD 0) c) := by
  rw [flat_lfE7] at ho
  refine ⟨⟨SlA.none', (fun x hx => by have hx' : x ∈ ([] : List Int) := hx; exact absurd hx' List.not_mem_nil), Nat.zero_le _, by show ns.length ≤ _; omega⟩, by show (ns.map _).length = ns.length; rw [List.length_map], ?_, fun x hx => ?_⟩
  · exact SlA.own It.enc_length ho (fun h => by rw [hr h]; rfl)
  · obtain ⟨n, _, rfl⟩ := List.mem_map.1 hx
    exact ItV.mkL ⟨SlA.none', fun x hx => by simp [hdN] at hx, by simp [hdN], by simp [hdN]⟩ rfl 7
def intsT (l : List C3) : List Int := l.flatMap fun t => [t.f, t.t, t.a]
def bodyP (l : List C3) : List Int := inE (intsT l)
theorem intsT_length (l : List C3) : (intsT l).length = 3 * l.length := by
  unfold intsT
  induction l with
  | nil => rfl
  | cons t l ih => rw [List.flatMap_cons, List.length_append, ih, List.length_cons]; simp; omega
theorem intsT_take {l : List C3} {i : Nat} (hi : i < l.length) : intsT (l.take (i + 1)) = intsT (l.take i) ++ [l[i].f, l[i].t, l[i].a] := by
  unfold intsT
  rw [List.take_succ_eq_append_getElem hi, List.flatMap_append]
  simp
theorem bodyP_length (l : List C3) : (bodyP l).length = 5 + 27 * l.length := by unfold bodyP; rw [inE_length, intsT_length]; omega
theorem lfN_b (n : Int) : ∀ x ∈ lfN n, 0 ≤ x ∧ x ≤ 255 := fun x hx => by
  rcases List.mem_cons.1 hx with rfl | hx
  · omega
  · exact bI_b _ _ x hx
theorem bodyP_b (l : List C3) : ∀ x ∈ bodyP l, 0 ≤ x ∧ x ≤ 255 := fun x hx => by
  rcases List.mem_cons.1 hx with rfl | hx
  · omega
  · rcases List.mem_append.1 hx with hx | hx
    · exact bI_b _ _ x hx
    · obtain ⟨n, _, hn⟩ := List.mem_flatMap.1 hx
      exact lfN_b n x hn
theorem encInts {w' : World} {ns : List Int} (hn : ns.length ≤ 1000) {r : Option Nat} {A : Option Addr} {c : Nat} {sp : List Value} (ho : OB.ok ⟨r, flat lfE ns ++ sp, 101⟩ w') (hr : r = none → ns = []) :
    FnC Try.prog 65 [.agg [.int .i64 3, .int .i64 0, .slice none 0 0, .slice (base r A) ns.length c].toArray] w' (BRs (0, inE ns)) := by
  have := encode_spec (View.le.refl _) (ItV_mkJ hn (A := A) (c := c) ho hr)
  unfold encP at this
  rw [okI_mkJ hn, encI_mkJ, if_neg (by simp), if_neg (by rw [inE_length]; omega), mkJ_enc] at this
  exact this
end Go.Proofs.Ytagmoecojmlogaa
namespace Go.Proofs.Ytagmoecojmlogaa
set_option maxRecDepth 20000
set_option linter.unusedSimpArgs false
set_option linter.unusedVariables false
open Go Go.Fw
attribute [local irreducible] CW OL OD FX Stp FnC FnV FnA Ret inE intsT lfE
set_option maxHeartbeats 800000
theorem body_spec {M : View} {w : World} (hM : View.le M (View.of w)) {l : List C3} {n cc : Nat} {a : Option Addr} {b o : Nat} (hn : l.length = n) (hn1 : n ≤ 300) (s : SlA M C3.enc 3 a l b o) :
    FnC Try.prog 43 [.slice a n cc] w (RowRes (eK .u8) 1 5 (bodyP l)) := by
  subst hn
  have hlen := intsT_length l
  refine enterF (M := M) Try.func43 rfl rfl rfl rfl hM ?_
  refine cw_none 3 ?_
  repeat' first
    | apply cw_seq
    | (refine cw_region_id 0 ?_; (apply ol_as; rfl; rfl); (apply ol_nil))
    | (refine cw_region_id 1 ?_; (apply ol_as; rfl; rfl); (apply ol_nil))
    | (refine cw_region_id 2 ?_; (apply ol_mv; rfl; rfl); (apply ol_val; rfl; apply stp_pur; apply s_len; rfl; exact el_22); (apply ol_mv; rfl; rfl); (apply ol_nil))
    | (apply cw_cond_true; rfl; exact qA)
    | (apply cw_cond_false; rfl; exact qA)
    | apply cw_skip
    | apply cw_ret
    | apply cw_block
    | apply cw_exit
  refine cw_loopK (σ := NSt) [8, 9] (by (repeat (first | exact Keep.nil | (apply Keep.cons; rfl)))) (fun s => [(3, .slice (base s.r none) (intsT (l.take s.j)).length s.c), (10, .int .i64 s.j)]) (fun _ => M) (fun s => [⟨s.r, flat (eK .i64) (intsT (l.take s.j)) ++ s.sp, 3⟩]) (fun s => s.j ≤ l.length ∧ SO s.r (intsT (l.take s.j)).length s.c (flat (eK .i64) (intsT (l.take s.j))) s.sp 1) (fun s => l.length - s.j) ⟨0, none, 0, []⟩ (by rw [List.take_zero, show intsT [] = [] by unfold intsT; rfl]; (repeat (first | exact trivial | refine And.intro rfl ?_))) (View.le.refl _) (by rw [List.take_zero, show intsT [] = [] by unfold intsT; rfl]; exact qK) ⟨Nat.zero_le _, by rw [List.take_zero, show intsT [] = [] by unfold intsT; rfl]; exact SO.nil 1⟩ ?_
  rintro ⟨i, r, c, sp⟩ ⟨hi, so⟩
  dsimp only at hi so
  dsimp only
  have hPl := intsT_length (l.take i)
  rw [List.length_take] at hPl
  by_cases hin : i < l.length
  · have hci := s.cells i hin
    have hst := intsT_take hin
    have hll : (intsT (l.take (i + 1))).length = (intsT (l.take i)).length + 3 := by rw [hst, List.length_append]; rfl
    have hfl : flat (eK .i64) (intsT (l.take (i + 1))) = flat (eK .i64) (intsT (l.take i)) ++ [.int .i64 l[i].f, .int .i64 l[i].t, .int .i64 l[i].a] := by rw [hst, flat_append]; rfl
    clear hst
    generalize l[i] = z at *
    generalize hP : intsT (l.take i) = P at *
    repeat' first
      | apply cw_seq
      | (refine cw_region_id 3 ?_; (apply ol_val; rfl; apply stp_cmp; apply s_lss; rfl; rfl; all_goals (intro hc11; try (exfalso; (first | exact hc11 rfl | omega)))); all_goals (apply ol_nil))
      | (refine cw_region_id 4 ?_; (apply ol_val; rfl; apply stp_pur; first | (apply s_indexK; rfl; rfl; exact el_22; exact sz_61; (first | rfl | exact s.at_ (by omega)); omega) | (apply s_indexO; rfl; rfl; exact el_22; exact sz_61; (first | rfl | exact s.at_ (by omega)); omega)); (apply ol_ldN; rfl; rfl; rfl; exact sz_61; (first | exact qQ | (apply RdN.view; exact hci))); (apply ol_val; rfl; apply s_alloc; exact zb_61; exact qN; intro bk5); (apply ol_eff; apply s_storeN; rfl; rfl; exact sz_61; rfl; rfl; exact qN; exact qN); (apply ol_nil))
      | (refine cw_region_id 5 ?_; (apply ol_mv; rfl; rfl); (apply ol_fa; rfl; rfl; exact fd_61_0; exact qZ); (apply ol_ld; rfl; rfl; rfl; (first | exact qP | (apply RdN.view; exact hci))); (apply ol_fa; rfl; rfl; exact fd_61_1; exact qZ); (apply ol_ld; rfl; rfl; rfl; (first | exact qP | (apply RdN.view; exact hci))); (apply ol_fa; rfl; rfl; exact fd_61_2; exact qZ); (apply ol_ld; rfl; rfl; rfl; (first | exact qP | (apply RdN.view; exact hci))); (apply ol_val; rfl; apply s_buildSl; rfl; exact el_23; exact sz_3; exact zb_3; exact qN; rfl; rfl; (exact Nat.le_of_ble_eq_true rfl); exact qN; exact qR; intro bk21); (apply ol_val; rfl; first | (apply s_append_e; rfl; rfl; exact qN; exact el_23; exact sz_3; exact zb_3; rfl; exact by_3; (first | exact (fun _ => rfl) | (intro _; exact s.at_ (by omega))); (first | exact qQ); (first | rfl | exact flatK_ones); exact qO; exact qO; intro rk22 sk22 ck22 ok22) | (apply s_append_r; rfl; rfl; exact qN; (first | rfl | exact (List.append_nil _).symm); exact el_23; exact sz_3; exact zb_3; rfl; exact by_3; (first | exact SO.nil _ | assumption | (exact ⟨by simp, by simp, Nat.le_refl _, by simp⟩)); (first | exact (fun _ => rfl) | (intro _; exact s.at_ (by omega))); (first | exact qQ); (first | rfl | exact flatK_ones); exact qO; exact qO; intro rk22 sk22 ck22 ok22) | (apply s_append_b; rfl; rfl; exact qN; (first | rfl | exact (List.append_nil _).symm); exact el_23; exact sz_3; exact zb_3; rfl; exact by_3; (first | exact SO.nil _ | assumption | (exact ⟨by simp, by simp, Nat.le_refl _, by simp⟩)); (first | exact (fun _ => rfl) | (intro _; exact s.at_ (by omega))); (first | exact qQ); (first | rfl | exact flatK_ones); exact qO; exact qO; intro rk22 sk22 ck22 ok22) | (apply s_append_n; rfl; rfl; exact qN; exact el_23; exact sz_3; exact zb_3; rfl; exact by_3; (first | exact (fun _ => rfl) | (intro _; exact s.at_ (by omega))); (first | exact qQ); (first | rfl | exact flatK_ones); exact qO; exact qO; intro rk22 sk22 ck22 ok22)); (apply ol_as; rfl; rfl); (apply ol_nil))
      | (refine cw_region_id 6 ?_; (apply ol_val; rfl; apply stp_pur; apply s_add64; rfl; rfl; omega); (apply ol_mv; rfl; rfl); (apply ol_nil))
      | (refine cw_region_id 7 ?_; (apply ol_mv; rfl; rfl))
      | (refine cw_region_id 8 ?_; (apply ol_mv; rfl; rfl); (apply ol_as; rfl; rfl); (apply ol_nil))
      | (apply cw_cond_true; rfl; exact qA)
      | (apply cw_cond_false; rfl; exact qA)
      | apply cw_skip
      | apply cw_ret
      | apply cw_block
      | apply cw_exit
    rw [← hfl, ← hll] at ok22
    exact ⟨⟨i + 1, rk22, ck22, sk22⟩, ⟨by dsimp only; rw [hll]; (repeat (first | exact trivial | refine And.intro rfl ?_)), View.le.refl _, by dsimp only; rw [hfl]; exact qK, ⟨hin, ok22⟩, by dsimp only; omega⟩⟩
  · obtain rfl : i = l.length := by omega
    rw [List.take_length] at so ⊢
    have kI : ∀ (w' : World), OB.ok ⟨r, flat (eK .i64) (intsT l) ++ sp, 3⟩ w' → FnC Try.prog 66 [.slice (base r none) (intsT l).length c] w' (IntsR (intsT l)) := fun w' ho =>
      ints_spec (View.le.refl _) rfl (by omega) (SlA.own (eK_length .i64) ho (fun h => SO.emp so h))
    unfold IntsR at kI
    have kE : ∀ (w' : World) {r : Option Nat} {A : Option Addr} {c : Nat} {sp : List Value}, OB.ok ⟨r, flat lfE (intsT l) ++ sp, 101⟩ w' → (r = none → intsT l = []) → FnC Try.prog 65 [.agg [.int .i64 3, .int .i64 0, .slice none 0 0, .slice (base r A) (intsT l).length c].toArray] w' (BRs (0, inE (intsT l))) := fun w' _ _ _ _ ho hr => encInts (by omega) ho hr
    unfold BRs at kE
    unfold bodyP
    repeat' first
      | apply cw_seq
      | (refine cw_region_id 3 ?_; (apply ol_val; rfl; apply stp_cmp; apply s_lss; rfl; rfl; all_goals (intro hc11; try (exfalso; (first | exact hc11 rfl | omega)))); all_goals (apply ol_nil))
      | (refine cw_region_id 4 ?_; (apply ol_val; rfl; apply stp_pur; first | (apply s_indexK; rfl; rfl; exact el_22; exact sz_61; (first | rfl); omega) | (apply s_indexO; rfl; rfl; exact el_22; exact sz_61; (first | rfl); omega)); (apply ol_ldN; rfl; rfl; rfl; exact sz_61; exact qQ); (apply ol_val; rfl; apply s_alloc; exact zb_61; exact qN; intro bk5); (apply ol_eff; apply s_storeN; rfl; rfl; exact sz_61; rfl; rfl; exact qN; exact qN); (apply ol_nil))
      | (refine cw_region_id 5 ?_; (apply ol_mv; rfl; rfl); (apply ol_fa; rfl; rfl; exact fd_61_0; exact qZ); (apply ol_ld; rfl; rfl; rfl; exact qP); (apply ol_fa; rfl; rfl; exact fd_61_1; exact qZ); (apply ol_ld; rfl; rfl; rfl; exact qP); (apply ol_fa; rfl; rfl; exact fd_61_2; exact qZ); (apply ol_ld; rfl; rfl; rfl; exact qP); (apply ol_val; rfl; apply s_buildSl; rfl; exact el_23; exact sz_3; exact zb_3; exact qN; rfl; rfl; (exact Nat.le_of_ble_eq_true rfl); exact qN; exact qR; intro bk21); (apply ol_val; rfl; first | (apply s_append_e; rfl; rfl; exact qN; exact el_23; exact sz_3; exact zb_3; rfl; exact by_3; (first | exact (fun _ => rfl)); (first | exact qQ); (first | rfl); exact qO; exact qO; intro rk22 sk22 ck22 ok22) | (apply s_append_r; rfl; rfl; exact qN; (first | rfl | exact (List.append_nil _).symm); exact el_23; exact sz_3; exact zb_3; rfl; exact by_3; (first | exact SO.nil _ | assumption | (exact ⟨by simp, by simp, Nat.le_refl _, by simp⟩)); (first | exact (fun _ => rfl)); (first | exact qQ); (first | rfl); exact qO; exact qO; intro rk22 sk22 ck22 ok22) | (apply s_append_b; rfl; rfl; exact qN; (first | rfl | exact (List.append_nil _).symm); exact el_23; exact sz_3; exact zb_3; rfl; exact by_3; (first | exact SO.nil _ | assumption | (exact ⟨by simp, by simp, Nat.le_refl _, by simp⟩)); (first | exact (fun _ => rfl)); (first | exact qQ); (first | rfl); exact qO; exact qO; intro rk22 sk22 ck22 ok22) | (apply s_append_n; rfl; rfl; exact qN; exact el_23; exact sz_3; exact zb_3; rfl; exact by_3; (first | exact (fun _ => rfl)); (first | exact qQ); (first | rfl); exact qO; exact qO; intro rk22 sk22 ck22 ok22)); (apply ol_as; rfl; rfl); (apply ol_nil))
      | (refine cw_region_id 6 ?_; (apply ol_val; rfl; apply stp_pur; apply s_add64; rfl; rfl; omega); (apply ol_mv; rfl; rfl); (apply ol_nil))
      | (refine cw_region_id 7 ?_; (apply ol_mv; rfl; rfl); (apply ol_val; rfl; apply s_call; rfl; exact gf_66; (intro w' hw'; exact kI w' (hw'.ok_ (by (repeat (first | exact Has.here | apply Has.there))))); ((intro v new h; obtain ⟨r26, A26, c26, s26, rfl, rfl, so26⟩ := h))); (apply ol_val; rfl; apply s_call; rfl; exact gf_65; (intro w' hw'; exact kE w' (hw'.ok_ (by (repeat (first | exact Has.here | apply Has.there)))) (fun h => SO.emp so26 h)); ((intro v new h; obtain ⟨u27, rfl, r27, A27, c27, s27, rfl, rfl, so27⟩ := h))); (apply ol_mv; rfl; rfl); (apply ol_ex; rfl; rfl; rfl); (apply ol_ex; rfl; rfl; rfl); (apply ol_as; rfl; rfl); (apply ol_as; rfl; rfl); (apply ol_nil))
      | (refine cw_region_id 8 ?_; (apply ol_mv; rfl; rfl); (apply ol_as; rfl; rfl); (apply ol_nil))
      | (apply cw_cond_true; rfl; exact qA)
      | (apply cw_cond_false; rfl; exact qA)
      | apply cw_skip
      | apply cw_ret
      | apply cw_block
      | apply cw_exit
    refine ends [⟨r27, flat (eK .u8) (inE (intsT l)) ++ s27, 5⟩] (RVal.tmp rfl RVal.nil) (by exact qK) ?_
    exact ⟨r27, A27, c27, s27, rfl, rfl, so27⟩
end Go.Proofs.Ytagmoecojmlogaa
namespace Go.Proofs.Ytagmoecojmlogaa
set_option maxRecDepth 20000
set_option linter.unusedSimpArgs false
set_option linter.unusedVariables false
open Go Go.Fw
/-- A settlement that is handed back. -/
def SetR (s : SV) (F : View) (u : Value) : Prop := ∃ x : LS, u = .agg x.enc.toArray ∧ x.val = s ∧ LsV F x
def OpenR (s : SV) (v : Value) (F : View) (ys : List OB) : Prop :=
  ∃ sb ta tb to tc rv Av cv spv, SlA F C3.enc 3 ta s.tr tb to ∧ v = .pointer (some ⟨sb, 0, none⟩) ∧
    ys = [⟨some sb, [.int .i64 s.ro, .int .i64 s.ph, .int .i64 s.bk, .int .i64 s.bn, .slice ta s.tr.length tc, .slice (base rv Av) s.vo.length cv, .slice none 0 0], 70⟩, ⟨rv, flat (eK .i64) s.vo ++ spv, 3⟩] ∧ SO rv s.vo.length cv (flat (eK .i64) s.vo) spv 1
def zSV : SV := ⟨0, 0, 0, 0, [], []⟩
def newS (ro bk bn : Int) (l : List C3) : SV := ⟨ro, 0, bk, bn, l, []⟩
def newP (ro bk bn : Int) (l : List C3) : SV × Nat := if svB (newS ro bk bn l) = true then (newS ro bk bn l, 0) else (zSV, 1)
def NewR (p : SV × Nat) (v : Value) (F : View) (ys : List OB) : Prop := ∃ u, v = .tuple #[u, .int .i64 p.2] ∧ SetR p.1 F u ∧ ys = []
theorem SetR.zero (F : View) : SetR zSV F (.agg [.int .i64 0, .int .i64 0, .int .i64 0, .int .i64 0, .slice none 0 0, .slice none 0 0].toArray) :=
  ⟨⟨0, 0, 0, 0, ⟨[], none, 0, 0, 0⟩, ⟨[], none, 0, 0, 0⟩⟩, rfl, rfl, ⟨SlA.none', SlA.none', Nat.zero_le _, Nat.zero_le _⟩⟩
theorem SetR.mk {s : SV} {F : View} {ta va : Option Addr} {tb to tc vb vo vc : Nat} (h1 : SlA F C3.enc 3 ta s.tr tb to) (h2 : SlA F (eK .i64) 1 va s.vo vb vo) (l1 : s.tr.length ≤ 100000) (l2 : s.vo.length ≤ 100000) :
    SetR s F (.agg [.int .i64 s.ro, .int .i64 s.ph, .int .i64 s.bk, .int .i64 s.bn, .slice ta s.tr.length tc, .slice va s.vo.length vc].toArray) :=
  ⟨⟨s.ro, s.ph, s.bk, s.bn, ⟨s.tr, ta, tb, to, tc⟩, ⟨s.vo, va, vb, vo, vc⟩⟩, rfl, rfl, ⟨h1, h2, l1, l2⟩⟩
end Go.Proofs.Ytagmoecojmlogaa
namespace Go.Proofs.Ytagmoecojmlogaa
set_option maxRecDepth 20000
set_option linter.unusedSimpArgs false
set_option linter.unusedVariables false
open Go Go.Fw
attribute [local irreducible] CW OL OD FX Stp FnC FnV FnA FnM Ret svB
set_option maxHeartbeats 800000
theorem open_spec {M : View} {w : World} (hM : View.le M (View.of w)) {s : LS} (hs : LsV M s) : FnM Try.prog 33 [.agg s.enc.toArray] w [] (OpenR s.val) := by
  obtain ⟨ro, ph, bk, bn, ⟨tr, ta, tb, to, tc⟩, ⟨vo, va, vb, vo', vc⟩⟩ := s
  obtain ⟨s1, s2, l1, l2⟩ := hs
  unfold LS.enc LS.val
  dsimp only at s1 s2 l1 l2 ⊢
  have k1 := fun (w' : World) (h : View.le M (View.of w')) => cloneTr_spec h rfl (c := tc) s1 (by omega)
  have k2 := fun (w' : World) (h : View.le M (View.of w')) => cloneInts_spec h rfl (c := vc) s2 (by omega)
  unfold RowRes at k1 k2
  refine enterW (M := M) Try.func33 rfl rfl rfl rfl hM (fun _ h => by cases h) (fun _ h => by cases h) List.nodup_nil ?_
  repeat' first
    | apply cw_seq
    | (refine cw_region_id 0 ?_; (apply ol_val; rfl; first | (apply s_boxN; rfl; intro bk1) | (apply s_box1; rfl; rfl; intro bk1)); (apply ol_as; rfl; rfl); (apply ol_nil))
    | (refine cw_draw (id := 1) 7 (.mv 0 (.mv 1 (.mv 3 (.mv 4 (.fx 2 (.mv 6 (.fx 5 (PT.nil)))))))) mixed (by kernel_rfl) ?_; (apply od_mv; rfl; rfl; apply s_fieldAddr'; rfl; exact fd_25_4; exact qZ); (apply od_mv; rfl; rfl; apply s_load1; rfl; rfl; exact qP); (apply od_mv; rfl; rfl; apply s_fieldAddr'; rfl; exact fd_25_5; exact qZ); (apply od_mv; rfl; rfl; apply s_load1; rfl; rfl; exact qP); (apply od_fx; (first | exact Wk.refl _ _ | exact qW); (apply fx_val; rfl; rfl; apply s_call; rfl; exact gf_41; (intro w' hw'; exact k1 w' hw'.le); ((intro v new h; obtain ⟨r5, A5, c5, s5, rfl, rfl, so5⟩ := h)))); (apply od_mv; rfl; rfl; apply s_fieldAddr'; rfl; exact fd_25_4; exact qZ); (apply od_fx; (first | exact Wk.refl _ _ | exact qW); (apply fx_val; rfl; rfl; apply s_call; rfl; exact gf_58; (intro w' hw'; exact k2 w' hw'.le); ((intro v new h; obtain ⟨r8, A8, c8, s8, rfl, rfl, so8⟩ := h)))); (apply od_nil; (first | exact Wk.refl _ _ | exact qW)); (apply ol_eff; apply s_store1; rfl; rfl; exact sz_22; rfl; exact qN; exact qT); (apply ol_fa; rfl; rfl; exact fd_25_5; exact qZ); (apply ol_eff; apply s_store1; rfl; rfl; exact sz_23; rfl; exact qN; exact qT); (apply ol_nil))
    | (refine cw_region_id 2 ?_; (apply ol_ldN; rfl; rfl; rfl; exact sz_25; exact qQ); (apply ol_val; rfl; apply stp_pur; apply s_buildS; rfl; exact fs_70; exact zb_70; (focus ((repeat (first | exact Fil.nil | (apply Fil.one; rfl; rfl; (repeat (first | exact SetAt.zero | apply SetAt.succ))) | (apply Fil.agg; rfl; rfl; (repeat (first | exact SetN.nil | (apply SetN.cons; (repeat (first | exact SetAt.zero | apply SetAt.succ))))); (exact Nat.le_of_ble_eq_true rfl)))); done))); (apply ol_val; rfl; first | (apply s_boxN; rfl; intro bk13) | (apply s_box1; rfl; rfl; intro bk13)); (apply ol_as; rfl; rfl); (apply ol_nil))
    | (apply cw_cond_true; rfl; exact qA)
    | (apply cw_cond_false; rfl; exact qA)
    | apply cw_skip
    | apply cw_ret
    | apply cw_block
    | apply cw_exit
  refine endsW [⟨some bk13, [.int .i64 ro, .int .i64 ph, .int .i64 bk, .int .i64 bn, .slice (base r5 A5) tr.length c5, .slice (base r8 A8) vo.length c8, .slice none 0 0], 70⟩, ⟨r8, flat (eK .i64) vo ++ s8, 3⟩] [⟨r5, flat C3.enc tr ++ s5, 61⟩] View.nil (RVal.tmp rfl RVal.nil) (by exact qK) (View.nil_le _) (View.freshM_nil _ _) (fun F _ hz => ?_)
  exact ⟨bk13, _, _, _, c5, r8, A8, c8, s8, SlA.inV C3.enc_length (hz _ (List.Mem.head _)) (fun h => SO.emp so5 h), rfl, rfl, so8⟩
theorem new_spec {M : View} {w : World} (hM : View.le M (View.of w)) (ro bk bn : Int) {l : List C3} {n c : Nat} {a : Option Addr} {b o : Nat} (hn : l.length = n) (hn1 : n ≤ 100000) (s : SlA M C3.enc 3 a l b o) :
    FnM Try.prog 18 [.int .i64 ro, .int .i64 bk, .int .i64 bn, .slice a n c] w [] (NewR (newP ro bk bn l)) := by
  subst hn
  have k1 := fun (w' : World) (h : View.le M (View.of w')) => cloneTr_spec h rfl (c := c) s (by omega)
  unfold RowRes at k1
  have kv : ∀ (w' : World) {r : Option Nat} {A : Option Addr} {c : Nat} {sp : List Value}, OB.ok ⟨r, flat C3.enc l ++ sp, 61⟩ w' → (r = none → l = []) → FnC Try.prog 24 [.agg [.int .i64 ro, .int .i64 0, .int .i64 bk, .int .i64 bn, .slice (base r A) l.length c, .slice none 0 0].toArray] w' (fun v _ => v = .bool (svB (newS ro bk bn l))) := fun w' r A c sp ho hr =>
    valid_spec' (s := ⟨ro, 0, bk, bn, ⟨l, base r A, r.getD 0, 0, c⟩, ⟨[], none, 0, 0, 0⟩⟩) (View.le.refl _) ⟨SlA.own C3.enc_length ho hr, SlA.none', hn1, Nat.zero_le _⟩
  unfold newP
  refine enterW (M := M) Try.func18 rfl rfl rfl rfl hM (fun _ h => by cases h) (fun _ h => by cases h) List.nodup_nil ?_
  cases hv : svB (newS ro bk bn l) with
  | true =>
    rw [if_pos rfl]
    rw [hv] at kv
    repeat' first
      | apply cw_seq
      | (refine cw_region_id 0 ?_; (apply ol_val; rfl; apply s_alloc; exact zb_25; exact qN; intro bk8); (apply ol_as; rfl; rfl); (apply ol_nil))
      | (refine cw_region_id 1 ?_; (apply ol_mv; rfl; rfl); (apply ol_mv; rfl; rfl); (apply ol_mv; rfl; rfl); (apply ol_mv; rfl; rfl); (apply ol_val; rfl; apply s_call; rfl; exact gf_41; (intro w' hw'; exact k1 w' hw'.le); ((intro v new h; obtain ⟨r5, A5, c5, s5, rfl, rfl, so5⟩ := h))); (apply ol_val; rfl; apply stp_pur; apply s_buildS; rfl; exact fs_25; exact zb_25; exact qR); (apply ol_val; rfl; apply s_alloc; exact zb_25; exact qN; intro bk10); (apply ol_eff; apply s_storeN; rfl; rfl; exact sz_25; rfl; rfl; exact qN; exact qN); (apply ol_nil))
      | (refine cw_region_id 2 ?_; (apply ol_ldN; rfl; rfl; rfl; exact sz_25; exact qQ); (apply ol_val; rfl; apply s_callv; rfl; exact gf_24; (intro w' hw'; exact kv w' (hw'.ok_ (by (repeat (first | exact Has.here | apply Has.there)))) (fun h => SO.emp so5 h))); (apply ol_val; rfl; apply stp_pur; first | (apply s_not_t; rfl; exact qA) | (apply s_not_f; rfl; exact qA) | (apply s_not; rfl)); (apply ol_nil))
      | (refine cw_region_id 4 ?_; (apply ol_ldN; rfl; rfl; rfl; exact sz_25; exact qQ); (apply ol_eff; apply s_storeN; rfl; rfl; exact sz_25; rfl; rfl; exact qN; exact qN); (apply ol_as; rfl; rfl); (apply ol_nil))
      | (apply cw_cond_true; rfl; exact qA)
      | (apply cw_cond_false; rfl; exact qA)
      | apply cw_skip
      | apply cw_ret
      | apply cw_block
      | apply cw_exit
    refine endsW [] [⟨r5, flat C3.enc l ++ s5, 61⟩] View.nil (RVal.cellN rfl rfl rfl (RdN.own (by (repeat (first | exact Has.here | apply Has.there))) (by focus ((repeat (first | rfl | constructor)); done))) (RVal.tmp rfl RVal.nil)) (by exact qK) (View.nil_le _) (View.freshM_nil _ _) (fun F _ hz => ?_)
    exact ⟨_, rfl, SetR.mk (s := newS ro bk bn l) (SlA.inV C3.enc_length (hz _ (List.Mem.head _)) (fun h => SO.emp so5 h)) (SlA.none' (b := 0) (o := 0)) hn1 (Nat.zero_le _), rfl⟩
  | false =>
    rw [if_neg (by simp)]
    rw [hv] at kv
    repeat' first
      | apply cw_seq
      | (refine cw_region_id 0 ?_; (apply ol_val; rfl; apply s_alloc; exact zb_25; exact qN; intro bk8); (apply ol_as; rfl; rfl); (apply ol_nil))
      | (refine cw_region_id 1 ?_; (apply ol_mv; rfl; rfl); (apply ol_mv; rfl; rfl); (apply ol_mv; rfl; rfl); (apply ol_mv; rfl; rfl); (apply ol_val; rfl; apply s_call; rfl; exact gf_41; (intro w' hw'; exact k1 w' hw'.le); ((intro v new h; obtain ⟨r5, A5, c5, s5, rfl, rfl, so5⟩ := h))); (apply ol_val; rfl; apply stp_pur; apply s_buildS; rfl; exact fs_25; exact zb_25; exact qR); (apply ol_val; rfl; apply s_alloc; exact zb_25; exact qN; intro bk10); (apply ol_eff; apply s_storeN; rfl; rfl; exact sz_25; rfl; rfl; exact qN; exact qN); (apply ol_nil))
      | (refine cw_region_id 2 ?_; (apply ol_ldN; rfl; rfl; rfl; exact sz_25; exact qQ); (apply ol_val; rfl; apply s_callv; rfl; exact gf_24; (intro w' hw'; exact kv w' (hw'.ok_ (by (repeat (first | exact Has.here | apply Has.there)))) (fun h => SO.emp so5 h))); (apply ol_val; rfl; apply stp_pur; first | (apply s_not_t; rfl; exact qA) | (apply s_not_f; rfl; exact qA) | (apply s_not; rfl)); (apply ol_nil))
      | (refine cw_region_id 3 ?_; (apply ol_val; rfl; apply stp_pur; apply s_buildS; rfl; exact fs_25; exact zb_25; exact qR); (apply ol_eff; apply s_storeN; rfl; rfl; exact sz_25; rfl; rfl; exact qN; exact qN); (apply ol_as; rfl; rfl); (apply ol_nil))
      | (apply cw_cond_true; rfl; exact qA)
      | (apply cw_cond_false; rfl; exact qA)
      | apply cw_skip
      | apply cw_ret
      | apply cw_block
      | apply cw_exit
    refine endsW [] [] View.nil (RVal.cellN rfl rfl rfl (RdN.own (by (repeat (first | exact Has.here | apply Has.there))) (by focus ((repeat (first | rfl | constructor)); done))) (RVal.tmp rfl RVal.nil)) Pick.nil (View.nil_le _) (View.freshM_nil _ _) (fun F _ hz => ?_)
    exact ⟨_, rfl, SetR.zero F, rfl⟩
end Go.Proofs.Ytagmoecojmlogaa
namespace Go.Proofs.Ytagmoecojmlogaa
set_option maxRecDepth 20000
set_option linter.unusedSimpArgs false
set_option linter.unusedVariables false
open Go Go.Fw
/-- The copy and its rows, of our own. -/
def CopR (s : SV) (v : Value) (ys : List OB) : Prop :=
  ∃ rt ct spt rv cv spv, v = .agg [.int .i64 s.ro, .int .i64 s.ph, .int .i64 s.bk, .int .i64 s.bn, .slice (base rt none) s.tr.length ct, .slice (base rv none) s.vo.length cv].toArray ∧ ys = [⟨rt, flat C3.enc s.tr ++ spt, 61⟩, ⟨rv, flat (eK .i64) s.vo ++ spv, 3⟩] ∧ SO rt s.tr.length ct (flat C3.enc s.tr) spt 3 ∧ SO rv s.vo.length cv (flat (eK .i64) s.vo) spv 1
theorem flat_take3 {l : List C3} {i : Nat} (h : i < l.length) : flat C3.enc (l.take (i + 1)) = flat C3.enc (l.take i) ++ l[i].enc := by
  rw [List.take_succ_eq_append_getElem h, flat_append]
  congr 1
theorem flat_take1 {l : List Int} {i : Nat} (h : i < l.length) : flat (eK .i64) (l.take (i + 1)) = flat (eK .i64) (l.take i) ++ [.int .i64 l[i]] := by
  rw [List.take_succ_eq_append_getElem h, flat_append]
  rfl
end Go.Proofs.Ytagmoecojmlogaa
namespace Go.Proofs.Ytagmoecojmlogaa
set_option maxRecDepth 20000
set_option linter.unusedSimpArgs false
set_option linter.unusedVariables false
open Go Go.Fw
attribute [local irreducible] CW OL OD FX Stp FnC FnV FnA FnM Ret svB
set_option maxHeartbeats 800000
theorem copied_spec {M : View} {w : World} (hM : View.le M (View.of w)) {s : LS} (hs : LsV M s) : FnC Try.prog 37 [.agg s.enc.toArray] w (CopR s.val) := by
  obtain ⟨ro, ph, bk, bn, ⟨tr, ta, tb, to, tc⟩, ⟨vo, va, vb, vo', vc⟩⟩ := s
  obtain ⟨s1, s2, l1, l2⟩ := hs
  unfold LS.enc LS.val
  dsimp only at s1 s2 l1 l2 ⊢
  refine enterF (M := M) Try.func37 rfl rfl rfl rfl hM ?_
  refine cw_none 61 ?_
  refine cw_none 3 ?_
  repeat' first
    | apply cw_seq
    | (refine cw_region_id 0 ?_; (apply ol_val; rfl; first | (apply s_boxN; rfl; intro bk1) | (apply s_box1; rfl; rfl; intro bk1)); (apply ol_val; rfl; apply s_alloc; exact zb_25; exact qN; intro bk2); (apply ol_nil))
    | (refine cw_region_id 1 ?_; (apply ol_ldN; rfl; rfl; rfl; exact sz_25; exact qQ); (apply ol_val; rfl; apply s_alloc; exact zb_25; exact qN; intro bk3); (apply ol_eff; apply s_storeN; rfl; rfl; exact sz_25; rfl; rfl; exact qN; exact qN); (apply ol_nil))
    | (refine cw_region_id 2 ?_; (apply ol_fa; rfl; rfl; exact fd_25_4; exact qZ); (apply ol_eff; apply s_store1; rfl; rfl; exact sz_22; rfl; exact qN; exact qT); (apply ol_fa; rfl; rfl; exact fd_25_5; exact qZ); (apply ol_eff; apply s_store1; rfl; rfl; exact sz_23; rfl; exact qN; exact qT); (apply ol_nil))
    | (refine cw_region_id 3 ?_; (apply ol_as; rfl; rfl); (apply ol_nil))
    | (apply cw_cond_true; rfl; exact qA)
    | (apply cw_cond_false; rfl; exact qA)
    | apply cw_skip
    | apply cw_ret
    | apply cw_block
    | apply cw_exit
  refine cw_loopK (σ := NSt) [1, 2, 3] (by (repeat (first | exact Keep.nil | (apply Keep.cons; rfl)))) (fun s => [(4, .int .i64 s.j)]) (fun _ => M) (fun s => [⟨s.r, flat C3.enc (tr.take s.j) ++ s.sp, 61⟩, ⟨none, [], 3⟩, ⟨some bk3, [.int .i64 ro, .int .i64 ph, .int .i64 bk, .int .i64 bn, .slice (base s.r none) s.j s.c, .slice none 0 0], 25⟩, ⟨some bk2, [.int .i64 0, .int .i64 0, .int .i64 0, .int .i64 0, .slice none 0 0, .slice none 0 0], 25⟩, ⟨some bk1, [.int .i64 ro, .int .i64 ph, .int .i64 bk, .int .i64 bn, .slice ta tr.length tc, .slice va vo.length vc], 25⟩]) (fun s => s.j ≤ tr.length ∧ SO s.r s.j s.c (flat C3.enc (tr.take s.j)) s.sp 3) (fun s => tr.length - s.j) ⟨0, none, 0, []⟩ (by (repeat (first | exact trivial | refine And.intro rfl ?_))) (View.le.refl _) (by rw [List.take_zero]; exact qK) ⟨Nat.zero_le _, by rw [List.take_zero]; exact SO.nil 3⟩ ?_
  rintro ⟨i, r, c, sp⟩ ⟨hi, so⟩
  dsimp only at hi so
  dsimp only
  by_cases hin : i < tr.length
  · have hci := s1.cells i hin
    have hfl := flat_take3 hin
    generalize tr[i] = z at *
    generalize tr.take i = P at *
    repeat' first
      | apply cw_seq
      | (refine cw_region_id 4 ?_; (apply ol_mv; rfl; rfl); (apply ol_fa; rfl; rfl; exact fd_25_4; exact qZ); (apply ol_ld; rfl; rfl; rfl; (first | exact qP | (apply RdN.view; exact hci))); (apply ol_val; rfl; apply stp_pur; apply s_len; rfl; exact el_22); (apply ol_val; rfl; apply stp_cmp; apply s_lss; rfl; rfl; all_goals (intro hc13; try (exfalso; (first | exact hc13 rfl | omega)))); all_goals (apply ol_nil))
      | (refine cw_draw (id := 6) 8 (.mv 0 (.mv 1 (.mv 2 (.mv 3 (.mv 4 (.mv 5 (.mv 6 (.fx 7 (PT.nil))))))))) mixed (by kernel_rfl) ?_; (apply od_mv; rfl; rfl; apply s_fieldAddr'; rfl; exact fd_25_4; exact qZ); (apply od_mv; rfl; rfl; apply s_load1; rfl; rfl; (first | exact qP | (apply RdN.view; exact hci))); (apply od_mv; rfl; rfl; apply s_fieldAddr'; rfl; exact fd_25_4; exact qZ); (apply od_mv; rfl; rfl; apply s_load1; rfl; rfl; (first | exact qP | (apply RdN.view; exact hci))); (apply od_mv; rfl; rfl; apply s_move; rfl); (apply od_mv; rfl; rfl; first | (apply s_indexK; rfl; rfl; exact el_22; exact sz_61; (first | rfl | exact s1.at_ (by omega)); omega) | (apply s_indexO; rfl; rfl; exact el_22; exact sz_61; (first | rfl | exact s1.at_ (by omega)); omega)); (apply od_mv; rfl; rfl; apply s_loadN; rfl; rfl; exact sz_61; (first | exact qQ | (apply RdN.view; exact hci))); (apply od_fx; (first | exact Wk.refl _ _ | exact qW); (apply fx_val; rfl; rfl; apply s_buildSl; rfl; exact el_22; exact sz_61; exact zb_61; exact qN; rfl; rfl; (exact Nat.le_of_ble_eq_true rfl); exact qN; (focus ((repeat (first | exact Fil.nil | (apply Fil.one; rfl; rfl; (repeat (first | exact SetAt.zero | apply SetAt.succ))) | (apply Fil.agg; rfl; rfl; (repeat (first | exact SetN.nil | (apply SetN.cons; (repeat (first | exact SetAt.zero | apply SetAt.succ))))); (exact Nat.le_of_ble_eq_true rfl)))); done)); intro bk23)); (apply od_nil; (first | exact Wk.refl _ _ | exact qW)); (apply ol_val; rfl; first | (apply s_append_e; rfl; rfl; exact qN; exact el_22; exact sz_61; exact zb_61; rfl; exact by_61; (first | exact (fun _ => rfl) | (intro _; exact s1.at_ (by omega))); (first | exact qQ); (first | rfl | exact ones_flat C3.ones _); exact qO; exact qO; intro rk24 sk24 ck24 ok24) | (apply s_append_r; rfl; rfl; exact qN; (first | rfl | exact (List.append_nil _).symm); exact el_22; exact sz_61; exact zb_61; rfl; exact by_61; (first | exact SO.nil _ | assumption | (exact ⟨by simp, by simp, Nat.le_refl _, by simp⟩)); (first | exact (fun _ => rfl) | (intro _; exact s1.at_ (by omega))); (first | exact qQ); (first | rfl | exact ones_flat C3.ones _); exact qO; exact qO; intro rk24 sk24 ck24 ok24) | (apply s_append_b; rfl; rfl; exact qN; (first | rfl | exact (List.append_nil _).symm); exact el_22; exact sz_61; exact zb_61; rfl; exact by_61; (first | exact SO.nil _ | assumption | (exact ⟨by simp, by simp, Nat.le_refl _, by simp⟩)); (first | exact (fun _ => rfl) | (intro _; exact s1.at_ (by omega))); (first | exact qQ); (first | rfl | exact ones_flat C3.ones _); exact qO; exact qO; intro rk24 sk24 ck24 ok24) | (apply s_append_n; rfl; rfl; exact qN; exact el_22; exact sz_61; exact zb_61; rfl; exact by_61; (first | exact (fun _ => rfl) | (intro _; exact s1.at_ (by omega))); (first | exact qQ); (first | rfl | exact ones_flat C3.ones _); exact qO; exact qO; intro rk24 sk24 ck24 ok24)); (apply ol_fa; rfl; rfl; exact fd_25_4; exact qZ); (apply ol_eff; apply s_store1; rfl; rfl; exact sz_22; rfl; exact qN; exact qT); (apply ol_nil))
      | (refine cw_region_id 5 ?_; (apply ol_mv; rfl; rfl); (apply ol_val; rfl; apply stp_pur; apply s_add64; rfl; rfl; omega); (apply ol_as; rfl; rfl); (apply ol_nil))
      | (refine cw_region_id 7 ?_; (apply ol_as; rfl; rfl); (apply ol_nil))
      | (apply cw_cond_true; rfl; exact qA)
      | (apply cw_cond_false; rfl; exact qA)
      | apply cw_skip
      | apply cw_ret
      | apply cw_block
      | apply cw_exit
    all_goals (rw [← hfl] at ok24; exact ⟨⟨i + 1, rk24, ck24, sk24⟩, ⟨by (repeat (first | exact trivial | refine And.intro rfl ?_)), View.le.refl _, by dsimp only; rw [hfl]; exact qK, ⟨hin, ok24⟩, by dsimp only; omega⟩⟩)
  · obtain rfl : i = tr.length := by omega
    rw [List.take_length] at so ⊢
    repeat' first
      | apply cw_seq
      | (refine cw_region_id 4 ?_; (apply ol_mv; rfl; rfl); (apply ol_fa; rfl; rfl; exact fd_25_4; exact qZ); (apply ol_ld; rfl; rfl; rfl; exact qP); (apply ol_val; rfl; apply stp_pur; apply s_len; rfl; exact el_22); (apply ol_val; rfl; apply stp_cmp; apply s_lss; rfl; rfl; all_goals (intro hc13; try (exfalso; (first | exact hc13 rfl | omega)))); all_goals (apply ol_nil))
      | (refine cw_region_id 7 ?_; (apply ol_as; rfl; rfl); (apply ol_nil))
      | (apply cw_cond_true; rfl; exact qA)
      | (apply cw_cond_false; rfl; exact qA)
      | apply cw_skip
      | apply cw_ret
      | apply cw_block
      | apply cw_exit
    refine cw_loopK (σ := NSt) [1, 2, 3] (by (repeat (first | exact Keep.nil | (apply Keep.cons; rfl)))) (fun s => [(5, .int .i64 s.j)]) (fun _ => M) (fun s => [⟨s.r, flat (eK .i64) (vo.take s.j) ++ s.sp, 3⟩, ⟨r, flat C3.enc tr ++ sp, 61⟩, ⟨some bk3, [.int .i64 ro, .int .i64 ph, .int .i64 bk, .int .i64 bn, .slice (base r none) tr.length c, .slice (base s.r none) s.j s.c], 25⟩, ⟨some bk2, [.int .i64 0, .int .i64 0, .int .i64 0, .int .i64 0, .slice none 0 0, .slice none 0 0], 25⟩, ⟨some bk1, [.int .i64 ro, .int .i64 ph, .int .i64 bk, .int .i64 bn, .slice ta tr.length tc, .slice va vo.length vc], 25⟩]) (fun s => s.j ≤ vo.length ∧ SO s.r s.j s.c (flat (eK .i64) (vo.take s.j)) s.sp 1) (fun s => vo.length - s.j) ⟨0, none, 0, []⟩ (by (repeat (first | exact trivial | refine And.intro rfl ?_))) (View.le.refl _) (by rw [List.take_zero]; exact qK) ⟨Nat.zero_le _, by rw [List.take_zero]; exact SO.nil 1⟩ ?_
    rintro ⟨i, r2, c2, sp2⟩ ⟨hi, so2⟩
    dsimp only at hi so2
    dsimp only
    by_cases hin : i < vo.length
    · have hci := s2.cells i hin
      have hfl := flat_take1 hin
      generalize vo[i] = z at *
      generalize vo.take i = P at *
      repeat' first
        | apply cw_seq
        | (refine cw_region_id 8 ?_; (apply ol_mv; rfl; rfl); (apply ol_fa; rfl; rfl; exact fd_25_5; exact qZ); (apply ol_ld; rfl; rfl; rfl; (first | exact qP | (apply RdN.view; exact hci))); (apply ol_val; rfl; apply stp_pur; apply s_len; rfl; exact el_23); (apply ol_val; rfl; apply stp_cmp; apply s_lss; rfl; rfl; all_goals (intro hc30; try (exfalso; (first | exact hc30 rfl | omega)))); all_goals (apply ol_nil))
        | (refine cw_draw (id := 10) 8 (.mv 0 (.mv 1 (.mv 2 (.mv 3 (.mv 4 (.mv 5 (.mv 6 (.fx 7 (PT.nil))))))))) mixed (by kernel_rfl) ?_; (apply od_mv; rfl; rfl; apply s_fieldAddr'; rfl; exact fd_25_5; exact qZ); (apply od_mv; rfl; rfl; apply s_load1; rfl; rfl; (first | exact qP | (apply RdN.view; exact hci))); (apply od_mv; rfl; rfl; apply s_fieldAddr'; rfl; exact fd_25_5; exact qZ); (apply od_mv; rfl; rfl; apply s_load1; rfl; rfl; (first | exact qP | (apply RdN.view; exact hci))); (apply od_mv; rfl; rfl; apply s_move; rfl); (apply od_mv; rfl; rfl; first | (apply s_indexK; rfl; rfl; exact el_23; exact sz_3; (first | rfl | exact s2.at_ (by omega)); omega) | (apply s_indexO; rfl; rfl; exact el_23; exact sz_3; (first | rfl | exact s2.at_ (by omega)); omega)); (apply od_mv; rfl; rfl; apply s_load1; rfl; rfl; (first | exact qP | (apply RdN.view; exact hci))); (apply od_fx; (first | exact Wk.refl _ _ | exact qW); (apply fx_val; rfl; rfl; apply s_buildSl; rfl; exact el_23; exact sz_3; exact zb_3; exact qN; rfl; rfl; (exact Nat.le_of_ble_eq_true rfl); exact qN; exact qR; intro bk40)); (apply od_nil; (first | exact Wk.refl _ _ | exact qW)); (apply ol_val; rfl; first | (apply s_append_e; rfl; rfl; exact qN; exact el_23; exact sz_3; exact zb_3; rfl; exact by_3; (first | exact (fun _ => rfl) | (intro _; exact s2.at_ (by omega))); (first | exact qQ); (first | rfl | exact flatK_ones); exact qO; exact qO; intro rk41 sk41 ck41 ok41) | (apply s_append_r; rfl; rfl; exact qN; (first | rfl | exact (List.append_nil _).symm); exact el_23; exact sz_3; exact zb_3; rfl; exact by_3; (first | exact SO.nil _ | assumption | (exact ⟨by simp, by simp, Nat.le_refl _, by simp⟩)); (first | exact (fun _ => rfl) | (intro _; exact s2.at_ (by omega))); (first | exact qQ); (first | rfl | exact flatK_ones); exact qO; exact qO; intro rk41 sk41 ck41 ok41) | (apply s_append_b; rfl; rfl; exact qN; (first | rfl | exact (List.append_nil _).symm); exact el_23; exact sz_3; exact zb_3; rfl; exact by_3; (first | exact SO.nil _ | assumption | (exact ⟨by simp, by simp, Nat.le_refl _, by simp⟩)); (first | exact (fun _ => rfl) | (intro _; exact s2.at_ (by omega))); (first | exact qQ); (first | rfl | exact flatK_ones); exact qO; exact qO; intro rk41 sk41 ck41 ok41) | (apply s_append_n; rfl; rfl; exact qN; exact el_23; exact sz_3; exact zb_3; rfl; exact by_3; (first | exact (fun _ => rfl) | (intro _; exact s2.at_ (by omega))); (first | exact qQ); (first | rfl | exact flatK_ones); exact qO; exact qO; intro rk41 sk41 ck41 ok41)); (apply ol_fa; rfl; rfl; exact fd_25_5; exact qZ); (apply ol_eff; apply s_store1; rfl; rfl; exact sz_23; rfl; exact qN; exact qT); (apply ol_nil))
        | (refine cw_region_id 9 ?_; (apply ol_mv; rfl; rfl); (apply ol_val; rfl; apply stp_pur; apply s_add64; rfl; rfl; omega); (apply ol_as; rfl; rfl); (apply ol_nil))
        | (refine cw_region_id 11 ?_; (apply ol_ldN; rfl; rfl; rfl; exact sz_25; (first | exact qQ | (apply RdN.view; exact hci))); (apply ol_eff; apply s_storeN; rfl; rfl; exact sz_25; rfl; rfl; exact qN; exact qN); (apply ol_nil))
        | (apply cw_cond_true; rfl; exact qA)
        | (apply cw_cond_false; rfl; exact qA)
        | apply cw_skip
        | apply cw_ret
        | apply cw_block
        | apply cw_exit
      all_goals (rw [← hfl] at ok41; exact ⟨⟨i + 1, rk41, ck41, sk41⟩, ⟨by (repeat (first | exact trivial | refine And.intro rfl ?_)), View.le.refl _, by dsimp only; rw [hfl]; exact qK, ⟨hin, ok41⟩, by dsimp only; omega⟩⟩)
    · obtain rfl : i = vo.length := by omega
      rw [List.take_length] at so2 ⊢
      repeat' first
        | apply cw_seq
        | (refine cw_region_id 8 ?_; (apply ol_mv; rfl; rfl); (apply ol_fa; rfl; rfl; exact fd_25_5; exact qZ); (apply ol_ld; rfl; rfl; rfl; exact qP); (apply ol_val; rfl; apply stp_pur; apply s_len; rfl; exact el_23); (apply ol_val; rfl; apply stp_cmp; apply s_lss; rfl; rfl; all_goals (intro hc30; try (exfalso; (first | exact hc30 rfl | omega)))); all_goals (apply ol_nil))
        | (refine cw_region_id 11 ?_; (apply ol_ldN; rfl; rfl; rfl; exact sz_25; exact qQ); (apply ol_eff; apply s_storeN; rfl; rfl; exact sz_25; rfl; rfl; exact qN; exact qN); (apply ol_nil))
        | (apply cw_cond_true; rfl; exact qA)
        | (apply cw_cond_false; rfl; exact qA)
        | apply cw_skip
        | apply cw_ret
        | apply cw_block
        | apply cw_exit
      refine ends [⟨r, flat C3.enc tr ++ sp, 61⟩, ⟨r2, flat (eK .i64) vo ++ sp2, 3⟩] (RVal.cellN rfl rfl rfl (RdN.own (by (repeat (first | exact Has.here | apply Has.there))) (by focus ((repeat (first | rfl | constructor)); done))) RVal.nil) (by exact qK) ?_
      exact ⟨r, c, sp, r2, c2, sp2, rfl, rfl, so, so2⟩
end Go.Proofs.Ytagmoecojmlogaa
namespace Go.Proofs.Ytagmoecojmlogaa
set_option maxRecDepth 20000
set_option linter.unusedSimpArgs false
set_option linter.unusedVariables false
open Go Go.Fw
def flB (b : Bool) : Int := if b = true then 1 else 0
def missF (fr ro ki : Int) (bo : List Int) : Nat → List Int → List MV
  | _, [] => []
  | i, v :: r => if v = 0 then ⟨fr, i, ki, ro, bo⟩ :: missF fr ro ki bo (i + 1) r else missF fr ro ki bo (i + 1) r
theorem missF_append (fr ro ki : Int) (bo : List Int) : ∀ (a : List Int) (i : Nat) (b : List Int), missF fr ro ki bo i (a ++ b) = missF fr ro ki bo i a ++ missF fr ro ki bo (i + a.length) b
  | [], i, b => by simp [missF]
  | v :: a, i, b => by
    have ih := missF_append fr ro ki bo a (i + 1) b
    simp only [List.cons_append, missF, List.length_cons]
    rw [ih, show i + 1 + a.length = i + (a.length + 1) by omega]
    split <;> simp
theorem missF_take {fr ro ki : Int} {bo : List Int} {l : List Int} {i : Nat} (h : i < l.length) : missF fr ro ki bo 0 (l.take (i + 1)) = missF fr ro ki bo 0 (l.take i) ++ (if l[i] = 0 then [⟨fr, i, ki, ro, bo⟩] else []) := by
  rw [List.take_succ_eq_append_getElem h, missF_append, List.length_take, Nat.min_eq_left (by omega), Nat.zero_add]
  simp [missF]
theorem missF_length (fr ro ki : Int) (bo : List Int) : ∀ (l : List Int) (i : Nat), (missF fr ro ki bo i l).length ≤ l.length
  | [], _ => Nat.zero_le _
  | v :: l, i => by
    have := missF_length fr ro ki bo l (i + 1)
    unfold missF
    split
    · simp only [List.length_cons]; omega
    · simp only [List.length_cons]; omega
theorem flat_snoc {α : Type} (enc : α → List Value) (l : List α) (x : α) : flat enc (l ++ [x]) = flat enc l ++ enc x := by
  rw [flat_append]
  congr 1
  show enc x ++ [] = enc x
  rw [List.append_nil]
end Go.Proofs.Ytagmoecojmlogaa
namespace Go.Proofs.Ytagmoecojmlogaa
set_option maxRecDepth 20000
set_option linter.unusedSimpArgs false
set_option linter.unusedVariables false
open Go Go.Fw
attribute [local irreducible] CW OL OD FX Stp FnC FnV FnA FnM Ret svB
set_option maxHeartbeats 800000
theorem flag_spec (w : World) (b : Bool) : FnC Try.prog 45 [.bool b] w (fun v _ => v = .int .u8 (flB b)) := by
  refine enterF (M := View.of w) Try.func45 rfl rfl rfl rfl (View.le.refl _) ?_
  cases b with
  | true =>
    repeat' first
      | apply cw_seq
      | (refine cw_region_id 0 ?_; (apply ol_as; rfl; rfl); (apply ol_nil))
      | (refine cw_region_id 1 ?_; (apply ol_mv; rfl; rfl); (apply ol_nil))
      | (refine cw_region_id 2 ?_; (apply ol_as; rfl; rfl); (apply ol_nil))
      | (refine cw_region_id 3 ?_; (apply ol_as; rfl; rfl); (apply ol_nil))
      | (apply cw_cond_true; rfl; exact qA)
      | (apply cw_cond_false; rfl; exact qA)
      | apply cw_skip
      | apply cw_ret
      | apply cw_block
      | apply cw_exit
    all_goals (refine ends [] (RVal.tmp rfl RVal.nil) Pick.nil ?_; rfl)
  | false =>
    repeat' first
      | apply cw_seq
      | (refine cw_region_id 0 ?_; (apply ol_as; rfl; rfl); (apply ol_nil))
      | (refine cw_region_id 1 ?_; (apply ol_mv; rfl; rfl); (apply ol_nil))
      | (refine cw_region_id 2 ?_; (apply ol_as; rfl; rfl); (apply ol_nil))
      | (refine cw_region_id 3 ?_; (apply ol_as; rfl; rfl); (apply ol_nil))
      | (apply cw_cond_true; rfl; exact qA)
      | (apply cw_cond_false; rfl; exact qA)
      | apply cw_skip
      | apply cw_ret
      | apply cw_block
      | apply cw_exit
    all_goals (refine ends [] (RVal.tmp rfl RVal.nil) Pick.nil ?_; rfl)
theorem commits_spec {M : View} {w : World} (hM : View.le M (View.of w)) {sb : Nat} {ph : Int} (h1 : GetN (M.cell sb) 1 1 [.int .i64 ph]) : FnC Try.prog 46 [.pointer (some ⟨sb, 0, none⟩)] w (fun v _ => v = .bool (cmB ph)) := by
  refine enterF (M := M) Try.func46 rfl rfl rfl rfl hM ?_
  unfold cmB
  by_cases h : ph = 2 ∨ ph = 4
  · rw [decide_eq_true h]
    repeat' first
      | apply cw_seq
      | (refine cw_region_id 0 ?_; (apply ol_as; rfl; rfl); (apply ol_nil))
      | (refine cw_region_id 1 ?_; (apply ol_mv; rfl; rfl); (apply ol_val; rfl; apply stp_pur; apply s_nilCheck; rfl); (apply ol_fa; rfl; rfl; exact fd_70_0; exact qZ); (apply ol_fa; rfl; rfl; exact fd_25_1; exact qZ); (apply ol_ld; rfl; rfl; rfl; (first | exact qP | (apply RdN.view; exact h1))); (apply ol_val; rfl; apply stp_cmp; apply s_eql; rfl; rfl; all_goals (intro hc8; try (exfalso; (first | exact hc8 rfl | omega)))); all_goals (apply ol_mv; rfl; rfl); all_goals (first | (apply ol_gskip; rfl; rfl; exact qA; rfl) | (apply ol_gval; rfl; rfl; rfl; exact qA; apply stp_pur; apply s_move; rfl)); all_goals (first | (apply ol_gskip; rfl; rfl; exact qA; rfl) | (apply ol_gval; rfl; rfl; rfl; exact qA; apply stp_pur; apply s_nilCheck; rfl)); all_goals (first | (apply ol_gskip; rfl; rfl; exact qA; rfl) | (apply ol_gval; rfl; rfl; rfl; exact qA; apply stp_pur; apply s_fieldAddr'; rfl; exact fd_70_0; exact qZ)); all_goals (first | (apply ol_gskip; rfl; rfl; exact qA; rfl) | (apply ol_gval; rfl; rfl; rfl; exact qA; apply stp_pur; apply s_fieldAddr'; rfl; exact fd_25_1; exact qZ)); all_goals (first | (apply ol_gskip; rfl; rfl; exact qA; rfl) | (apply ol_gval; rfl; rfl; rfl; exact qA; apply stp_pur; apply s_load1; rfl; rfl; (first | exact qP | (apply RdN.view; exact h1)))); all_goals (first | (apply ol_gskip; rfl; rfl; exact qA; rfl) | (apply ol_gval; rfl; rfl; rfl; exact qA; apply stp_cmp; apply s_eql; rfl; rfl; all_goals (intro hc15; try (exfalso; (first | exact hc15 rfl | omega))))); all_goals (apply ol_val; rfl; apply stp_pur; first | (apply s_pick_t; rfl; exact qA; rfl) | (apply s_pick_f; rfl; exact qA; rfl)); all_goals (apply ol_as; rfl; rfl); all_goals (apply ol_nil))
      | (apply cw_cond_true; rfl; exact qA)
      | (apply cw_cond_false; rfl; exact qA)
      | apply cw_skip
      | apply cw_ret
      | apply cw_block
      | apply cw_exit
    all_goals (refine ends [] (RVal.tmp rfl RVal.nil) Pick.nil ?_; rfl)
  · rw [decide_eq_false h]
    repeat' first
      | apply cw_seq
      | (refine cw_region_id 0 ?_; (apply ol_as; rfl; rfl); (apply ol_nil))
      | (refine cw_region_id 1 ?_; (apply ol_mv; rfl; rfl); (apply ol_val; rfl; apply stp_pur; apply s_nilCheck; rfl); (apply ol_fa; rfl; rfl; exact fd_70_0; exact qZ); (apply ol_fa; rfl; rfl; exact fd_25_1; exact qZ); (apply ol_ld; rfl; rfl; rfl; (first | exact qP | (apply RdN.view; exact h1))); (apply ol_val; rfl; apply stp_cmp; apply s_eql; rfl; rfl; all_goals (intro hc8; try (exfalso; (first | exact hc8 rfl | omega)))); all_goals (apply ol_mv; rfl; rfl); all_goals (first | (apply ol_gskip; rfl; rfl; exact qA; rfl) | (apply ol_gval; rfl; rfl; rfl; exact qA; apply stp_pur; apply s_move; rfl)); all_goals (first | (apply ol_gskip; rfl; rfl; exact qA; rfl) | (apply ol_gval; rfl; rfl; rfl; exact qA; apply stp_pur; apply s_nilCheck; rfl)); all_goals (first | (apply ol_gskip; rfl; rfl; exact qA; rfl) | (apply ol_gval; rfl; rfl; rfl; exact qA; apply stp_pur; apply s_fieldAddr'; rfl; exact fd_70_0; exact qZ)); all_goals (first | (apply ol_gskip; rfl; rfl; exact qA; rfl) | (apply ol_gval; rfl; rfl; rfl; exact qA; apply stp_pur; apply s_fieldAddr'; rfl; exact fd_25_1; exact qZ)); all_goals (first | (apply ol_gskip; rfl; rfl; exact qA; rfl) | (apply ol_gval; rfl; rfl; rfl; exact qA; apply stp_pur; apply s_load1; rfl; rfl; (first | exact qP | (apply RdN.view; exact h1)))); all_goals (first | (apply ol_gskip; rfl; rfl; exact qA; rfl) | (apply ol_gval; rfl; rfl; rfl; exact qA; apply stp_cmp; apply s_eql; rfl; rfl; all_goals (intro hc15; try (exfalso; (first | exact hc15 rfl | omega))))); all_goals (apply ol_val; rfl; apply stp_pur; first | (apply s_pick_t; rfl; exact qA; rfl) | (apply s_pick_f; rfl; exact qA; rfl)); all_goals (apply ol_as; rfl; rfl); all_goals (apply ol_nil))
      | (apply cw_cond_true; rfl; exact qA)
      | (apply cw_cond_false; rfl; exact qA)
      | apply cw_skip
      | apply cw_ret
      | apply cw_block
      | apply cw_exit
    all_goals (refine ends [] (RVal.tmp rfl RVal.nil) Pick.nil ?_; rfl)
/-- The state's block, with the messages sent. -/
abbrev stB (sb : Nat) (ro ph bk bn : Int) (tv vv : Value) (rr : Option Nat) (n co : Nat) : OB := ⟨some sb, [.int .i64 ro, .int .i64 ph, .int .i64 bk, .int .i64 bn, tv, vv, .slice (base rr none) n co], 70⟩
theorem send_spec {M : View} {w : World} (hM : View.le M (View.of w)) {sb : Nat} {ro ph bk bn : Int} {ta va : Option Addr} {tn tc vn vc : Nat} {rr : Option Nat} {co : Nat} {out : List LM} {spo : List Value}
    (hok : ∀ x ∈ [stB sb ro ph bk bn (.slice ta tn tc) (.slice va vn vc) rr out.length co, ⟨rr, flat LM.enc out ++ spo, 28⟩], x.ok w) (hsep : ∀ x ∈ [stB sb ro ph bk bn (.slice ta tn tc) (.slice va vn vc) rr out.length co, ⟨rr, flat LM.enc out ++ spo, 28⟩], ∀ b, x.ref = some b → M b = none) (hnd : (refs [stB sb ro ph bk bn (.slice ta tn tc) (.slice va vn vc) rr out.length co, ⟨rr, flat LM.enc out ++ spo, 28⟩]).Nodup)
    (so : SO rr out.length co (flat LM.enc out) spo 5) (ho : out.length ≤ 1000) (to ki : Int) {bs : List Int} {n c : Nat} {a : Option Addr} {b o : Nat} (hn : bs.length = n) (hn1 : n ≤ 100000) (hb : ∀ x ∈ bs, 0 ≤ x ∧ x ≤ 255) (s : SlA M (eK .u8) 1 a bs b o) :
    FnM Try.prog 44 [.pointer (some ⟨sb, 0, none⟩), .int .i64 to, .int .i64 ki, .slice a n c] w [stB sb ro ph bk bn (.slice ta tn tc) (.slice va vn vc) rr out.length co, ⟨rr, flat LM.enc out ++ spo, 28⟩]
      (fun _ F ys => ∃ m rr' co' spo', LmV F m ∧ m.val = ⟨bk, to, ki, ro, bs⟩ ∧ ys = [stB sb ro ph bk bn (.slice ta tn tc) (.slice va vn vc) rr' (out ++ [m]).length co', ⟨rr', flat LM.enc (out ++ [m]) ++ spo', 28⟩] ∧ SO rr' (out ++ [m]).length co' (flat LM.enc (out ++ [m])) spo' 5) := by
  subst hn
  have k1 := fun (w' : World) (h : View.le M (View.of w')) => cloneS_spec h rfl (c := c) s (by omega)
  unfold RowRes at k1
  refine enterW (M := M) Try.func44 rfl rfl rfl rfl hM hok hsep hnd ?_
  repeat' first
    | apply cw_seq
    | (refine cw_drawW (id := 0) (own0 := [⟨some sb, [.int .i64 ro, .int .i64 ph, .int .i64 bk, .int .i64 bn, .slice ta tn tc, .slice va vn vc, .slice (base rr none) out.length co], 70⟩]) 24 (.mv 0 (.mv 1 (.mv 2 (.mv 3 (.mv 4 (.mv 5 (.mv 6 (.mv 7 (.mv 8 (.mv 9 (.mv 10 (.mv 11 (.mv 12 (.mv 13 (.mv 14 (.mv 15 (.mv 16 (.mv 17 (.fx 18 (.mv 19 (.fx 20 (.fx 21 (.mv 22 (.mv 23 (PT.nil))))))))))))))))))))))))) mixed (by kernel_rfl) (by (first | exact Wk.refl _ _ | exact qW)) ?_; (apply od_mv; rfl; rfl; apply s_move; rfl); (apply od_mv; rfl; rfl; apply s_move; rfl); (apply od_mv; rfl; rfl; apply s_nilCheck; rfl); (apply od_mv; rfl; rfl; apply s_fieldAddr'; rfl; exact fd_70_1; exact qZ); (apply od_mv; rfl; rfl; apply s_load1; rfl; rfl; exact qP); (apply od_mv; rfl; rfl; apply s_move; rfl); (apply od_mv; rfl; rfl; apply s_nilCheck; rfl); (apply od_mv; rfl; rfl; apply s_fieldAddr'; rfl; exact fd_70_0; exact qZ); (apply od_mv; rfl; rfl; apply s_fieldAddr'; rfl; exact fd_25_2; exact qZ); (apply od_mv; rfl; rfl; apply s_load1; rfl; rfl; exact qP); (apply od_mv; rfl; rfl; apply s_move; rfl); (apply od_mv; rfl; rfl; apply s_move; rfl); (apply od_mv; rfl; rfl; apply s_move; rfl); (apply od_mv; rfl; rfl; apply s_nilCheck; rfl); (apply od_mv; rfl; rfl; apply s_fieldAddr'; rfl; exact fd_70_0; exact qZ); (apply od_mv; rfl; rfl; apply s_fieldAddr'; rfl; exact fd_25_0; exact qZ); (apply od_mv; rfl; rfl; apply s_load1; rfl; rfl; exact qP); (apply od_mv; rfl; rfl; apply s_move; rfl); (apply od_fx; (first | exact Wk.refl _ _ | exact qW); (apply fx_val; rfl; rfl; apply s_call; rfl; exact gf_67; (intro w' hw'; exact k1 w' hw'.le); ((intro v new h; obtain ⟨r18, A18, c18, s18, rfl, rfl, so18⟩ := h)))); (apply od_mv; rfl; rfl; apply s_buildS; rfl; exact fs_28; exact zb_28; exact qR); (apply od_fx; (first | exact Wk.refl _ _ | exact qW); (apply fx_val; rfl; rfl; apply s_buildSl; rfl; exact el_31; exact sz_28; exact zb_28; exact qN; rfl; rfl; (exact Nat.le_of_ble_eq_true rfl); exact qN; (focus ((repeat (first | exact Fil.nil | (apply Fil.one; rfl; rfl; (repeat (first | exact SetAt.zero | apply SetAt.succ))) | (apply Fil.agg; rfl; rfl; (repeat (first | exact SetN.nil | (apply SetN.cons; (repeat (first | exact SetAt.zero | apply SetAt.succ))))); (exact Nat.le_of_ble_eq_true rfl)))); done)); intro bk28)); (apply od_fx; (first | exact Wk.refl _ _ | exact qW); (apply fx_val; rfl; rfl; first | (apply s_append_e; rfl; rfl; exact qN; exact el_31; exact sz_28; exact zb_28; rfl; exact by_28; (first | exact (fun _ => rfl)); (first | exact qQ); (first | rfl | exact ones_flat LM.ones _); exact qO; exact qO; intro rk29 sk29 ck29 ok29) | (apply s_append_r; rfl; rfl; exact qN; (first | rfl | exact (List.append_nil _).symm); exact el_31; exact sz_28; exact zb_28; rfl; exact by_28; (first | exact SO.nil _ | assumption | (exact ⟨by simp, by simp, Nat.le_refl _, by simp⟩)); (first | exact (fun _ => rfl)); (first | exact qQ); (first | rfl | exact ones_flat LM.ones _); exact qO; exact qO; intro rk29 sk29 ck29 ok29) | (apply s_append_b; rfl; rfl; exact qN; (first | rfl | exact (List.append_nil _).symm); exact el_31; exact sz_28; exact zb_28; rfl; exact by_28; (first | exact SO.nil _ | assumption | (exact ⟨by simp, by simp, Nat.le_refl _, by simp⟩)); (first | exact (fun _ => rfl)); (first | exact qQ); (first | rfl | exact ones_flat LM.ones _); exact qO; exact qO; intro rk29 sk29 ck29 ok29) | (apply s_append_n; rfl; rfl; exact qN; exact el_31; exact sz_28; exact zb_28; rfl; exact by_28; (first | exact (fun _ => rfl)); (first | exact qQ); (first | rfl | exact ones_flat LM.ones _); exact qO; exact qO; intro rk29 sk29 ck29 ok29))); (apply od_mv; rfl; rfl; apply s_nilCheck; rfl); (apply od_mv; rfl; rfl; apply s_fieldAddr'; rfl; exact fd_70_1; exact qZ); (apply od_nil; (first | exact Wk.refl _ _ | exact qW)); (apply ol_eff; apply s_store1; rfl; rfl; exact sz_31; rfl; exact qN; exact qT); (apply ol_nil))
    | (apply cw_cond_true; rfl; exact qA)
    | (apply cw_cond_false; rfl; exact qA)
    | apply cw_skip
    | apply cw_ret
    | apply cw_block
    | apply cw_exit
  have hm : (⟨bk, to, ki, ro, ⟨bs, base r18 A18, r18.getD 0, 0, c18⟩⟩ : LM).enc = [.int .i64 bk, .int .i64 to, .int .i64 ki, .int .i64 ro, .slice (base r18 A18) bs.length c18] := rfl
  have hfl := flat_snoc LM.enc out (⟨bk, to, ki, ro, ⟨bs, base r18 A18, r18.getD 0, 0, c18⟩⟩ : LM)
  have hll : (out ++ [(⟨bk, to, ki, ro, ⟨bs, base r18 A18, r18.getD 0, 0, c18⟩⟩ : LM)]).length = out.length + 1 := by simp
  rw [hm] at hfl
  rw [← hfl, ← hll] at ok29
  refine endsW [stB sb ro ph bk bn (.slice ta tn tc) (.slice va vn vc) rk29 (out ++ [(⟨bk, to, ki, ro, ⟨bs, base r18 A18, r18.getD 0, 0, c18⟩⟩ : LM)]).length ck29, ⟨rk29, flat LM.enc (out ++ [(⟨bk, to, ki, ro, ⟨bs, base r18 A18, r18.getD 0, 0, c18⟩⟩ : LM)]) ++ sk29, 28⟩] [⟨r18, flat (eK .u8) bs ++ s18, 5⟩] View.nil RVal.nil (by rw [hll, hfl]; exact qK) (View.nil_le _) (View.freshM_nil _ _) (fun F _ hz => ?_)
  exact ⟨_, rk29, ck29, sk29, ⟨SlA.inV (eK_length .u8) (hz _ (List.Mem.head _)) (fun h => SO.emp so18 h), hb, hn1⟩, rfl, rfl, ok29⟩
end Go.Proofs.Ytagmoecojmlogaa
namespace Go.Proofs.Ytagmoecojmlogaa
set_option maxRecDepth 20000
set_option linter.unusedSimpArgs false
set_option linter.unusedVariables false
open Go Go.Fw
structure MsSt where
  i : Nat
  ms : List LM
  rr : Option Nat
  co : Nat
  spo : List Value
  M : View
  F : View
end Go.Proofs.Ytagmoecojmlogaa
namespace Go.Fw
open Go Go.RowKit
theorem View.join_l (F G : View) : View.le F (View.join F G) := fun b o e => by unfold View.join; rw [e]
theorem View.join_r {F G M : View} (h1 : View.le F M) (h2 : View.le G M) : View.le G (View.join F G) := fun b o e => by
  unfold View.join
  cases hF : F b with
  | none => exact e
  | some o' =>
    have e1 := h1 b o' hF
    rw [h2 b o e] at e1
    exact e1.symm
theorem View.join_le {F G M : View} (h1 : View.le F M) (h2 : View.le G M) : View.le (View.join F G) M := fun b o e => by
  unfold View.join at e
  split at e
  · rename_i o' hF
    rw [← e]
    exact h1 b o' hF
  · exact h2 b o e
theorem View.freshM_join {F G : View} {w : World} {mu : List Nat} (h1 : View.freshM F w mu) (h2 : View.freshM G w mu) : View.freshM (View.join F G) w mu := fun b o e => by
  unfold View.join at e
  split at e
  · rename_i o' hF
    exact h1 b o' hF
  · exact h2 b o e
end Go.Fw
namespace Go.Proofs.Ytagmoecojmlogaa
set_option maxRecDepth 20000
set_option linter.unusedSimpArgs false
set_option linter.unusedVariables false
open Go Go.Fw
attribute [local irreducible] CW OL OD FX Stp FnC FnV FnA FnM Ret svB
set_option maxHeartbeats 800000
theorem missing_spec {M : View} {w : World} (hM : View.le M (View.of w)) {sb : Nat} {ro ph bk bn : Int} {ta va : Option Addr} {tn tc vc : Nat} {rr : Option Nat} {co : Nat} {out : List LM} {spo : List Value} {vo : List Int} {vb vo' : Nat}
    (hok : ∀ x ∈ [stB sb ro ph bk bn (.slice ta tn tc) (.slice va vo.length vc) rr out.length co, ⟨rr, flat LM.enc out ++ spo, 28⟩], x.ok w) (hsep : ∀ x ∈ [stB sb ro ph bk bn (.slice ta tn tc) (.slice va vo.length vc) rr out.length co, ⟨rr, flat LM.enc out ++ spo, 28⟩], ∀ b, x.ref = some b → M b = none) (hnd : (refs [stB sb ro ph bk bn (.slice ta tn tc) (.slice va vo.length vc) rr out.length co, ⟨rr, flat LM.enc out ++ spo, 28⟩]).Nodup)
    (so : SO rr out.length co (flat LM.enc out) spo 5) (ho : out.length ≤ 500) (hv : vo.length ≤ 400) (sv : SlA M (eK .i64) 1 va vo vb vo') (ki : Int) {bs : List Int} {n c : Nat} {a : Option Addr} {b o : Nat} (hn : bs.length = n) (hn1 : n ≤ 100000) (hb : ∀ x ∈ bs, 0 ≤ x ∧ x ≤ 255) (s : SlA M (eK .u8) 1 a bs b o) :
    FnM Try.prog 42 [.pointer (some ⟨sb, 0, none⟩), .int .i64 ki, .slice a n c] w [stB sb ro ph bk bn (.slice ta tn tc) (.slice va vo.length vc) rr out.length co, ⟨rr, flat LM.enc out ++ spo, 28⟩]
      (fun _ F ys => ∃ ms rr' co' spo', (∀ m ∈ ms, LmV F m) ∧ ms.map LM.val = missF bk ro ki bs 0 vo ∧ ys = [stB sb ro ph bk bn (.slice ta tn tc) (.slice va vo.length vc) rr' (out ++ ms).length co', ⟨rr', flat LM.enc (out ++ ms) ++ spo', 28⟩] ∧ SO rr' (out ++ ms).length co' (flat LM.enc (out ++ ms)) spo' 5) := by
  refine enterW (M := M) Try.func42 rfl rfl rfl rfl hM hok hsep hnd ?_
  generalize hmu : refs [stB sb ro ph bk bn (.slice ta tn tc) (.slice va vo.length vc) rr out.length co, ⟨rr, flat LM.enc out ++ spo, 28⟩] = mu
  clear hok hsep hnd hmu
  repeat' first
    | apply cw_seq
    | (refine cw_region_id 0 ?_; (apply ol_mv; rfl; rfl); (apply ol_val; rfl; apply stp_pur; apply s_nilCheck; rfl); (apply ol_fa; rfl; rfl; exact fd_70_0; exact qZ); (apply ol_fa; rfl; rfl; exact fd_25_5; exact qZ); (apply ol_ld; rfl; rfl; rfl; exact qP); (apply ol_val; rfl; apply stp_pur; apply s_len; rfl; exact el_23); (apply ol_mv; rfl; rfl); (apply ol_nil))
    | (apply cw_cond_true; rfl; exact qA)
    | (apply cw_cond_false; rfl; exact qA)
    | apply cw_skip
    | apply cw_ret
    | apply cw_block
    | apply cw_exit
  refine cw_loopK (σ := MsSt) [0, 1, 2, 12, 13] (by (repeat (first | exact Keep.nil | (apply Keep.cons; rfl)))) (fun s => [(14, .int .i64 s.i)]) (fun s => s.M) (fun s => [stB sb ro ph bk bn (.slice ta tn tc) (.slice va vo.length vc) s.rr (out ++ s.ms).length s.co, ⟨s.rr, flat LM.enc (out ++ s.ms) ++ s.spo, 28⟩]) (fun s => (s.i ≤ vo.length ∧ s.ms.map LM.val = missF bk ro ki bs 0 (vo.take s.i)) ∧ (∀ m ∈ s.ms, LmV s.F m) ∧ (View.le s.F s.M ∧ View.freshM s.F w mu ∧ View.le M s.M) ∧ SO s.rr (out ++ s.ms).length s.co (flat LM.enc (out ++ s.ms)) s.spo 5) (fun s => vo.length - s.i) ⟨0, [], rr, co, spo, M, View.nil⟩ (by (repeat (first | exact trivial | refine And.intro rfl ?_))) (View.le.refl _) (by dsimp only; rw [List.append_nil]; exact qK) ⟨⟨Nat.zero_le _, rfl⟩, (fun m hm => by cases hm), ⟨View.nil_le _, View.freshM_nil _ _, View.le.refl _⟩, by dsimp only; rw [List.append_nil]; exact so⟩ ?_
  rintro ⟨i, ms, r, c2, sp, M1, F1⟩ ⟨⟨hi, hms⟩, hm, ⟨hF1, hF2, hF3⟩, so1⟩
  dsimp only at hi hms hm hF1 hF2 hF3 so1
  dsimp only
  by_cases hin : i < vo.length
  · have hci := (sv.mono hF3).cells i hin
    have hst := missF_take (fr := bk) (ro := ro) (ki := ki) (bo := bs) hin
    have hlen := missF_length bk ro ki bs (vo.take i) 0
    rw [← hms, List.length_map, List.length_take] at hlen
    rw [← hms] at hst
    have hol : (out ++ ms).length ≤ 1000 := by rw [List.length_append]; omega
    by_cases hz : vo[i] = 0
    · rw [if_pos hz] at hst
      generalize vo[i] = z at *
      subst hz
      repeat' first
        | apply cw_seq
        | (refine cw_region_id 1 ?_; (apply ol_val; rfl; apply stp_cmp; apply s_lss; rfl; rfl; all_goals (intro hc15; try (exfalso; (first | exact hc15 rfl | omega)))); all_goals (apply ol_nil))
        | (refine cw_region_id 2 ?_; (apply ol_mv; rfl; rfl); (apply ol_val; rfl; apply stp_pur; first | (apply s_indexK; rfl; rfl; exact el_23; exact sz_3; (first | rfl | exact sv.at_ (by omega)); omega) | (apply s_indexO; rfl; rfl; exact el_23; exact sz_3; (first | rfl | exact sv.at_ (by omega)); omega)); (apply ol_ld; rfl; rfl; rfl; (first | exact qP | (apply RdN.view; exact hci))); (apply ol_as; rfl; rfl); (apply ol_as; rfl; rfl); (apply ol_nil))
        | (refine cw_region_id 3 ?_; (apply ol_mv; rfl; rfl); (apply ol_val; rfl; apply stp_cmp; apply s_eql; rfl; rfl; all_goals (intro hc20; try (exfalso; (first | exact hc20 rfl | omega)))); all_goals (apply ol_nil))
        | (refine cw_region_id 4 ?_; (apply ol_mv; rfl; rfl); (apply ol_mv; rfl; rfl); (apply ol_mv; rfl; rfl); (apply ol_mv; rfl; rfl); (apply ol_val; rfl; apply s_callM (xs := [stB sb ro ph bk bn (.slice ta tn tc) (.slice va vo.length vc) r (out ++ ms).length c2, ⟨r, flat LM.enc (out ++ ms) ++ sp, 28⟩]); rfl; exact gf_44; (focus ((repeat (first | exact Pk.nil | (apply Pk.cons; (repeat (first | exact Spl.here | apply Spl.there))))); done)); (intro w' M2 hw' hrd; exact send_spec hrd.lw hrd.ok hrd.sep hrd.nd so1 hol _ ki hn hn1 hb (s.mono (hF3.trans hrd.le))); (intro v F25 ys M25 h hl25 hL25 hF25; obtain ⟨m, rr', co', spo', hmv, hval, rfl, so'⟩ := h)); (apply ol_nil))
        | (refine cw_region_id 5 ?_; (apply ol_val; rfl; apply stp_pur; apply s_add64; rfl; rfl; omega); (apply ol_mv; rfl; rfl); (apply ol_nil))
        | (apply cw_cond_true; rfl; exact qA)
        | (apply cw_cond_false; rfl; exact qA)
        | apply cw_skip
        | apply cw_ret
        | apply cw_block
        | apply cw_exit
      rw [List.append_assoc out] at so'
      refine ⟨⟨i + 1, ms ++ [m], rr', co', spo', M25, View.join F1 F25⟩, ⟨by (repeat (first | exact trivial | refine And.intro rfl ?_)), View.le.refl _, by dsimp only; rw [← List.append_assoc out]; exact qK, ⟨⟨hin, ?_⟩, ?_, ⟨View.join_le (hF1.trans hl25) hL25, View.freshM_join hF2 hF25, hF3.trans hl25⟩, so'⟩, by dsimp only; omega⟩⟩
      · rw [hst, List.map_append]
        congr 1
        simp [hval]
      · intro y hy
        rcases List.mem_append.1 hy with hy | hy
        · exact (hm y hy).mono (View.join_l _ _)
        · rw [List.mem_singleton] at hy
          subst hy
          exact hmv.mono (View.join_r (hF1.trans hl25) hL25)
    · rw [if_neg hz, List.append_nil] at hst
      generalize vo[i] = z at *
      repeat' first
        | apply cw_seq
        | (refine cw_region_id 1 ?_; (apply ol_val; rfl; apply stp_cmp; apply s_lss; rfl; rfl; all_goals (intro hc15; try (exfalso; (first | exact hc15 rfl | omega)))); all_goals (apply ol_nil))
        | (refine cw_region_id 2 ?_; (apply ol_mv; rfl; rfl); (apply ol_val; rfl; apply stp_pur; first | (apply s_indexK; rfl; rfl; exact el_23; exact sz_3; (first | rfl | exact sv.at_ (by omega)); omega) | (apply s_indexO; rfl; rfl; exact el_23; exact sz_3; (first | rfl | exact sv.at_ (by omega)); omega)); (apply ol_ld; rfl; rfl; rfl; (first | exact qP | (apply RdN.view; exact hci))); (apply ol_as; rfl; rfl); (apply ol_as; rfl; rfl); (apply ol_nil))
        | (refine cw_region_id 3 ?_; (apply ol_mv; rfl; rfl); (apply ol_val; rfl; apply stp_cmp; apply s_eql; rfl; rfl; all_goals (intro hc20; try (exfalso; (first | exact hc20 rfl | omega)))); all_goals (apply ol_nil))
        | (refine cw_region_id 5 ?_; (apply ol_val; rfl; apply stp_pur; apply s_add64; rfl; rfl; omega); (apply ol_mv; rfl; rfl); (apply ol_nil))
        | (apply cw_cond_true; rfl; exact qA)
        | (apply cw_cond_false; rfl; exact qA)
        | apply cw_skip
        | apply cw_ret
        | apply cw_block
        | apply cw_exit
      exact ⟨⟨i + 1, ms, r, c2, sp, M1, F1⟩, ⟨by (repeat (first | exact trivial | refine And.intro rfl ?_)), View.le.refl _, by exact qK, ⟨⟨hin, hst.symm⟩, hm, ⟨hF1, hF2, hF3⟩, so1⟩, by dsimp only; omega⟩⟩
  · rw [List.take_of_length_le (by omega)] at hms
    repeat' first
      | apply cw_seq
      | (refine cw_region_id 1 ?_; (apply ol_val; rfl; apply stp_cmp; apply s_lss; rfl; rfl; all_goals (intro hc15; try (exfalso; (first | exact hc15 rfl | omega)))); all_goals (apply ol_nil))
      | (apply cw_cond_true; rfl; exact qA)
      | (apply cw_cond_false; rfl; exact qA)
      | apply cw_skip
      | apply cw_ret
      | apply cw_block
      | apply cw_exit
    refine endsW [stB sb ro ph bk bn (.slice ta tn tc) (.slice va vo.length vc) r (out ++ ms).length c2, ⟨r, flat LM.enc (out ++ ms) ++ sp, 28⟩] [] F1 RVal.nil (by exact qK) hF1 hF2 (fun F hF _ => ?_)
    exact ⟨ms, r, c2, sp, fun m h => (hm m h).mono hF, hms, rfl, so1⟩
end Go.Proofs.Ytagmoecojmlogaa
namespace Go.Proofs.Ytagmoecojmlogaa
set_option maxRecDepth 20000
set_option linter.unusedSimpArgs false
set_option linter.unusedVariables false
open Go Go.Fw
/-- Messages that are handed back. -/
def MsgsR (ms : List MV) (F : View) (v : Value) : Prop := ∃ (xs : List LM) (a : Option Addr) (b o c : Nat), v = .slice a xs.length c ∧ SlA F LM.enc 5 a xs b o ∧ (∀ m ∈ xs, LmV F m) ∧ xs.map LM.val = ms ∧ xs.length ≤ 1000000
theorem MsgsR.nil (F : View) : MsgsR [] F (.slice none 0 0) := ⟨[], none, 0, 0, 0, rfl, SlA.none', (fun _ h => by cases h), rfl, Nat.zero_le _⟩
theorem MsgsR.own {F : View} {r : Option Nat} {A : Option Addr} {xs : List LM} {sp : List Value} {c : Nat} {ms : List MV} (h : OB.inV ⟨r, flat LM.enc xs ++ sp, 28⟩ F) (hn : r = none → xs = []) (hm : ∀ m ∈ xs, LmV F m) (hv : xs.map LM.val = ms) (hl : xs.length ≤ 1000000) : MsgsR ms F (.slice (base r A) xs.length c) :=
  ⟨xs, _, _, _, c, rfl, SlA.inV LM.enc_length h hn, hm, hv, hl⟩
def rmF (ro ki : Int) (B : Sl Int) : Nat → List Int → List LM
  | _, [] => []
  | i, v :: r => if v = 0 then ⟨0, i, ki, ro, B⟩ :: rmF ro ki B (i + 1) r else rmF ro ki B (i + 1) r
def noneV (n : Int) : List Int := 1 :: List.replicate (n.toNat - 1) 0
def bitM (bo : List Int) : Int := if bo.length = 1 ∧ bo.getD 0 0 ≤ 1 then bo.getD 0 0 else -1
def hz (l : List Int) : Bool := l.any fun v => decide (v = 0)
structure RSt where
  i : Nat
  r : Option Nat
  c : Nat
  sp : List Value
end Go.Proofs.Ytagmoecojmlogaa
namespace Go.Proofs.Ytagmoecojmlogaa
set_option maxRecDepth 20000
set_option linter.unusedSimpArgs false
set_option linter.unusedVariables false
open Go Go.Fw
def decV (i : Nat) (vo : List Int) : List Int := (noneV vo.length).take i ++ vo.drop i
theorem noneV_len {n : Nat} (h : 1 ≤ n) : (noneV (n : Int)).length = n := by unfold noneV; simp; omega
theorem decV_zero (vo : List Int) : decV 0 vo = vo := rfl
theorem decV_len {vo : List Int} {i : Nat} (h : i ≤ vo.length) (h1 : 1 ≤ vo.length) : (decV i vo).length = vo.length := by
  unfold decV
  rw [List.length_append, List.length_take, List.length_drop, noneV_len h1]
  omega
theorem decV_end {vo : List Int} (h1 : 1 ≤ vo.length) : decV vo.length vo = noneV vo.length := by
  unfold decV
  rw [List.drop_length, List.append_nil, List.take_of_length_le (by rw [noneV_len h1]; omega)]
theorem decV_set {vo : List Int} {i : Nat} {x : Int} (h : i < vo.length) (hx : (noneV (vo.length : Int))[i]? = some x) : (decV i vo).set i x = decV (i + 1) vo := by
  unfold decV
  have hN : (noneV (vo.length : Int)).length = vo.length := noneV_len (by omega)
  have hl : ((noneV (vo.length : Int)).take i).length = i := by rw [List.length_take]; omega
  rw [List.set_append_right _ _ (by omega), hl, Nat.sub_self, List.drop_eq_getElem_cons h, List.set_cons_zero]
  have hi : i < (noneV (vo.length : Int)).length := by omega
  rw [List.take_succ_eq_append_getElem hi, List.append_assoc]
  rw [List.getElem?_eq_getElem hi] at hx
  injection hx with hx
  rw [hx]
  rfl
theorem noneV_zero (n : Int) : (noneV n)[0]? = some 1 := rfl
theorem noneV_pos {n : Nat} {i : Nat} (h : i < n) (h0 : i ≠ 0) : (noneV (n : Int))[i]? = some 0 := by
  unfold noneV
  obtain ⟨j, rfl⟩ : ∃ j, i = j + 1 := ⟨i - 1, by omega⟩
  rw [List.getElem?_cons_succ, List.getElem?_replicate, if_pos (by omega)]
end Go.Proofs.Ytagmoecojmlogaa
namespace Go.Proofs.Ytagmoecojmlogaa
set_option maxRecDepth 20000
set_option linter.unusedSimpArgs false
set_option linter.unusedVariables false
open Go Go.Fw
attribute [local irreducible] CW OL OD FX Stp FnC FnV FnA FnM Ret svB
set_option maxHeartbeats 800000
theorem _root_.Go.Fw.OB.inV.cell {b : Nat} {cs : List Value} {T : TypeId} {M : View} {k : Nat} {v : Value} (h : OB.inV ⟨some b, cs, T⟩ M) (hk : cs[k]? = some v) : M.cell b k = some v := by
  obtain ⟨fz, h⟩ := h b rfl
  unfold View.cell
  rw [h]
  simpa using hk
theorem counted_spec {M : View} {w : World} (hM : View.le M (View.of w)) {sb vb vc : Nat} {vo : List Int} {n : Nat} (hn : vo.length = n) (hl : n ≤ 1000) {spv : List Value}
    (h5 : GetN (M.cell sb) 5 1 [.slice (some ⟨vb, 0, none⟩) n vc]) (hok : ∀ x ∈ [(⟨some vb, flat (eK .i64) vo ++ spv, 3⟩ : OB)], x.ok w) (hsep : ∀ x ∈ [(⟨some vb, flat (eK .i64) vo ++ spv, 3⟩ : OB)], ∀ b, x.ref = some b → M b = none) (hnd : (refs [(⟨some vb, flat (eK .i64) vo ++ spv, 3⟩ : OB)]).Nodup) {f : Nat} (hf : f < vo.length) :
    FnM Try.prog 60 [.pointer (some ⟨sb, 0, none⟩), .int .i64 f] w [⟨some vb, flat (eK .i64) vo ++ spv, 3⟩] (fun v _ ys => v = .bool (!hz (vo.set f 1)) ∧ ys = [⟨some vb, flat (eK .i64) (vo.set f 1) ++ spv, 3⟩]) := by
  refine enterW (M := M) Try.func60 rfl rfl rfl rfl hM hok hsep hnd ?_
  have kc : ∀ w', OB.ok ⟨some vb, flat (eK .i64) (vo.set f 1) ++ spv, 3⟩ w' → FnC Try.prog 73 [.slice (some ⟨vb, 0, none⟩) n vc, .int .i64 0] w' (fun v _ => v = .bool (hz (vo.set f 1))) := fun w' ho =>
    contains_spec (M := View.of w') (View.le.refl _) (by rw [List.length_set]; exact hn) (SlA.own (r := some vb) (A := none) (eK_length .i64) ho (fun h => by cases h)) (by rw [List.length_set]; omega) 0
  generalize hz (vo.set f 1) = z at *
  repeat' first
    | apply cw_seq
    | (refine cw_region_id 0 ?_; (apply ol_as; rfl; rfl); (apply ol_nil))
    | (refine cw_region_id 1 ?_; (apply ol_mv; rfl; rfl); (apply ol_val; rfl; apply stp_pur; apply s_nilCheck; rfl); (apply ol_fa; rfl; rfl; exact fd_70_0; exact qZ); (apply ol_fa; rfl; rfl; exact fd_25_5; exact qZ); (apply ol_ld; rfl; rfl; rfl; (first | exact qP | (apply RdN.view; exact h5))); (apply ol_mv; rfl; rfl); (apply ol_val; rfl; apply stp_pur; first | (apply s_indexK; rfl; rfl; exact el_23; exact sz_3; (first | rfl); omega) | (apply s_indexO; rfl; rfl; exact el_23; exact sz_3; (first | rfl); omega)); (apply ol_eff; apply s_store1; rfl; rfl; exact sz_3; rfl; exact qN; (first | exact qN | (apply setAtK; omega) | (apply SetAt.set; exact qO))); (apply ol_nil))
    | (refine cw_region_id 2 ?_; (apply ol_mv; rfl; rfl); (apply ol_val; rfl; apply stp_pur; apply s_nilCheck; rfl); (apply ol_fa; rfl; rfl; exact fd_70_0; exact qZ); (apply ol_fa; rfl; rfl; exact fd_25_5; exact qZ); (apply ol_ld; rfl; rfl; rfl; (first | exact qP | (apply RdN.view; exact h5))); (apply ol_val; rfl; apply s_callv; rfl; exact gf_73; (intro w' hw'; exact kc w' (hw'.ok_ (by (repeat (first | exact Has.here | apply Has.there)))))); (apply ol_val; rfl; apply stp_pur; first | (apply s_not_t; rfl; exact qA) | (apply s_not_f; rfl; exact qA) | (apply s_not; rfl)); (apply ol_as; rfl; rfl); (apply ol_nil))
    | (apply cw_cond_true; rfl; exact qA)
    | (apply cw_cond_false; rfl; exact qA)
    | apply cw_skip
    | apply cw_ret
    | apply cw_block
    | apply cw_exit
  refine endsW [⟨some vb, flat (eK .i64) (vo.set f 1) ++ spv, 3⟩] [] View.nil (RVal.tmp rfl RVal.nil) (by exact qK) (View.nil_le _) (View.freshM_nil _ _) (fun F _ _ => ⟨rfl, rfl⟩)
theorem decide_spec {M : View} {w : World} {sb vb : Nat} {ro ph bk bn : Int} {ta : Option Addr} {tn tc vc : Nat} {rr : Option Nat} {co : Nat} {out : List LM} {spo spv : List Value} {vo : List Int} {vn : Nat} (hvn : vo.length = vn) (hM : View.le M (View.of w))
    (hok : ∀ x ∈ [stB sb ro ph bk bn (.slice ta tn tc) (.slice (some ⟨vb, 0, none⟩) vn vc) rr out.length co, ⟨rr, flat LM.enc out ++ spo, 28⟩, ⟨some vb, flat (eK .i64) vo ++ spv, 3⟩], x.ok w) (hsep : ∀ x ∈ [stB sb ro ph bk bn (.slice ta tn tc) (.slice (some ⟨vb, 0, none⟩) vn vc) rr out.length co, ⟨rr, flat LM.enc out ++ spo, 28⟩, ⟨some vb, flat (eK .i64) vo ++ spv, 3⟩], ∀ b, x.ref = some b → M b = none) (hnd : (refs [stB sb ro ph bk bn (.slice ta tn tc) (.slice (some ⟨vb, 0, none⟩) vn vc) rr out.length co, ⟨rr, flat LM.enc out ++ spo, 28⟩, ⟨some vb, flat (eK .i64) vo ++ spv, 3⟩]).Nodup)
    (so : SO rr out.length co (flat LM.enc out) spo 5) (ho : out.length ≤ 500) (hv1 : 1 ≤ vn) (hv : vn ≤ 400) (ph2 : Int) :
    FnM Try.prog 59 [.pointer (some ⟨sb, 0, none⟩), .int .i64 ph2] w [stB sb ro ph bk bn (.slice ta tn tc) (.slice (some ⟨vb, 0, none⟩) vn vc) rr out.length co, ⟨rr, flat LM.enc out ++ spo, 28⟩, ⟨some vb, flat (eK .i64) vo ++ spv, 3⟩]
      (fun _ F ys => ∃ ms rr' co' spo', (∀ m ∈ ms, LmV F m) ∧ ms.map LM.val = missF bk ro 3 [flB (cmB ph2)] 0 (noneV vn) ∧ ys = [stB sb ro ph2 bk bn (.slice ta tn tc) (.slice (some ⟨vb, 0, none⟩) vn vc) rr' (out ++ ms).length co', ⟨rr', flat LM.enc (out ++ ms) ++ spo', 28⟩, ⟨some vb, flat (eK .i64) (noneV vn) ++ spv, 3⟩] ∧ SO rr' (out ++ ms).length co' (flat LM.enc (out ++ ms)) spo' 5) := by
  subst hvn
  refine enterW (M := M) Try.func59 rfl rfl rfl rfl hM hok hsep hnd ?_
  generalize hmu : refs [stB sb ro ph bk bn (.slice ta tn tc) (.slice (some ⟨vb, 0, none⟩) vo.length vc) rr out.length co, ⟨rr, flat LM.enc out ++ spo, 28⟩, ⟨some vb, flat (eK .i64) vo ++ spv, 3⟩] = mu
  clear hok hsep hnd hmu
  have kt : ∀ w', FnC Try.prog 45 [.bool true] w' (fun v _ => v = .int .u8 1) := fun w' => flag_spec w' true
  have kf : ∀ w', FnC Try.prog 45 [.bool false] w' (fun v _ => v = .int .u8 0) := fun w' => flag_spec w' false
  repeat' first
    | apply cw_seq
    | (refine cw_region_id 0 ?_; (apply ol_mv; rfl; rfl); (apply ol_mv; rfl; rfl); (apply ol_val; rfl; apply stp_pur; apply s_nilCheck; rfl); (apply ol_fa; rfl; rfl; exact fd_70_0; exact qZ); (apply ol_fa; rfl; rfl; exact fd_25_1; exact qZ); (apply ol_eff; apply s_store1; rfl; rfl; exact sz_3; rfl; exact qN; exact qT); (apply ol_nil))
    | (refine cw_region_id 1 ?_; (apply ol_mv; rfl; rfl); (apply ol_val; rfl; apply stp_pur; apply s_nilCheck; rfl); (apply ol_fa; rfl; rfl; exact fd_70_0; exact qZ); (apply ol_fa; rfl; rfl; exact fd_25_5; exact qZ); (apply ol_ld; rfl; rfl; rfl; exact qP); (apply ol_val; rfl; apply stp_pur; apply s_len; rfl; exact el_23); (apply ol_mv; rfl; rfl); (apply ol_nil))
    | (apply cw_cond_true; rfl; exact qA)
    | (apply cw_cond_false; rfl; exact qA)
    | apply cw_skip
    | apply cw_ret
    | apply cw_block
    | apply cw_exit
  refine cw_loopK (σ := Nat) [0, 15] (by (repeat (first | exact Keep.nil | (apply Keep.cons; rfl)))) (fun i => [(16, .int .i64 i)]) (fun _ => M) (fun i => [stB sb ro ph2 bk bn (.slice ta tn tc) (.slice (some ⟨vb, 0, none⟩) vo.length vc) rr out.length co, ⟨rr, flat LM.enc out ++ spo, 28⟩, ⟨some vb, flat (eK .i64) (decV i vo) ++ spv, 3⟩]) (fun i => i ≤ vo.length) (fun i => vo.length - i) 0 (by (repeat (first | exact trivial | refine And.intro rfl ?_))) (View.le.refl _) (by rw [decV_zero]; exact qK) (Nat.zero_le _) ?_
  intro i hi
  have hdl := decV_len hi hv1
  by_cases hin : i < vo.length
  · by_cases h0 : i = 0
    · subst h0
      have hst := decV_set hin (noneV_zero _)
      generalize decV 0 vo = D at *
      repeat' first
        | apply cw_seq
        | (refine cw_region_id 2 ?_; (apply ol_val; rfl; apply stp_cmp; apply s_lss; rfl; rfl; all_goals (intro hc17; try (exfalso; (first | exact hc17 rfl | omega)))); all_goals (apply ol_nil))
        | (refine cw_region_id 3 ?_; (apply ol_mv; rfl; rfl); (apply ol_as; rfl; rfl); (apply ol_nil))
        | (refine cw_draw (id := 4) 11 (.mv 0 (.mv 1 (.mv 2 (.mv 3 (.mv 4 (.mv 5 (.mv 6 (.mv 7 (.fx 8 (.mv 9 (.mv 10 (PT.nil)))))))))))) mixed (by kernel_rfl) ?_; (apply od_mv; rfl; rfl; apply s_move; rfl); (apply od_mv; rfl; rfl; apply s_nilCheck; rfl); (apply od_mv; rfl; rfl; apply s_fieldAddr'; rfl; exact fd_70_0; exact qZ); (apply od_mv; rfl; rfl; apply s_fieldAddr'; rfl; exact fd_25_5; exact qZ); (apply od_mv; rfl; rfl; apply s_load1; rfl; rfl; exact qP); (apply od_mv; rfl; rfl; apply s_move; rfl); (apply od_mv; rfl; rfl; apply s_move; rfl); (apply od_cmp; rfl; rfl; apply s_eql; rfl; rfl; all_goals (intro hc26; try (exfalso; (first | exact hc26 rfl | omega)))); all_goals (apply od_fx; (first | exact Wk.refl _ _ | exact qW); (apply fx_val; rfl; rfl; apply s_callv; rfl; exact gf_45; (intro w' hw'; first | exact kt w' | exact kf w'))); all_goals (apply od_mv; rfl; rfl; first | (apply s_conv; rfl; rfl; exact ti_3; (focus (apply wrap_i64; omega))) | (apply s_conv; rfl; rfl; exact ti_3; rfl)); all_goals (apply od_mv; rfl; rfl; first | (apply s_indexK; rfl; rfl; exact el_23; exact sz_3; (first | rfl); omega) | (apply s_indexO; rfl; rfl; exact el_23; exact sz_3; (first | rfl); omega)); all_goals (apply od_nil; (first | exact Wk.refl _ _ | exact qW)); all_goals (apply ol_eff; apply s_store1; rfl; rfl; exact sz_3; rfl; exact qN; (first | exact qN | (apply setAtK; omega) | (apply SetAt.set; exact qO))); all_goals (apply ol_nil))
        | (refine cw_region_id 5 ?_; (apply ol_val; rfl; apply stp_pur; apply s_add64; rfl; rfl; omega); (apply ol_mv; rfl; rfl); (apply ol_nil))
        | (apply cw_cond_true; rfl; exact qA)
        | (apply cw_cond_false; rfl; exact qA)
        | apply cw_skip
        | apply cw_ret
        | apply cw_block
        | apply cw_exit
      all_goals (rw [hst]; exact ⟨0 + 1, ⟨by (repeat (first | exact trivial | refine And.intro rfl ?_)), View.le.refl _, by exact qK, hin, by omega⟩⟩)
    · have hst := decV_set hin (noneV_pos hin h0)
      generalize decV i vo = D at *
      repeat' first
        | apply cw_seq
        | (refine cw_region_id 2 ?_; (apply ol_val; rfl; apply stp_cmp; apply s_lss; rfl; rfl; all_goals (intro hc17; try (exfalso; (first | exact hc17 rfl | omega)))); all_goals (apply ol_nil))
        | (refine cw_region_id 3 ?_; (apply ol_mv; rfl; rfl); (apply ol_as; rfl; rfl); (apply ol_nil))
        | (refine cw_draw (id := 4) 11 (.mv 0 (.mv 1 (.mv 2 (.mv 3 (.mv 4 (.mv 5 (.mv 6 (.mv 7 (.fx 8 (.mv 9 (.mv 10 (PT.nil)))))))))))) mixed (by kernel_rfl) ?_; (apply od_mv; rfl; rfl; apply s_move; rfl); (apply od_mv; rfl; rfl; apply s_nilCheck; rfl); (apply od_mv; rfl; rfl; apply s_fieldAddr'; rfl; exact fd_70_0; exact qZ); (apply od_mv; rfl; rfl; apply s_fieldAddr'; rfl; exact fd_25_5; exact qZ); (apply od_mv; rfl; rfl; apply s_load1; rfl; rfl; exact qP); (apply od_mv; rfl; rfl; apply s_move; rfl); (apply od_mv; rfl; rfl; apply s_move; rfl); (apply od_cmp; rfl; rfl; apply s_eql; rfl; rfl; all_goals (intro hc26; try (exfalso; (first | exact hc26 rfl | omega)))); all_goals (apply od_fx; (first | exact Wk.refl _ _ | exact qW); (apply fx_val; rfl; rfl; apply s_callv; rfl; exact gf_45; (intro w' hw'; first | exact kt w' | exact kf w'))); all_goals (apply od_mv; rfl; rfl; first | (apply s_conv; rfl; rfl; exact ti_3; (focus (apply wrap_i64; omega))) | (apply s_conv; rfl; rfl; exact ti_3; rfl)); all_goals (apply od_mv; rfl; rfl; first | (apply s_indexK; rfl; rfl; exact el_23; exact sz_3; (first | rfl); omega) | (apply s_indexO; rfl; rfl; exact el_23; exact sz_3; (first | rfl); omega)); all_goals (apply od_nil; (first | exact Wk.refl _ _ | exact qW)); all_goals (apply ol_eff; apply s_store1; rfl; rfl; exact sz_3; rfl; exact qN; (first | exact qN | (apply setAtK; omega) | (apply SetAt.set; exact qO))); all_goals (apply ol_nil))
        | (refine cw_region_id 5 ?_; (apply ol_val; rfl; apply stp_pur; apply s_add64; rfl; rfl; omega); (apply ol_mv; rfl; rfl); (apply ol_nil))
        | (apply cw_cond_true; rfl; exact qA)
        | (apply cw_cond_false; rfl; exact qA)
        | apply cw_skip
        | apply cw_ret
        | apply cw_block
        | apply cw_exit
      all_goals (rw [hst]; exact ⟨i + 1, ⟨by (repeat (first | exact trivial | refine And.intro rfl ?_)), View.le.refl _, by exact qK, hin, by omega⟩⟩)
  · obtain rfl : i = vo.length := by omega
    rw [decV_end hv1]
    have hnl := noneV_len hv1
    generalize noneV (vo.length : Int) = nv at *
    rw [← hnl]
    repeat' first
      | apply cw_seq
      | (refine cw_region_id 2 ?_; (apply ol_val; rfl; apply stp_cmp; apply s_lss; rfl; rfl; all_goals (intro hc17; try (exfalso; (first | exact hc17 rfl | omega)))); all_goals (apply ol_nil))
      | (refine cw_region_id 6 ?_; (apply ol_mv; rfl; rfl); (apply ol_mv; rfl; rfl); (apply ol_val; rfl; apply s_callv; rfl; exact gf_46; (intro w' hw'; exact commits_spec (View.le.refl (View.of w')) (show GetN ((View.of w').cell sb) 1 1 _ from GetN.cons (OB.cell (hw'.ok_ (by (repeat (first | exact Has.here | apply Has.there)))) (by rfl)) GetN.nil))); (apply ol_val; rfl; apply s_callv; rfl; exact gf_45; (intro w' hw'; exact flag_spec w' _)); (apply ol_val; rfl; apply s_buildSl; rfl; exact el_26; exact sz_5; exact zb_5; exact qN; rfl; rfl; (exact Nat.le_of_ble_eq_true rfl); exact qN; exact qR; intro bk35); (apply ol_val; rfl; apply s_callM (xs := [stB sb ro ph2 bk bn (.slice ta tn tc) (.slice (some ⟨vb, 0, none⟩) nv.length vc) rr out.length co, ⟨rr, flat LM.enc out ++ spo, 28⟩]); rfl; exact gf_42; (focus ((repeat (first | exact Pk.nil | (apply Pk.cons; (repeat (first | exact Spl.here | apply Spl.there))))); done)); (intro w' M2 hw' hrd; exact missing_spec hrd.lw hrd.ok hrd.sep hrd.nd so ho (by omega) (SlA.inV (r := some vb) (A := none) (sp := spv) (T := 3) (eK_length .i64) (hrd.row (by (repeat (first | exact Has.here | apply Has.there)))) (fun h => by cases h)) 3 (bs := [flB (cmB ph2)]) rfl (by omega) (fun x hx => by (rw [List.mem_singleton] at hx; subst hx; unfold flB; split <;> omega)) (SlA.inV (r := some bk35) (A := none) (sp := []) (T := 5) (eK_length .u8) (hrd.row (by (repeat (first | exact Has.here | apply Has.there)))) (fun h => by cases h))); (intro v F36 ys M36 h hl36 hL36 hF36; obtain ⟨ms, rr', co', spo', hms, hval, rfl, so'⟩ := h)); (apply ol_nil))
      | (apply cw_cond_true; rfl; exact qA)
      | (apply cw_cond_false; rfl; exact qA)
      | apply cw_skip
      | apply cw_ret
      | apply cw_block
      | apply cw_exit
    refine endsW [stB sb ro ph2 bk bn (.slice ta tn tc) (.slice (some ⟨vb, 0, none⟩) nv.length vc) rr' (out ++ ms).length co', ⟨rr', flat LM.enc (out ++ ms) ++ spo', 28⟩, ⟨some vb, flat (eK .i64) nv ++ spv, 3⟩] [] F36 RVal.nil (by exact qK) hL36 hF36 (fun F hF _ => ?_)
    exact ⟨ms, rr', co', spo', fun m h => (hms m h).mono hF, hval, by rw [hnl], so'⟩
end Go.Proofs.Ytagmoecojmlogaa
