/-
  The law of counts.
-/
import Derived.Test.YtkbbbflojebfgaaDoorX28
namespace Go.Proofs.YtkbbbflojebfgaaDoor
set_option maxRecDepth 20000
set_option linter.unusedSimpArgs false
set_option linter.unusedVariables false
open Go Go.Fw
structure CSt where
  i : Nat
  S : List Int
theorem newR_length (l : List Int) : (newR l).1.length = 32 := by
  unfold newR
  split
  · exact newE_length _
  · rfl
end Go.Proofs.YtkbbbflojebfgaaDoor
namespace Go.Proofs.YtkbbbflojebfgaaDoor
set_option maxRecDepth 20000
set_option linter.unusedSimpArgs false
set_option linter.unusedVariables false
open Go Go.Fw
attribute [local irreducible] CW OL OD FX Stp FnC FnV FnA Ret bI encI okI trE sha strOf frB encP tagd newE chE diE abE labB numB lfN lfE
set_option maxHeartbeats 800000
theorem law_counts {M : View} {w : World} (hM : View.le M (View.of w)) (hL : Laid M) {l : List Int} (hlb : ∀ x ∈ l, 0 ≤ x ∧ x ≤ 255) {rows : List (Sl Int)} {n cc : Nat} {a : Option Addr} {b o : Nat} (hn : rows.length = n) (s : SlA M Sl.enc 1 a rows b o) (hrow : ∀ x ∈ rows, SlA M (eK .i64) 1 x.a x.xs x.b x.o) :
    FnC Tryd.prog 4 [.string (strOf l), .slice a n cc] w (fun v _ => v = .bool true) := by
  subst hn
  have hsz := strOf_size l
  have k0 := fun (w' : World) (h : View.le M (View.of w')) => awake_spec h hL
  refine enterF (M := M) Tryd.func4 rfl rfl rfl rfl hM ?_
  by_cases hl : 100 < l.length ∨ 40 < rows.length
  ·
    repeat' first
      | apply cw_seq
      | (refine cw_region_id 0 ?_; (apply ol_as; exact rfl; exact rfl); (apply ol_nil))
      | (refine cw_region_id 1 ?_; (apply ol_val; exact rfl; apply s_callv; exact rfl; exact gf_6; (intro w' hw'; exact k0 w' hw'.le)); (apply ol_val; exact rfl; apply stp_pur; first | (apply s_not_t; exact rfl; (first | exact rfl | assumption)) | (apply s_not_f; exact rfl; (first | exact rfl | assumption)) | (apply s_not; exact rfl)); (apply ol_nil))
      | (refine cw_region_id 3 ?_; (apply ol_mv; exact rfl; exact rfl); (apply ol_val; exact rfl; apply stp_pur; apply s_len_string; exact rfl; exact rfl; exact rfl); (apply ol_val; exact rfl; apply stp_cmp; apply s_gtr; exact rfl; exact rfl; all_goals (intro hc16; try (exfalso; (first | exact hc16 rfl | omega)))); all_goals (apply ol_mv; exact rfl; exact rfl); all_goals (first | (apply ol_gskip; exact rfl; exact rfl; (first | exact rfl | assumption); exact rfl) | (apply ol_gval; exact rfl; exact rfl; exact rfl; (first | exact rfl | assumption); apply stp_pur; apply s_move; exact rfl)); all_goals (first | (apply ol_gskip; exact rfl; exact rfl; (first | exact rfl | assumption); exact rfl) | (apply ol_gval; exact rfl; exact rfl; exact rfl; (first | exact rfl | assumption); apply stp_pur; apply s_len; exact rfl; exact el_32)); all_goals (first | (apply ol_gskip; exact rfl; exact rfl; (first | exact rfl | assumption); exact rfl) | (apply ol_gval; exact rfl; exact rfl; exact rfl; (first | exact rfl | assumption); apply stp_cmp; apply s_gtr; exact rfl; exact rfl; all_goals (intro hc20; try (exfalso; (first | exact hc20 rfl | omega))))); all_goals (apply ol_val; exact rfl; apply stp_pur; first | (apply s_pick_t; exact rfl; (first | exact rfl | assumption); exact rfl) | (apply s_pick_f; exact rfl; (first | exact rfl | assumption); exact rfl)); all_goals (apply ol_nil))
      | (refine cw_region_id 4 ?_; (apply ol_as; exact rfl; exact rfl); (apply ol_nil))
      | (apply cw_cond_true; exact rfl; (first | exact rfl | assumption))
      | (apply cw_cond_false; exact rfl; (first | exact rfl | assumption))
      | apply cw_skip
      | apply cw_ret
      | apply cw_block
      | apply cw_exit
    all_goals (refine ends [] (RVal.tmp rfl RVal.nil) Pick.nil ?_; rfl)
  · have k1 := fun (w' : World) (h : View.le M (View.of w')) => new_spec h hL hlb (by omega)
    unfold newR at k1
    cases hlv : labB l with
    | false =>
      rw [hlv, if_neg (by simp)] at k1
      repeat' first
        | apply cw_seq
        | (refine cw_region_id 0 ?_; (apply ol_as; exact rfl; exact rfl); (apply ol_nil))
        | (refine cw_region_id 1 ?_; (apply ol_val; exact rfl; apply s_callv; exact rfl; exact gf_6; (intro w' hw'; exact k0 w' hw'.le)); (apply ol_val; exact rfl; apply stp_pur; first | (apply s_not_t; exact rfl; (first | exact rfl | assumption)) | (apply s_not_f; exact rfl; (first | exact rfl | assumption)) | (apply s_not; exact rfl)); (apply ol_nil))
        | (refine cw_region_id 3 ?_; (apply ol_mv; exact rfl; exact rfl); (apply ol_val; exact rfl; apply stp_pur; apply s_len_string; exact rfl; exact rfl; exact rfl); (apply ol_val; exact rfl; apply stp_cmp; apply s_gtr; exact rfl; exact rfl; all_goals (intro hc16; try (exfalso; (first | exact hc16 rfl | omega)))); all_goals (apply ol_mv; exact rfl; exact rfl); all_goals (first | (apply ol_gskip; exact rfl; exact rfl; (first | exact rfl | assumption); exact rfl) | (apply ol_gval; exact rfl; exact rfl; exact rfl; (first | exact rfl | assumption); apply stp_pur; apply s_move; exact rfl)); all_goals (first | (apply ol_gskip; exact rfl; exact rfl; (first | exact rfl | assumption); exact rfl) | (apply ol_gval; exact rfl; exact rfl; exact rfl; (first | exact rfl | assumption); apply stp_pur; apply s_len; exact rfl; exact el_32)); all_goals (first | (apply ol_gskip; exact rfl; exact rfl; (first | exact rfl | assumption); exact rfl) | (apply ol_gval; exact rfl; exact rfl; exact rfl; (first | exact rfl | assumption); apply stp_cmp; apply s_gtr; exact rfl; exact rfl; all_goals (intro hc20; try (exfalso; (first | exact hc20 rfl | omega))))); all_goals (apply ol_val; exact rfl; apply stp_pur; first | (apply s_pick_t; exact rfl; (first | exact rfl | assumption); exact rfl) | (apply s_pick_f; exact rfl; (first | exact rfl | assumption); exact rfl)); all_goals (apply ol_nil))
        | (refine cw_region_id 5 ?_; (apply ol_mv; exact rfl; exact rfl); (apply ol_val; exact rfl; apply s_callv; exact rfl; exact gf_8; (intro w' hw'; exact k1 w' hw'.le)); (apply ol_mv; exact rfl; exact rfl); (apply ol_ex; exact rfl; exact rfl; exact rfl); (apply ol_ex; exact rfl; exact rfl; exact rfl); (apply ol_val; exact rfl; apply s_alloc; exact zb_25; (focus ((repeat constructor); done)); intro bk5); (apply ol_eff; first | (apply s_storeN; exact rfl; exact rfl; exact sz_25; exact rfl; exact rfl; (focus ((repeat constructor); done)); (focus ((repeat constructor); done))) | (apply s_storeN; exact rfl; exact rfl; exact sz_25; (first | exact trE_length hR | exact trE_length hR2 | exact trE_length z32_length); exact trE_ones; (focus ((repeat (first | exact Repl.here | apply Repl.there)); done)); (first | exact setN_all (trE_length hR).symm | exact setN_all (trE_length hR2).symm | exact setN_all (trE_length z32_length).symm | exact setN_all ((trE_length hR).trans (trE_length hR2).symm)))); (apply ol_as; exact rfl; exact rfl); (apply ol_nil))
        | (refine cw_region_id 6 ?_; (apply ol_mv; exact rfl; exact rfl); (apply ol_val; exact rfl; apply stp_cmp; apply s_neq; exact rfl; exact rfl; all_goals (intro hc28; try (exfalso; (first | exact hc28 rfl | omega)))); all_goals (apply ol_nil))
        | (refine cw_region_id 7 ?_; (apply ol_mv; exact rfl; exact rfl); (apply ol_val; exact rfl; apply stp_cmp; apply s_eql; exact rfl; exact rfl; all_goals (intro hc30; try (exfalso; (first | exact hc30 rfl | omega)))); all_goals (apply ol_mv; exact rfl; exact rfl); all_goals (first | (apply ol_gskip; exact rfl; exact rfl; (first | exact rfl | assumption); exact rfl) | (apply ol_gval; exact rfl; exact rfl; exact rfl; (first | exact rfl | assumption); apply stp_pur; apply s_loadN; exact rfl; exact rfl; exact sz_25; (first | (apply RdN.own; (focus ((repeat constructor); done)); (focus ((repeat (first | exact rfl | constructor)); done))) | (apply RdN.own; (repeat (first | exact Has.here | apply Has.there)); (first | exact getTr_all hR | exact getTr_c hR | exact getTr_all z32_length | exact getTr_all hR2 | exact getTr_c hR2))))); all_goals (first | (apply ol_gskip; exact rfl; exact rfl; (first | exact rfl | assumption); exact rfl) | (apply ol_gval; exact rfl; exact rfl; exact rfl; (first | exact rfl | assumption); apply stp_pur; first | (apply s_buildS; exact rfl; exact fs_25; exact zb_25; first | exact Fil.tr hR rfl | exact Fil.tr0 hR rfl rfl | exact Fil.z32) | (apply s_buildS; exact rfl; exact fs_25; exact zb_25; (focus ((repeat (first | exact Fil.nil | (apply Fil.one; exact rfl; exact rfl; (repeat (first | exact SetAt.zero | apply SetAt.succ))) | (apply Fil.agg; exact rfl; exact rfl; (repeat (first | exact SetN.nil | (apply SetN.cons; (repeat (first | exact SetAt.zero | apply SetAt.succ))))); (exact Nat.le_of_ble_eq_true rfl)))); done))))); all_goals (first | (apply ol_gskip; exact rfl; exact rfl; (first | exact rfl | assumption); exact rfl) | (apply ol_gval; exact rfl; exact rfl; exact rfl; (first | exact rfl | assumption); apply stp_pur; apply s_eqTr; exact rfl; exact rfl; exact tr_25; exact z32_length; exact z32_length; exact ⟨rfl, rfl⟩)); all_goals (apply ol_val; exact rfl; apply stp_pur; first | (apply s_pick_t; exact rfl; (first | exact rfl | assumption); exact rfl) | (apply s_pick_f; exact rfl; (first | exact rfl | assumption); exact rfl)); all_goals (apply ol_as; exact rfl; exact rfl); all_goals (apply ol_nil))
        | (apply cw_cond_true; exact rfl; (first | exact rfl | assumption))
        | (apply cw_cond_false; exact rfl; (first | exact rfl | assumption))
        | apply cw_skip
        | apply cw_ret
        | apply cw_block
        | apply cw_exit
      all_goals (refine ends [] (RVal.tmp rfl RVal.nil) Pick.nil ?_; rfl)
    | true =>
      rw [hlv, if_pos rfl] at k1
      have hR := newE_length l
      have hB := isB_newE l
      generalize newE l = R at *
      repeat' first
        | apply cw_seq
        | (refine cw_region_id 0 ?_; (apply ol_as; exact rfl; exact rfl); (apply ol_nil))
        | (refine cw_region_id 1 ?_; (apply ol_val; exact rfl; apply s_callv; exact rfl; exact gf_6; (intro w' hw'; exact k0 w' hw'.le)); (apply ol_val; exact rfl; apply stp_pur; first | (apply s_not_t; exact rfl; (first | exact rfl | assumption)) | (apply s_not_f; exact rfl; (first | exact rfl | assumption)) | (apply s_not; exact rfl)); (apply ol_nil))
        | (refine cw_region_id 3 ?_; (apply ol_mv; exact rfl; exact rfl); (apply ol_val; exact rfl; apply stp_pur; apply s_len_string; exact rfl; exact rfl; exact rfl); (apply ol_val; exact rfl; apply stp_cmp; apply s_gtr; exact rfl; exact rfl; all_goals (intro hc16; try (exfalso; (first | exact hc16 rfl | omega)))); all_goals (apply ol_mv; exact rfl; exact rfl); all_goals (first | (apply ol_gskip; exact rfl; exact rfl; (first | exact rfl | assumption); exact rfl) | (apply ol_gval; exact rfl; exact rfl; exact rfl; (first | exact rfl | assumption); apply stp_pur; apply s_move; exact rfl)); all_goals (first | (apply ol_gskip; exact rfl; exact rfl; (first | exact rfl | assumption); exact rfl) | (apply ol_gval; exact rfl; exact rfl; exact rfl; (first | exact rfl | assumption); apply stp_pur; apply s_len; exact rfl; exact el_32)); all_goals (first | (apply ol_gskip; exact rfl; exact rfl; (first | exact rfl | assumption); exact rfl) | (apply ol_gval; exact rfl; exact rfl; exact rfl; (first | exact rfl | assumption); apply stp_cmp; apply s_gtr; exact rfl; exact rfl; all_goals (intro hc20; try (exfalso; (first | exact hc20 rfl | omega))))); all_goals (apply ol_val; exact rfl; apply stp_pur; first | (apply s_pick_t; exact rfl; (first | exact rfl | assumption); exact rfl) | (apply s_pick_f; exact rfl; (first | exact rfl | assumption); exact rfl)); all_goals (apply ol_nil))
        | (refine cw_region_id 5 ?_; (apply ol_mv; exact rfl; exact rfl); (apply ol_val; exact rfl; apply s_callv; exact rfl; exact gf_8; (intro w' hw'; exact k1 w' hw'.le)); (apply ol_mv; exact rfl; exact rfl); (apply ol_ex; exact rfl; exact rfl; exact rfl); (apply ol_ex; exact rfl; exact rfl; exact rfl); (apply ol_val; exact rfl; apply s_alloc; exact zb_25; (focus ((repeat constructor); done)); intro bk5); (apply ol_eff; first | (apply s_storeN; exact rfl; exact rfl; exact sz_25; exact rfl; exact rfl; (focus ((repeat constructor); done)); (focus ((repeat constructor); done))) | (apply s_storeN; exact rfl; exact rfl; exact sz_25; (first | exact trE_length hR | exact trE_length hR2 | exact trE_length z32_length); exact trE_ones; (focus ((repeat (first | exact Repl.here | apply Repl.there)); done)); (first | exact setN_all (trE_length hR).symm | exact setN_all (trE_length hR2).symm | exact setN_all (trE_length z32_length).symm | exact setN_all ((trE_length hR).trans (trE_length hR2).symm)))); (apply ol_as; exact rfl; exact rfl); (apply ol_nil))
        | (refine cw_region_id 6 ?_; (apply ol_mv; exact rfl; exact rfl); (apply ol_val; exact rfl; apply stp_cmp; apply s_neq; exact rfl; exact rfl; all_goals (intro hc28; try (exfalso; (first | exact hc28 rfl | omega)))); all_goals (apply ol_nil))
        | (refine cw_region_id 8 ?_; (apply ol_mv; exact rfl; exact rfl); (apply ol_val; exact rfl; apply s_callv; exact rfl; exact gf_8; (intro w' hw'; exact k1 w' hw'.le)); (apply ol_mv; exact rfl; exact rfl); (apply ol_ex; exact rfl; exact rfl; exact rfl); (apply ol_ex; exact rfl; exact rfl; exact rfl); (apply ol_val; exact rfl; apply s_alloc; exact zb_25; (focus ((repeat constructor); done)); intro bk7); (apply ol_eff; first | (apply s_storeN; exact rfl; exact rfl; exact sz_25; exact rfl; exact rfl; (focus ((repeat constructor); done)); (focus ((repeat constructor); done))) | (apply s_storeN; exact rfl; exact rfl; exact sz_25; (first | exact trE_length hR | exact trE_length hR2 | exact trE_length z32_length); exact trE_ones; (focus ((repeat (first | exact Repl.here | apply Repl.there)); done)); (first | exact setN_all (trE_length hR).symm | exact setN_all (trE_length hR2).symm | exact setN_all (trE_length z32_length).symm | exact setN_all ((trE_length hR).trans (trE_length hR2).symm)))); (apply ol_as; exact rfl; exact rfl); (apply ol_nil))
        | (refine cw_region_id 9 ?_; (apply ol_mv; exact rfl; exact rfl); (apply ol_val; exact rfl; apply stp_pur; apply s_len; exact rfl; exact el_32); (apply ol_mv; exact rfl; exact rfl); (apply ol_nil))
        | (apply cw_cond_true; exact rfl; (first | exact rfl | assumption))
        | (apply cw_cond_false; exact rfl; (first | exact rfl | assumption))
        | apply cw_skip
        | apply cw_ret
        | apply cw_block
        | apply cw_exit
      refine cw_loopK (σ := CSt) [0, 5, 7, 41, 42] (by (repeat (first | exact Keep.nil | (apply Keep.cons; exact rfl)))) (fun s => [(43, .int .i64 s.i)]) (fun _ => M) (fun s => [⟨some bk5, trE s.S s.i, 25⟩, ⟨some bk7, trE s.S s.i, 25⟩]) (fun s => s.i ≤ rows.length ∧ s.S.length = 32 ∧ isB s.S) (fun s => rows.length - s.i) ⟨0, R⟩ (by (repeat (first | exact trivial | refine And.intro rfl ?_))) (View.le.refl _) (by (repeat (first | exact Pick.nil | (apply Pick.cons; (focus ((repeat (first | exact Spl.here | apply Spl.there)); done))) | exact Pick.refl | exact Pick.skip1 | exact Pick.skip2))) ⟨Nat.zero_le _, hR, hB⟩ ?_
      clear hR hB k1
      rintro ⟨i, S⟩ ⟨hi, hR, hB⟩
      dsimp only at hi hR hB
      dsimp only
      by_cases hin : i < rows.length
      · have hci := s.cells i hin
        have hr := hrow _ (List.getElem_mem hin)
        generalize rows[i] = x at *
        obtain ⟨ns, xa, xb, xo, xc⟩ := x
        dsimp only [Sl.enc] at hci hr
        by_cases h40 : 40 < ns.length
        ·
          repeat' first
            | apply cw_seq
            | (refine cw_region_id 10 ?_; (apply ol_val; exact rfl; apply stp_cmp; apply s_lss; exact rfl; exact rfl; all_goals (intro hc44; try (exfalso; (first | exact hc44 rfl | omega)))); all_goals (apply ol_nil))
            | (refine cw_region_id 11 ?_; (apply ol_mv; exact rfl; exact rfl); (apply ol_val; exact rfl; apply stp_pur; first | (apply s_indexK; exact rfl; exact rfl; exact el_32; exact sz_35; (first | exact rfl | exact s.at_ (by omega)); omega) | (apply s_indexO; exact rfl; exact rfl; exact el_32; exact sz_35; (first | exact rfl | exact s.at_ (by omega)); omega)); (apply ol_ld; exact rfl; exact rfl; exact rfl; (first | (apply RdN.own; (focus ((repeat constructor); done)); exact GetN.cons rfl GetN.nil) | (apply RdN.view; exact hci) | (apply RdN.own; (repeat (first | exact Has.here | apply Has.there)); (first | exact getTr_all hR | exact getTr_c hR | exact getTr_all z32_length | exact getTr_all hR2 | exact getTr_c hR2)))); (apply ol_as; exact rfl; exact rfl); (apply ol_as; exact rfl; exact rfl); (apply ol_nil))
            | (refine cw_region_id 12 ?_; (apply ol_mv; exact rfl; exact rfl); (apply ol_val; exact rfl; apply stp_pur; apply s_len; exact rfl; exact el_35); (apply ol_val; exact rfl; apply stp_cmp; apply s_gtr; exact rfl; exact rfl; all_goals (intro hc50; try (exfalso; (first | exact hc50 rfl | omega)))); all_goals (apply ol_nil))
            | (refine cw_region_id 13 ?_; (apply ol_as; exact rfl; exact rfl); (apply ol_nil))
            | (apply cw_cond_true; exact rfl; (first | exact rfl | assumption))
            | (apply cw_cond_false; exact rfl; (first | exact rfl | assumption))
            | apply cw_skip
            | apply cw_ret
            | apply cw_block
            | apply cw_exit
          all_goals (refine ends [] (RVal.tmp rfl RVal.nil) Pick.nil ?_; rfl)
        · have hab : abR S (i : Int) l (inE ns) = (abE S l (inE ns), (i : Int) + 1, 0) := by
            unfold abR
            rw [if_pos ⟨⟨by omega, by omega⟩, hlv⟩, if_neg (by omega)]
          have k2 := fun (w' : World) (h : View.le M (View.of w')) => tints_spec (cc := xc) h hL hR hB (i : Int) hlb rfl (by omega) hr
          have k3 := fun (w' : World) (h : View.le M (View.of w')) => ints_spec (cc := xc) h rfl (by omega) hr
          have k4 := fun (w' : World) (h : View.le M (View.of w')) {r : Option Nat} {A : Option Addr} {c2 : Nat} {sp : List Value} => absorbI_spec (hL.mono h) hR hB (i : Int) hlb (ns := ns) (by omega) (r := r) (A := A) (c2 := c2) (sp := sp)
          rw [hab] at k2 k4
          dsimp only at k2 k4
          have hR2 := abE_length S l (inE ns)
          have hB2 := isB_abE S l (inE ns)
          clear hab
          generalize abE S l (inE ns) = S2 at *
          unfold IntsR at k3
          repeat' first
            | apply cw_seq
            | (refine cw_region_id 10 ?_; (apply ol_val; exact rfl; apply stp_cmp; apply s_lss; exact rfl; exact rfl; all_goals (intro hc44; try (exfalso; (first | exact hc44 rfl | omega)))); all_goals (apply ol_nil))
            | (refine cw_region_id 11 ?_; (apply ol_mv; exact rfl; exact rfl); (apply ol_val; exact rfl; apply stp_pur; first | (apply s_indexK; exact rfl; exact rfl; exact el_32; exact sz_35; (first | exact rfl | exact s.at_ (by omega)); omega) | (apply s_indexO; exact rfl; exact rfl; exact el_32; exact sz_35; (first | exact rfl | exact s.at_ (by omega)); omega)); (apply ol_ld; exact rfl; exact rfl; exact rfl; (first | (apply RdN.own; (focus ((repeat constructor); done)); exact GetN.cons rfl GetN.nil) | (apply RdN.view; exact hci) | (apply RdN.own; (repeat (first | exact Has.here | apply Has.there)); (first | exact getTr_all hR | exact getTr_c hR | exact getTr_all z32_length | exact getTr_all hR2 | exact getTr_c hR2)))); (apply ol_as; exact rfl; exact rfl); (apply ol_as; exact rfl; exact rfl); (apply ol_nil))
            | (refine cw_region_id 12 ?_; (apply ol_mv; exact rfl; exact rfl); (apply ol_val; exact rfl; apply stp_pur; apply s_len; exact rfl; exact el_35); (apply ol_val; exact rfl; apply stp_cmp; apply s_gtr; exact rfl; exact rfl; all_goals (intro hc50; try (exfalso; (first | exact hc50 rfl | omega)))); all_goals (apply ol_nil))
            | (refine cw_region_id 14 ?_; (apply ol_as; exact rfl; exact rfl); (apply ol_nil))
            | (refine cw_region_id 15 ?_; (apply ol_ldN; exact rfl; exact rfl; exact rfl; exact sz_25; (first | (apply RdN.own; (focus ((repeat constructor); done)); (focus ((repeat (first | exact rfl | constructor)); done))) | (apply RdN.view; exact hci) | (apply RdN.own; (repeat (first | exact Has.here | apply Has.there)); (first | exact getTr_all hR | exact getTr_c hR | exact getTr_all z32_length | exact getTr_all hR2 | exact getTr_c hR2)))); (apply ol_mv; exact rfl; exact rfl); (apply ol_mv; exact rfl; exact rfl); (apply ol_val; exact rfl; apply s_callv; exact rfl; exact gf_9; (intro w' hw'; exact k2 w' hw'.le)); (apply ol_mv; exact rfl; exact rfl); (apply ol_ex; exact rfl; exact rfl; exact rfl); (apply ol_ex; exact rfl; exact rfl; exact rfl); (apply ol_eff; first | (apply s_storeN; exact rfl; exact rfl; exact sz_25; exact rfl; exact rfl; (focus ((repeat constructor); done)); (focus ((repeat constructor); done))) | (apply s_storeN; exact rfl; exact rfl; exact sz_25; (first | exact trE_length hR | exact trE_length hR2 | exact trE_length z32_length); exact trE_ones; (focus ((repeat (first | exact Repl.here | apply Repl.there)); done)); (first | exact setN_all (trE_length hR).symm | exact setN_all (trE_length hR2).symm | exact setN_all (trE_length z32_length).symm | exact setN_all ((trE_length hR).trans (trE_length hR2).symm)))); (apply ol_as; exact rfl; exact rfl); (apply ol_nil))
            | (refine cw_region_id 16 ?_; (apply ol_mv; exact rfl; exact rfl); (apply ol_val; exact rfl; apply stp_cmp; apply s_neq; exact rfl; exact rfl; all_goals (intro hc59; try (exfalso; (first | exact hc59 rfl | omega)))); all_goals (apply ol_nil))
            | (apply cw_cond_true; exact rfl; (first | exact rfl | assumption))
            | (apply cw_cond_false; exact rfl; (first | exact rfl | assumption))
            | apply cw_skip
            | apply cw_ret
            | apply cw_block
            | apply cw_exit
          repeat' first
            | apply cw_seq
            | (refine cw_drawW (id := 18) (own0 := [⟨some bk5, trE S2 ((i : Int) + 1), 25⟩]) 9 (.mv 1 (.mv 2 (.br 0 (.fx 3 (.fx 4 (.mv 5 (.mv 6 (.mv 7 (.fx 8 (PT.nil))))))) 3 (.fx 0 (.fx 4 (.mv 5 (.mv 6 (.mv 7 (.fx 8 (PT.nil)))))))))) mixed (by kernel_rfl) (by (first | exact Wk.refl _ _ | (focus (apply Wk.mk; (first | exact View.le.refl _ | assumption | exact View.le.trans (by assumption) (by assumption)); (repeat constructor); done)))) ?_; (apply od_mv; exact rfl; exact rfl; apply s_move; exact rfl); (apply od_mv; exact rfl; exact rfl; apply s_move; exact rfl); (apply od_br; (first | exact Wk.refl _ _ | (focus (apply Wk.mk; (first | exact View.le.refl _ | assumption | exact View.le.trans (by assumption) (by assumption)); (repeat constructor); done)))); all_goals (first | (refine fx_at 0 ?_; (apply fx_val; exact rfl; exact rfl; apply stp_pur; apply s_loadN; exact rfl; exact rfl; exact sz_25; (first | (apply RdN.own; (focus ((repeat constructor); done)); (focus ((repeat (first | exact rfl | constructor)); done))) | (apply RdN.own; (repeat (first | exact Has.here | apply Has.there)); (first | exact getTr_all hR | exact getTr_c hR | exact getTr_all z32_length | exact getTr_all hR2 | exact getTr_c hR2)))); (apply od_fx; (first | exact Wk.refl _ _ | (focus (apply Wk.mk; (first | exact View.le.refl _ | assumption | exact View.le.trans (by assumption) (by assumption)); (repeat constructor); done))); (apply fx_val; exact rfl; exact rfl; apply s_call; exact rfl; exact gf_11; (intro w' hw'; exact k3 w' hw'.le); ((intro v new h; obtain ⟨r64, A64, c64, s64, rfl, rfl, so64⟩ := h)))); (apply od_fx; (first | exact Wk.refl _ _ | (focus (apply Wk.mk; (first | exact View.le.refl _ | assumption | exact View.le.trans (by assumption) (by assumption)); (repeat constructor); done))); (apply fx_val; exact rfl; exact rfl; apply s_callv; exact rfl; exact gf_10; (intro w' hw'; exact k4 w' hw'.le (hw'.ok_ (by (repeat (first | exact Has.here | apply Has.there)))) so64))); (apply od_mv; exact rfl; exact rfl; apply s_move; exact rfl); (apply od_mv; exact rfl; exact rfl; apply s_extract; exact rfl; exact rfl); (apply od_mv; exact rfl; exact rfl; apply s_extract; exact rfl; exact rfl); (apply od_fx; (first | exact Wk.refl _ _ | (focus (apply Wk.mk; (first | exact View.le.refl _ | assumption | exact View.le.trans (by assumption) (by assumption)); (repeat constructor); done))); (apply fx_eff; exact rfl; first | (apply s_storeN; exact rfl; exact rfl; exact sz_25; exact rfl; exact rfl; (focus ((repeat constructor); done)); (focus ((repeat constructor); done))) | (apply s_storeN; exact rfl; exact rfl; exact sz_25; (first | exact trE_length hR | exact trE_length hR2 | exact trE_length z32_length); exact trE_ones; (focus ((repeat (first | exact Repl.here | apply Repl.there)); done)); (first | exact setN_all (trE_length hR).symm | exact setN_all (trE_length hR2).symm | exact setN_all (trE_length z32_length).symm | exact setN_all ((trE_length hR).trans (trE_length hR2).symm))))); (apply od_nil; (first | exact Wk.refl _ _ | (focus (apply Wk.mk; (first | exact View.le.refl _ | assumption | exact View.le.trans (by assumption) (by assumption)); (repeat constructor); done)))); (apply ol_as; exact rfl; exact rfl); (apply ol_nil)) | (refine fx_at 3 ?_; (apply fx_val; exact rfl; exact rfl; apply s_call; exact rfl; exact gf_11; (intro w' hw'; exact k3 w' hw'.le); ((intro v new h; obtain ⟨r64, A64, c64, s64, rfl, rfl, so64⟩ := h))); (apply od_fx; (first | exact Wk.refl _ _ | (focus (apply Wk.mk; (first | exact View.le.refl _ | assumption | exact View.le.trans (by assumption) (by assumption)); (repeat constructor); done))); (apply fx_val; exact rfl; exact rfl; apply stp_pur; apply s_loadN; exact rfl; exact rfl; exact sz_25; (first | (apply RdN.own; (focus ((repeat constructor); done)); (focus ((repeat (first | exact rfl | constructor)); done))) | (apply RdN.own; (repeat (first | exact Has.here | apply Has.there)); (first | exact getTr_all hR | exact getTr_c hR | exact getTr_all z32_length | exact getTr_all hR2 | exact getTr_c hR2))))); (apply od_fx; (first | exact Wk.refl _ _ | (focus (apply Wk.mk; (first | exact View.le.refl _ | assumption | exact View.le.trans (by assumption) (by assumption)); (repeat constructor); done))); (apply fx_val; exact rfl; exact rfl; apply s_callv; exact rfl; exact gf_10; (intro w' hw'; exact k4 w' hw'.le (hw'.ok_ (by (repeat (first | exact Has.here | apply Has.there)))) so64))); (apply od_mv; exact rfl; exact rfl; apply s_move; exact rfl); (apply od_mv; exact rfl; exact rfl; apply s_extract; exact rfl; exact rfl); (apply od_mv; exact rfl; exact rfl; apply s_extract; exact rfl; exact rfl); (apply od_fx; (first | exact Wk.refl _ _ | (focus (apply Wk.mk; (first | exact View.le.refl _ | assumption | exact View.le.trans (by assumption) (by assumption)); (repeat constructor); done))); (apply fx_eff; exact rfl; first | (apply s_storeN; exact rfl; exact rfl; exact sz_25; exact rfl; exact rfl; (focus ((repeat constructor); done)); (focus ((repeat constructor); done))) | (apply s_storeN; exact rfl; exact rfl; exact sz_25; (first | exact trE_length hR | exact trE_length hR2 | exact trE_length z32_length); exact trE_ones; (focus ((repeat (first | exact Repl.here | apply Repl.there)); done)); (first | exact setN_all (trE_length hR).symm | exact setN_all (trE_length hR2).symm | exact setN_all (trE_length z32_length).symm | exact setN_all ((trE_length hR).trans (trE_length hR2).symm))))); (apply od_nil; (first | exact Wk.refl _ _ | (focus (apply Wk.mk; (first | exact View.le.refl _ | assumption | exact View.le.trans (by assumption) (by assumption)); (repeat constructor); done)))); (apply ol_as; exact rfl; exact rfl); (apply ol_nil))))
            | (apply cw_cond_true; exact rfl; (first | exact rfl | assumption))
            | (apply cw_cond_false; exact rfl; (first | exact rfl | assumption))
            | apply cw_skip
            | apply cw_ret
            | apply cw_block
            | apply cw_exit
          all_goals
            repeat' first
              | apply cw_seq
              | (refine cw_region_id 19 ?_; (apply ol_mv; exact rfl; exact rfl); (apply ol_val; exact rfl; apply stp_cmp; apply s_neq; exact rfl; exact rfl; all_goals (intro hc69; try (exfalso; (first | exact hc69 rfl | omega)))); all_goals (apply ol_mv; exact rfl; exact rfl); all_goals (first | (apply ol_gskip; exact rfl; exact rfl; (first | exact rfl | assumption); exact rfl) | (apply ol_gval; exact rfl; exact rfl; exact rfl; (first | exact rfl | assumption); apply stp_pur; apply s_loadN; exact rfl; exact rfl; exact sz_25; (first | (apply RdN.own; (focus ((repeat constructor); done)); (focus ((repeat (first | exact rfl | constructor)); done))) | (apply RdN.own; (repeat (first | exact Has.here | apply Has.there)); (first | exact getTr_all hR | exact getTr_c hR | exact getTr_all z32_length | exact getTr_all hR2 | exact getTr_c hR2))))); all_goals (first | (apply ol_gskip; exact rfl; exact rfl; (first | exact rfl | assumption); exact rfl) | (apply ol_gval; exact rfl; exact rfl; exact rfl; (first | exact rfl | assumption); apply stp_pur; apply s_loadN; exact rfl; exact rfl; exact sz_25; (first | (apply RdN.own; (focus ((repeat constructor); done)); (focus ((repeat (first | exact rfl | constructor)); done))) | (apply RdN.own; (repeat (first | exact Has.here | apply Has.there)); (first | exact getTr_all hR | exact getTr_c hR | exact getTr_all z32_length | exact getTr_all hR2 | exact getTr_c hR2))))); all_goals (first | (apply ol_gskip; exact rfl; exact rfl; (first | exact rfl | assumption); exact rfl) | (apply ol_gval; exact rfl; exact rfl; exact rfl; (first | exact rfl | assumption); apply stp_pur; apply s_neqTr; exact rfl; exact rfl; exact tr_25; exact hR2; exact hR2; exact ⟨rfl, rfl⟩)); all_goals (apply ol_val; exact rfl; apply stp_pur; first | (apply s_pick_t; exact rfl; (first | exact rfl | assumption); exact rfl) | (apply s_pick_f; exact rfl; (first | exact rfl | assumption); exact rfl)); all_goals (apply ol_mv; exact rfl; exact rfl); all_goals (first | (apply ol_gskip; exact rfl; exact rfl; (first | exact rfl | assumption); exact rfl) | (apply ol_gval; exact rfl; exact rfl; exact rfl; (first | exact rfl | assumption); apply stp_pur; apply s_fieldAddr'; exact rfl; exact fd_25_1; (first | exact Nat.zero_add _ | exact Nat.add_zero _ | exact rfl))); all_goals (first | (apply ol_gskip; exact rfl; exact rfl; (first | exact rfl | assumption); exact rfl) | (apply ol_gval; exact rfl; exact rfl; exact rfl; (first | exact rfl | assumption); apply stp_pur; apply s_load1; exact rfl; exact rfl; (first | (apply RdN.own; (focus ((repeat constructor); done)); (first | exact GetN.cons rfl GetN.nil | (apply getN_ints_app; (first | omega | (simp; omega) | (simp; done))) | (apply getN_ints; (first | omega | (simp; omega) | (simp; done))))) | (apply RdN.own; (repeat (first | exact Has.here | apply Has.there)); (first | exact getTr_all hR | exact getTr_c hR | exact getTr_all z32_length | exact getTr_all hR2 | exact getTr_c hR2))))); all_goals (first | (apply ol_gskip; exact rfl; exact rfl; (first | exact rfl | assumption); exact rfl) | (apply ol_gval; exact rfl; exact rfl; exact rfl; (first | exact rfl | assumption); apply stp_pur; apply s_move; exact rfl)); all_goals (first | (apply ol_gskip; exact rfl; exact rfl; (first | exact rfl | assumption); exact rfl) | (apply ol_gval; exact rfl; exact rfl; exact rfl; (first | exact rfl | assumption); apply stp_pur; apply s_add64; exact rfl; exact rfl; omega)); all_goals (first | (apply ol_gskip; exact rfl; exact rfl; (first | exact rfl | assumption); exact rfl) | (apply ol_gval; exact rfl; exact rfl; exact rfl; (first | exact rfl | assumption); apply stp_cmp; apply s_neq; exact rfl; exact rfl; all_goals (intro hc80; try (exfalso; (first | exact hc80 rfl | omega))))); all_goals (apply ol_val; exact rfl; apply stp_pur; first | (apply s_pick_t; exact rfl; (first | exact rfl | assumption); exact rfl) | (apply s_pick_f; exact rfl; (first | exact rfl | assumption); exact rfl)); all_goals (apply ol_nil))
              | (refine cw_region_id 21 ?_; (apply ol_val; exact rfl; apply stp_pur; apply s_add64; exact rfl; exact rfl; omega); (apply ol_mv; exact rfl; exact rfl); (apply ol_nil))
              | (apply cw_cond_true; exact rfl; (first | exact rfl | assumption))
              | (apply cw_cond_false; exact rfl; (first | exact rfl | assumption))
              | apply cw_skip
              | apply cw_ret
              | apply cw_block
              | apply cw_exit
            exact ⟨⟨i + 1, S2⟩, ⟨by (repeat (first | exact trivial | refine And.intro rfl ?_)), View.le.refl _, by (repeat (first | exact Pick.nil | (apply Pick.cons; (focus ((repeat (first | exact Spl.here | apply Spl.there)); done))) | exact Pick.refl | exact Pick.skip1 | exact Pick.skip2)), ⟨hin, hR2, hB2⟩, by dsimp only; omega⟩⟩
      ·
        repeat' first
          | apply cw_seq
          | (refine cw_region_id 10 ?_; (apply ol_val; exact rfl; apply stp_cmp; apply s_lss; exact rfl; exact rfl; all_goals (intro hc44; try (exfalso; (first | exact hc44 rfl | omega)))); all_goals (apply ol_nil))
          | (refine cw_region_id 22 ?_; (apply ol_as; exact rfl; exact rfl); (apply ol_nil))
          | (apply cw_cond_true; exact rfl; (first | exact rfl | assumption))
          | (apply cw_cond_false; exact rfl; (first | exact rfl | assumption))
          | apply cw_skip
          | apply cw_ret
          | apply cw_block
          | apply cw_exit
        all_goals (refine ends [] (RVal.tmp rfl RVal.nil) Pick.nil ?_; rfl)
end Go.Proofs.YtkbbbflojebfgaaDoor
