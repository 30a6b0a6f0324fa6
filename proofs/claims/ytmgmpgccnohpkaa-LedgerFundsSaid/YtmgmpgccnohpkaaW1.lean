/-
  The walks of the small functions of the ledger: entry, post, New, none, Equal, and of the reference: Accounts, Entry.
-/
import Derived.Test.YtmgmpgccnohpkaaTy
import Derived.Test.YtmgmpgccnohpkaaLM
namespace Go.Proofs.Ytmgmpgccnohpkaa
open Go Go.Fw
attribute [local irreducible] CW OL OD FX Stp

theorem entry_spec (x : Ent) (n : Int) (w : World) : FnC Try.prog 30 [.agg x.enc.toArray, .int .i64 n] w (fun v _ => v = .bool (entryB n x)) := by
  refine enterF (M := View.of w) Try.func30 rfl rfl rfl rfl (View.le.refl _) ?_
  repeat' first
    | (apply ol_gskip; exact rfl; exact rfl; (first | exact rfl | assumption); exact rfl)
    | (apply ol_val; exact rfl; apply stp_pur; (first | (apply s_move; exact rfl) | (apply s_assign; exact rfl) | (apply s_fieldAddr'; exact rfl; (first | exact fd_34_0 | exact fd_34_1 | exact fd_34_2 | exact fd_34_3); (first | exact Nat.zero_add _ | exact Nat.add_zero _ | exact rfl)) | (apply s_load1; exact rfl; exact rfl; first | (apply RdN.own; (focus ((repeat (first | exact Has.here | apply Has.there)); done)); first | exact GetN.cons rfl GetN.nil | (apply getN_ints_app; (first | omega | (simp; omega) | (simp; done))) | (apply getN_ints; (first | omega | (simp; omega) | (simp; done))))) | (apply s_pick_t; exact rfl; (first | exact rfl | assumption); exact rfl) | (apply s_pick_f; exact rfl; (first | exact rfl | assumption); exact rfl)))
    | (apply ol_val; exact rfl; apply stp_cmp; (first | (apply s_lss; exact rfl; exact rfl) | (apply s_leq; exact rfl; exact rfl) | (apply s_geq; exact rfl; exact rfl) | (apply s_neq; exact rfl; exact rfl)); all_goals (intro _; try (exfalso; omega; done)))
    | (apply ol_val; exact rfl; (first | (apply s_boxN; exact rfl; intro _) | (apply s_box1; exact rfl; exact rfl; intro _)))
    | (apply ol_gval; exact rfl; exact rfl; exact rfl; (first | exact rfl | assumption); apply stp_pur; (first | (apply s_move; exact rfl) | (apply s_assign; exact rfl) | (apply s_fieldAddr'; exact rfl; (first | exact fd_34_0 | exact fd_34_1 | exact fd_34_2 | exact fd_34_3); (first | exact Nat.zero_add _ | exact Nat.add_zero _ | exact rfl)) | (apply s_load1; exact rfl; exact rfl; first | (apply RdN.own; (focus ((repeat (first | exact Has.here | apply Has.there)); done)); first | exact GetN.cons rfl GetN.nil | (apply getN_ints_app; (first | omega | (simp; omega) | (simp; done))) | (apply getN_ints; (first | omega | (simp; omega) | (simp; done))))) | (apply s_pick_t; exact rfl; (first | exact rfl | assumption); exact rfl) | (apply s_pick_f; exact rfl; (first | exact rfl | assumption); exact rfl)))
    | (apply ol_gval; exact rfl; exact rfl; exact rfl; (first | exact rfl | assumption); apply stp_cmp; (first | (apply s_lss; exact rfl; exact rfl) | (apply s_leq; exact rfl; exact rfl) | (apply s_geq; exact rfl; exact rfl) | (apply s_neq; exact rfl; exact rfl)); all_goals (intro _; try (exfalso; omega; done)))
    | (apply ol_gval; exact rfl; exact rfl; exact rfl; (first | exact rfl | assumption); (first | (apply s_boxN; exact rfl; intro _) | (apply s_box1; exact rfl; exact rfl; intro _)))
    | apply ol_nil
    | apply cw_seq
    | apply cw_region
    | (apply cw_cond_true; exact rfl; (first | exact rfl | assumption))
    | (apply cw_cond_false; exact rfl; (first | exact rfl | assumption))
    | apply cw_skip
    | apply cw_ret
    | apply cw_block
    | apply cw_exit
  all_goals (refine ends [] (RVal.tmp rfl RVal.nil) Pick.nil ?_; simp [tup, entryB, *] ; try omega)

theorem refEntry_spec (x : Ent) (n : Int) (w : World) : FnC Try.prog 23 [.int .i64 n, .agg x.enc.toArray] w (fun v _ => v = .bool (entryB n x)) := by
  refine enterF (M := View.of w) Try.func23 rfl rfl rfl rfl (View.le.refl _) ?_
  repeat' first
    | (apply ol_gskip; exact rfl; exact rfl; (first | exact rfl | assumption); exact rfl)
    | (apply ol_val; exact rfl; apply stp_pur; (first | (apply s_move; exact rfl) | (apply s_assign; exact rfl) | (apply s_fieldAddr'; exact rfl; (first | exact fd_34_0 | exact fd_34_1 | exact fd_34_2 | exact fd_34_3); (first | exact Nat.zero_add _ | exact Nat.add_zero _ | exact rfl)) | (apply s_load1; exact rfl; exact rfl; first | (apply RdN.own; (focus ((repeat (first | exact Has.here | apply Has.there)); done)); first | exact GetN.cons rfl GetN.nil | (apply getN_ints_app; (first | omega | (simp; omega) | (simp; done))) | (apply getN_ints; (first | omega | (simp; omega) | (simp; done))))) | (apply s_pick_t; exact rfl; (first | exact rfl | assumption); exact rfl) | (apply s_pick_f; exact rfl; (first | exact rfl | assumption); exact rfl)))
    | (apply ol_val; exact rfl; apply stp_cmp; (first | (apply s_lss; exact rfl; exact rfl) | (apply s_leq; exact rfl; exact rfl) | (apply s_geq; exact rfl; exact rfl) | (apply s_neq; exact rfl; exact rfl)); all_goals (intro _; try (exfalso; omega; done)))
    | (apply ol_val; exact rfl; (first | (apply s_boxN; exact rfl; intro _) | (apply s_box1; exact rfl; exact rfl; intro _)))
    | (apply ol_gval; exact rfl; exact rfl; exact rfl; (first | exact rfl | assumption); apply stp_pur; (first | (apply s_move; exact rfl) | (apply s_assign; exact rfl) | (apply s_fieldAddr'; exact rfl; (first | exact fd_34_0 | exact fd_34_1 | exact fd_34_2 | exact fd_34_3); (first | exact Nat.zero_add _ | exact Nat.add_zero _ | exact rfl)) | (apply s_load1; exact rfl; exact rfl; first | (apply RdN.own; (focus ((repeat (first | exact Has.here | apply Has.there)); done)); first | exact GetN.cons rfl GetN.nil | (apply getN_ints_app; (first | omega | (simp; omega) | (simp; done))) | (apply getN_ints; (first | omega | (simp; omega) | (simp; done))))) | (apply s_pick_t; exact rfl; (first | exact rfl | assumption); exact rfl) | (apply s_pick_f; exact rfl; (first | exact rfl | assumption); exact rfl)))
    | (apply ol_gval; exact rfl; exact rfl; exact rfl; (first | exact rfl | assumption); apply stp_cmp; (first | (apply s_lss; exact rfl; exact rfl) | (apply s_leq; exact rfl; exact rfl) | (apply s_geq; exact rfl; exact rfl) | (apply s_neq; exact rfl; exact rfl)); all_goals (intro _; try (exfalso; omega; done)))
    | (apply ol_gval; exact rfl; exact rfl; exact rfl; (first | exact rfl | assumption); (first | (apply s_boxN; exact rfl; intro _) | (apply s_box1; exact rfl; exact rfl; intro _)))
    | apply ol_nil
    | apply cw_seq
    | apply cw_region
    | (apply cw_cond_true; exact rfl; (first | exact rfl | assumption))
    | (apply cw_cond_false; exact rfl; (first | exact rfl | assumption))
    | apply cw_skip
    | apply cw_ret
    | apply cw_block
    | apply cw_exit
  all_goals (refine ends [] (RVal.tmp rfl RVal.nil) Pick.nil ?_; simp [tup, entryB, *] ; try omega)

theorem accounts_spec (n : Int) (w : World) : FnC Try.prog 18 [.int .i64 n] w (fun v _ => v = .bool (decide (5 ≤ n ∧ n ≤ 105))) := by
  refine enterF (M := View.of w) Try.func18 rfl rfl rfl rfl (View.le.refl _) ?_
  repeat' first
    | (apply ol_gskip; exact rfl; exact rfl; (first | exact rfl | assumption); exact rfl)
    | (apply ol_val; exact rfl; apply stp_pur; (first | (apply s_move; exact rfl) | (apply s_assign; exact rfl) | (apply s_pick_t; exact rfl; (first | exact rfl | assumption); exact rfl) | (apply s_pick_f; exact rfl; (first | exact rfl | assumption); exact rfl)))
    | (apply ol_val; exact rfl; apply stp_cmp; (first | (apply s_leq; exact rfl; exact rfl) | (apply s_geq; exact rfl; exact rfl)); all_goals (intro _; try (exfalso; omega; done)))
    | (apply ol_gval; exact rfl; exact rfl; exact rfl; (first | exact rfl | assumption); apply stp_pur; (first | (apply s_move; exact rfl) | (apply s_assign; exact rfl) | (apply s_pick_t; exact rfl; (first | exact rfl | assumption); exact rfl) | (apply s_pick_f; exact rfl; (first | exact rfl | assumption); exact rfl)))
    | (apply ol_gval; exact rfl; exact rfl; exact rfl; (first | exact rfl | assumption); apply stp_cmp; (first | (apply s_leq; exact rfl; exact rfl) | (apply s_geq; exact rfl; exact rfl)); all_goals (intro _; try (exfalso; omega; done)))
    | apply ol_nil
    | apply cw_seq
    | apply cw_region
    | (apply cw_cond_true; exact rfl; (first | exact rfl | assumption))
    | (apply cw_cond_false; exact rfl; (first | exact rfl | assumption))
    | apply cw_skip
    | apply cw_ret
    | apply cw_block
    | apply cw_exit
  all_goals (refine ends [] (RVal.tmp rfl RVal.nil) Pick.nil ?_; simp [tup, *] ; try omega)

theorem none_spec {a1 a2 : Option Addr} (n1 c1 n2 c2 : Nat) (w : World) : FnC Try.prog 13 [.agg [.slice a1 n1 c1, .slice a2 n2 c2].toArray] w (fun v _ => v = .bool (decide (n1 = 0 ∧ n2 = 0))) := by
  refine enterF (M := View.of w) Try.func13 rfl rfl rfl rfl (View.le.refl _) ?_
  repeat' first
    | (apply ol_gskip; exact rfl; exact rfl; (first | exact rfl | assumption); exact rfl)
    | (apply ol_val; exact rfl; apply stp_pur; (first | (apply s_move; exact rfl) | (apply s_assign; exact rfl) | (apply s_fieldAddr'; exact rfl; (first | exact fd_26_0 | exact fd_26_1); (first | exact Nat.zero_add _ | exact Nat.add_zero _ | exact rfl)) | (apply s_load1; exact rfl; exact rfl; first | (apply RdN.own; (focus ((repeat (first | exact Has.here | apply Has.there)); done)); first | exact GetN.cons rfl GetN.nil | (apply getN_ints_app; (first | omega | (simp; omega) | (simp; done))) | (apply getN_ints; (first | omega | (simp; omega) | (simp; done))))) | (apply s_pick_t; exact rfl; (first | exact rfl | assumption); exact rfl) | (apply s_pick_f; exact rfl; (first | exact rfl | assumption); exact rfl) | (apply s_len; exact rfl; (first | exact el_22 | exact el_24))))
    | (apply ol_val; exact rfl; apply stp_cmp; (first | (apply s_eql; exact rfl; exact rfl)); all_goals (intro _; try (exfalso; omega; done)))
    | (apply ol_val; exact rfl; (first | (apply s_boxN; exact rfl; intro _) | (apply s_box1; exact rfl; exact rfl; intro _)))
    | (apply ol_gval; exact rfl; exact rfl; exact rfl; (first | exact rfl | assumption); apply stp_pur; (first | (apply s_move; exact rfl) | (apply s_assign; exact rfl) | (apply s_fieldAddr'; exact rfl; (first | exact fd_26_0 | exact fd_26_1); (first | exact Nat.zero_add _ | exact Nat.add_zero _ | exact rfl)) | (apply s_load1; exact rfl; exact rfl; first | (apply RdN.own; (focus ((repeat (first | exact Has.here | apply Has.there)); done)); first | exact GetN.cons rfl GetN.nil | (apply getN_ints_app; (first | omega | (simp; omega) | (simp; done))) | (apply getN_ints; (first | omega | (simp; omega) | (simp; done))))) | (apply s_pick_t; exact rfl; (first | exact rfl | assumption); exact rfl) | (apply s_pick_f; exact rfl; (first | exact rfl | assumption); exact rfl) | (apply s_len; exact rfl; (first | exact el_22 | exact el_24))))
    | (apply ol_gval; exact rfl; exact rfl; exact rfl; (first | exact rfl | assumption); apply stp_cmp; (first | (apply s_eql; exact rfl; exact rfl)); all_goals (intro _; try (exfalso; omega; done)))
    | (apply ol_gval; exact rfl; exact rfl; exact rfl; (first | exact rfl | assumption); (first | (apply s_boxN; exact rfl; intro _) | (apply s_box1; exact rfl; exact rfl; intro _)))
    | apply ol_nil
    | apply cw_seq
    | apply cw_region
    | (apply cw_cond_true; exact rfl; (first | exact rfl | assumption))
    | (apply cw_cond_false; exact rfl; (first | exact rfl | assumption))
    | apply cw_skip
    | apply cw_ret
    | apply cw_block
    | apply cw_exit
  all_goals (refine ends [] (RVal.tmp rfl RVal.nil) Pick.nil ?_; simp only [tup]; congr 1; first | (symm; rw [decide_eq_true_eq]; omega) | (symm; rw [decide_eq_false_iff_not]; omega))

theorem post_spec (bal : List Int) (x : Ent) (b cap : Nat) (sp : List Value) (w : World) (h1 : 0 ≤ x.d) (h2 : x.d < bal.length) (h3 : 0 ≤ x.c) (h4 : x.c < bal.length) (h5 : x.d ≠ x.c) (h6 : 1 ≤ x.a) (h7 : x.a ≤ 1099511627776) (hs : Small bal)
    (hb : w.heap[b]? = some (.cells (ints bal ++ sp).toArray 3 (0, 0))) :
    Ret Try.prog 31 [.slice (some ⟨b, 0, none⟩) bal.length cap, .agg x.enc.toArray] w (fun v m _ => ∃ cs', m = [⟨some b, cs', 3⟩] ∧ ((lowB bal x = true ∧ v = .bool false ∧ cs' = ints bal ++ sp) ∨ (lowB bal x = false ∧ v = .bool true ∧ cs' = ints (postL bal x) ++ sp))) := by
  have g1 := hs.lo x.d.toNat
  have g2 := hs.hi x.d.toNat
  have g3 := hs.lo x.c.toNat
  have g4 := hs.hi x.c.toNat
  have g5 : (bal.set x.d.toNat (bal.getD x.d.toNat 0 - x.a)).getD x.c.toNat 0 = bal.getD x.c.toNat 0 := by
    simp only [List.getD]
    rw [List.getElem?_set_ne (by omega)]
  refine enter (M := (View.of w).but [b]) (mutd := [⟨some b, ints bal ++ sp, 3⟩]) Try.func31 rfl rfl rfl rfl (View.but_le _ _) (by simpa [OB.ok] using hb) (by simp [View.but]) (by simp) ?_
  repeat' first
    | (apply ol_gskip; exact rfl; exact rfl; (first | exact rfl | assumption); exact rfl)
    | (apply ol_val; exact rfl; apply stp_pur; (first | (apply s_move; exact rfl) | (apply s_assign; exact rfl) | (apply s_fieldAddr'; exact rfl; (first | exact fd_34_0 | exact fd_34_1 | exact fd_34_2); (first | exact Nat.zero_add _ | exact Nat.add_zero _ | exact rfl)) | (apply s_load1; exact rfl; exact rfl; first | (apply RdN.own; (focus ((repeat (first | exact Has.here | apply Has.there)); done)); first | exact GetN.cons rfl GetN.nil | (apply getN_ints_app; (first | omega | (simp; omega) | (simp; done))) | (apply getN_ints; (first | omega | (simp; omega) | (simp; done))))) | (apply s_pick_t; exact rfl; (first | exact rfl | assumption); exact rfl) | (apply s_pick_f; exact rfl; (first | exact rfl | assumption); exact rfl) | (apply s_indexK; exact rfl; exact rfl; (first | exact el_24); (first | exact sz_3); (first | exact rfl); (first | omega)) | (apply s_indexO; exact rfl; exact rfl; (first | exact el_24); (first | exact sz_3); (first | exact rfl); (first | omega)) | (apply s_add64; exact rfl; exact rfl; omega) | (apply s_sub64; exact rfl; exact rfl; omega)))
    | (apply ol_val; exact rfl; apply stp_cmp; (first | (apply s_lss; exact rfl; exact rfl) | (apply s_geq; exact rfl; exact rfl)); all_goals (intro _; try (exfalso; omega; done)))
    | (apply ol_val; exact rfl; (first | (apply s_store1; exact rfl; exact rfl; (first | exact sz_3); exact rfl; (focus ((repeat (first | exact Repl.here | apply Repl.there)); done)); (first | (focus ((repeat (first | exact SetAt.zero | apply SetAt.succ)); done)) | (apply setAt_ints_app; (first | omega | (simp; omega) | (simp; done))) | (apply setAt_ints; (first | omega | (simp; omega) | (simp; done))) | (apply SetAt.set; (first | omega | (simp; omega) | (simp; done))))) | (apply s_storeN; exact rfl; exact rfl; (first | exact sz_3); exact rfl; exact rfl; (focus ((repeat (first | exact Repl.here | apply Repl.there)); done)); (focus ((repeat (first | exact SetN.nil | (apply SetN.cons; (repeat (first | exact SetAt.zero | apply SetAt.succ))))); done))) | (apply s_boxN; exact rfl; intro _) | (apply s_box1; exact rfl; exact rfl; intro _)))
    | (apply ol_gval; exact rfl; exact rfl; exact rfl; (first | exact rfl | assumption); apply stp_pur; (first | (apply s_move; exact rfl) | (apply s_assign; exact rfl) | (apply s_fieldAddr'; exact rfl; (first | exact fd_34_0 | exact fd_34_1 | exact fd_34_2); (first | exact Nat.zero_add _ | exact Nat.add_zero _ | exact rfl)) | (apply s_load1; exact rfl; exact rfl; first | (apply RdN.own; (focus ((repeat (first | exact Has.here | apply Has.there)); done)); first | exact GetN.cons rfl GetN.nil | (apply getN_ints_app; (first | omega | (simp; omega) | (simp; done))) | (apply getN_ints; (first | omega | (simp; omega) | (simp; done))))) | (apply s_pick_t; exact rfl; (first | exact rfl | assumption); exact rfl) | (apply s_pick_f; exact rfl; (first | exact rfl | assumption); exact rfl) | (apply s_indexK; exact rfl; exact rfl; (first | exact el_24); (first | exact sz_3); (first | exact rfl); (first | omega)) | (apply s_indexO; exact rfl; exact rfl; (first | exact el_24); (first | exact sz_3); (first | exact rfl); (first | omega)) | (apply s_add64; exact rfl; exact rfl; omega) | (apply s_sub64; exact rfl; exact rfl; omega)))
    | (apply ol_gval; exact rfl; exact rfl; exact rfl; (first | exact rfl | assumption); apply stp_cmp; (first | (apply s_lss; exact rfl; exact rfl) | (apply s_geq; exact rfl; exact rfl)); all_goals (intro _; try (exfalso; omega; done)))
    | (apply ol_gval; exact rfl; exact rfl; exact rfl; (first | exact rfl | assumption); (first | (apply s_store1; exact rfl; exact rfl; (first | exact sz_3); exact rfl; (focus ((repeat (first | exact Repl.here | apply Repl.there)); done)); (first | (focus ((repeat (first | exact SetAt.zero | apply SetAt.succ)); done)) | (apply setAt_ints_app; (first | omega | (simp; omega) | (simp; done))) | (apply setAt_ints; (first | omega | (simp; omega) | (simp; done))) | (apply SetAt.set; (first | omega | (simp; omega) | (simp; done))))) | (apply s_storeN; exact rfl; exact rfl; (first | exact sz_3); exact rfl; exact rfl; (focus ((repeat (first | exact Repl.here | apply Repl.there)); done)); (focus ((repeat (first | exact SetN.nil | (apply SetN.cons; (repeat (first | exact SetAt.zero | apply SetAt.succ))))); done))) | (apply s_boxN; exact rfl; intro _) | (apply s_box1; exact rfl; exact rfl; intro _)))
    | (apply ol_eff; (first | (apply s_store1; exact rfl; exact rfl; (first | exact sz_3); exact rfl; (focus ((repeat (first | exact Repl.here | apply Repl.there)); done)); (first | (focus ((repeat (first | exact SetAt.zero | apply SetAt.succ)); done)) | (apply setAt_ints_app; (first | omega | (simp; omega) | (simp; done))) | (apply setAt_ints; (first | omega | (simp; omega) | (simp; done))) | (apply SetAt.set; (first | omega | (simp; omega) | (simp; done))))) | (apply s_storeN; exact rfl; exact rfl; (first | exact sz_3); exact rfl; exact rfl; (focus ((repeat (first | exact Repl.here | apply Repl.there)); done)); (focus ((repeat (first | exact SetN.nil | (apply SetN.cons; (repeat (first | exact SetAt.zero | apply SetAt.succ))))); done))) | (apply s_boxN; exact rfl; intro _) | (apply s_box1; exact rfl; exact rfl; intro _)))
    | apply ol_nil
    | (apply od_gskip; exact rfl; exact rfl; exact rfl; (first | exact rfl | assumption); exact rfl)
    | (apply od_mv; exact rfl; exact rfl; (first | (apply s_move; exact rfl) | (apply s_assign; exact rfl) | (apply s_fieldAddr'; exact rfl; (first | exact fd_34_0 | exact fd_34_1 | exact fd_34_2); (first | exact Nat.zero_add _ | exact Nat.add_zero _ | exact rfl)) | (apply s_load1; exact rfl; exact rfl; first | (apply RdN.own; (focus ((repeat (first | exact Has.here | apply Has.there)); done)); first | exact GetN.cons rfl GetN.nil | (apply getN_ints_app; (first | omega | (simp; omega) | (simp; done))) | (apply getN_ints; (first | omega | (simp; omega) | (simp; done))))) | (apply s_pick_t; exact rfl; (first | exact rfl | assumption); exact rfl) | (apply s_pick_f; exact rfl; (first | exact rfl | assumption); exact rfl) | (apply s_indexK; exact rfl; exact rfl; (first | exact el_24); (first | exact sz_3); (first | exact rfl); (first | omega)) | (apply s_indexO; exact rfl; exact rfl; (first | exact el_24); (first | exact sz_3); (first | exact rfl); (first | omega)) | (apply s_add64; exact rfl; exact rfl; omega) | (apply s_sub64; exact rfl; exact rfl; omega)))
    | (apply od_cmp; exact rfl; exact rfl; (first | (apply s_lss; exact rfl; exact rfl) | (apply s_geq; exact rfl; exact rfl)); all_goals (intro _; try (exfalso; omega; done)))
    | (apply od_gmv; exact rfl; exact rfl; exact rfl; (first | exact rfl | assumption); exact rfl; (first | (apply s_move; exact rfl) | (apply s_assign; exact rfl) | (apply s_fieldAddr'; exact rfl; (first | exact fd_34_0 | exact fd_34_1 | exact fd_34_2); (first | exact Nat.zero_add _ | exact Nat.add_zero _ | exact rfl)) | (apply s_load1; exact rfl; exact rfl; first | (apply RdN.own; (focus ((repeat (first | exact Has.here | apply Has.there)); done)); first | exact GetN.cons rfl GetN.nil | (apply getN_ints_app; (first | omega | (simp; omega) | (simp; done))) | (apply getN_ints; (first | omega | (simp; omega) | (simp; done))))) | (apply s_pick_t; exact rfl; (first | exact rfl | assumption); exact rfl) | (apply s_pick_f; exact rfl; (first | exact rfl | assumption); exact rfl) | (apply s_indexK; exact rfl; exact rfl; (first | exact el_24); (first | exact sz_3); (first | exact rfl); (first | omega)) | (apply s_indexO; exact rfl; exact rfl; (first | exact el_24); (first | exact sz_3); (first | exact rfl); (first | omega)) | (apply s_add64; exact rfl; exact rfl; omega) | (apply s_sub64; exact rfl; exact rfl; omega)))
    | (apply od_gcmp; exact rfl; exact rfl; exact rfl; (first | exact rfl | assumption); exact rfl; (first | (apply s_lss; exact rfl; exact rfl) | (apply s_geq; exact rfl; exact rfl)); all_goals (intro _; try (exfalso; omega; done)))
    | (apply fx_val; exact rfl; exact rfl; (first | (apply s_store1; exact rfl; exact rfl; (first | exact sz_3); exact rfl; (focus ((repeat (first | exact Repl.here | apply Repl.there)); done)); (first | (focus ((repeat (first | exact SetAt.zero | apply SetAt.succ)); done)) | (apply setAt_ints_app; (first | omega | (simp; omega) | (simp; done))) | (apply setAt_ints; (first | omega | (simp; omega) | (simp; done))) | (apply SetAt.set; (first | omega | (simp; omega) | (simp; done))))) | (apply s_storeN; exact rfl; exact rfl; (first | exact sz_3); exact rfl; exact rfl; (focus ((repeat (first | exact Repl.here | apply Repl.there)); done)); (focus ((repeat (first | exact SetN.nil | (apply SetN.cons; (repeat (first | exact SetAt.zero | apply SetAt.succ))))); done))) | (apply s_boxN; exact rfl; intro _) | (apply s_box1; exact rfl; exact rfl; intro _)))
    | (apply fx_gval; exact rfl; exact rfl; exact rfl; (first | exact rfl | assumption); exact rfl; (first | (apply s_store1; exact rfl; exact rfl; (first | exact sz_3); exact rfl; (focus ((repeat (first | exact Repl.here | apply Repl.there)); done)); (first | (focus ((repeat (first | exact SetAt.zero | apply SetAt.succ)); done)) | (apply setAt_ints_app; (first | omega | (simp; omega) | (simp; done))) | (apply setAt_ints; (first | omega | (simp; omega) | (simp; done))) | (apply SetAt.set; (first | omega | (simp; omega) | (simp; done))))) | (apply s_storeN; exact rfl; exact rfl; (first | exact sz_3); exact rfl; exact rfl; (focus ((repeat (first | exact Repl.here | apply Repl.there)); done)); (focus ((repeat (first | exact SetN.nil | (apply SetN.cons; (repeat (first | exact SetAt.zero | apply SetAt.succ))))); done))) | (apply s_boxN; exact rfl; intro _) | (apply s_box1; exact rfl; exact rfl; intro _)))
    | (apply fx_eff; exact rfl; (first | (apply s_store1; exact rfl; exact rfl; (first | exact sz_3); exact rfl; (focus ((repeat (first | exact Repl.here | apply Repl.there)); done)); (first | (focus ((repeat (first | exact SetAt.zero | apply SetAt.succ)); done)) | (apply setAt_ints_app; (first | omega | (simp; omega) | (simp; done))) | (apply setAt_ints; (first | omega | (simp; omega) | (simp; done))) | (apply SetAt.set; (first | omega | (simp; omega) | (simp; done))))) | (apply s_storeN; exact rfl; exact rfl; (first | exact sz_3); exact rfl; exact rfl; (focus ((repeat (first | exact Repl.here | apply Repl.there)); done)); (focus ((repeat (first | exact SetN.nil | (apply SetN.cons; (repeat (first | exact SetAt.zero | apply SetAt.succ))))); done))) | (apply s_boxN; exact rfl; intro _) | (apply s_box1; exact rfl; exact rfl; intro _)))
    | (apply fx_gskip; exact rfl; exact rfl; exact rfl; (first | exact rfl | assumption); exact rfl)
    | (apply od_fx; (first | exact Wk.refl _ _ | (focus (apply Wk.mk; exact View.le.refl _; (repeat (first | exact Pick.nil | (apply Pick.cons; (focus ((repeat (first | exact Spl.here | apply Spl.there)); done))) | exact Pick.refl)); done))))
    | (apply od_br; (first | exact Wk.refl _ _ | (focus (apply Wk.mk; exact View.le.refl _; (repeat (first | exact Pick.nil | (apply Pick.cons; (focus ((repeat (first | exact Spl.here | apply Spl.there)); done))) | exact Pick.refl)); done))))
    | (apply od_nil; (first | exact Wk.refl _ _ | (focus (apply Wk.mk; exact View.le.refl _; (repeat (first | exact Pick.nil | (apply Pick.cons; (focus ((repeat (first | exact Spl.here | apply Spl.there)); done))) | exact Pick.refl)); done))))
    | (refine cw_draw (id := 1) 13 (.mv 0 (.mv 1 (.mv 2 (.mv 3 (.mv 4 (.mv 5 (.mv 6 (.mv 7 (.mv 8 (.mv 9 (.mv 10 (.mv 11 (.mv 12 (PT.nil)))))))))))))) mixed (by kernel_rfl) ?_)
    | (refine cw_draw (id := 3) 9 (.mv 0 (.mv 1 (.mv 2 (.mv 3 (.mv 4 (.mv 5 (.mv 6 (.mv 7 (.mv 8 (PT.nil)))))))))) mixed (by kernel_rfl) ?_)
    | (refine cw_draw (id := 4) 9 (.mv 0 (.mv 1 (.mv 2 (.mv 3 (.mv 4 (.mv 5 (.mv 6 (.mv 7 (.mv 8 (PT.nil)))))))))) mixed (by kernel_rfl) ?_)
    | apply cw_seq
    | apply cw_region
    | (apply cw_cond_true; exact rfl; (first | exact rfl | assumption))
    | (apply cw_cond_false; exact rfl; (first | exact rfl | assumption))
    | apply cw_skip
    | apply cw_ret
    | apply cw_block
    | apply cw_exit
  · refine endsM [⟨some b, ints bal ++ sp, 3⟩] [] (RVal.tmp rfl RVal.nil) (by (repeat (first | exact Pick.nil | (apply Pick.cons; (focus ((repeat (first | exact Spl.here | apply Spl.there)); done))) | exact Pick.refl))) rfl ⟨_, rfl, .inl ⟨?_, rfl, rfl⟩⟩
    simp only [lowB, decide_eq_true_eq]; omega
  · refine endsM [⟨some b, ints (postL bal x) ++ sp, 3⟩] [] (RVal.tmp rfl RVal.nil) (by (repeat (first | exact Pick.nil | (apply Pick.cons; (focus ((repeat (first | exact Spl.here | apply Spl.there)); done))) | exact Pick.refl))) rfl ⟨_, rfl, .inr ⟨?_, rfl, rfl⟩⟩
    simp only [lowB, decide_eq_false_iff_not]; omega
  · refine endsM [⟨some b, ints (postL bal x) ++ sp, 3⟩] [] (RVal.tmp rfl RVal.nil) (by (repeat (first | exact Pick.nil | (apply Pick.cons; (focus ((repeat (first | exact Spl.here | apply Spl.there)); done))) | exact Pick.refl))) rfl ⟨_, rfl, .inr ⟨?_, rfl, rfl⟩⟩
    simp only [lowB, decide_eq_false_iff_not]; omega

theorem eqInts_spec (M : View) (w : World) (hM : View.le M (View.of w)) (xs ys : List Int) {a1 a2 : Option Addr} {b1 o1 c1 b2 o2 c2 : Nat} (s1 : SlA M enc1 1 a1 xs b1 o1) (s2 : SlA M enc1 1 a2 ys b2 o2) (hl : xs.length ≤ 4611686018427387904) :
    FnC Try.prog 29 [.slice a1 xs.length c1, .slice a2 ys.length c2] w (fun v _ => v = .bool (decide (xs = ys))) := by
  refine enterF (M := M) Try.func29 rfl rfl rfl rfl hM ?_
  by_cases hlen : xs.length = ys.length
  · have hlen' : (xs.length : Int) = ys.length := by omega
    repeat' first
      | (apply ol_val; exact rfl; apply stp_pur; (first | (apply s_move; exact rfl) | (apply s_assign; exact rfl) | (apply s_load1; exact rfl; exact rfl; first | (apply RdN.own; (focus ((repeat (first | exact Has.here | apply Has.there)); done)); first | exact GetN.cons rfl GetN.nil | (apply getN_ints_app; (first | omega | (simp; omega) | (simp; done))) | (apply getN_ints; (first | omega | (simp; omega) | (simp; done))))) | (apply s_len; exact rfl; (first | exact el_24)) | (apply s_indexK; exact rfl; exact rfl; (first | exact el_24); (first | exact sz_3); (first | exact rfl); (first | omega)) | (apply s_indexO; exact rfl; exact rfl; (first | exact el_24); (first | exact sz_3); (first | exact rfl); (first | omega)) | (apply s_add64; exact rfl; exact rfl; omega)))
      | (apply ol_val; exact rfl; apply stp_cmp; (first | (apply s_lss; exact rfl; exact rfl) | (apply s_neq; exact rfl; exact rfl)); all_goals (intro _; try (exfalso; omega; done)))
      | apply ol_nil
      | (apply od_mv; exact rfl; exact rfl; (first | (apply s_move; exact rfl) | (apply s_assign; exact rfl) | (apply s_load1; exact rfl; exact rfl; first | (apply RdN.own; (focus ((repeat (first | exact Has.here | apply Has.there)); done)); first | exact GetN.cons rfl GetN.nil | (apply getN_ints_app; (first | omega | (simp; omega) | (simp; done))) | (apply getN_ints; (first | omega | (simp; omega) | (simp; done))))) | (apply s_len; exact rfl; (first | exact el_24)) | (apply s_indexK; exact rfl; exact rfl; (first | exact el_24); (first | exact sz_3); (first | exact rfl); (first | omega)) | (apply s_indexO; exact rfl; exact rfl; (first | exact el_24); (first | exact sz_3); (first | exact rfl); (first | omega)) | (apply s_add64; exact rfl; exact rfl; omega)))
      | (apply od_cmp; exact rfl; exact rfl; (first | (apply s_lss; exact rfl; exact rfl) | (apply s_neq; exact rfl; exact rfl)); all_goals (intro _; try (exfalso; omega; done)))
      | (apply od_fx; (first | exact Wk.refl _ _ | (focus (apply Wk.mk; exact View.le.refl _; (repeat (first | exact Pick.nil | (apply Pick.cons; (focus ((repeat (first | exact Spl.here | apply Spl.there)); done))) | exact Pick.refl)); done))))
      | (apply od_br; (first | exact Wk.refl _ _ | (focus (apply Wk.mk; exact View.le.refl _; (repeat (first | exact Pick.nil | (apply Pick.cons; (focus ((repeat (first | exact Spl.here | apply Spl.there)); done))) | exact Pick.refl)); done))))
      | (apply od_nil; (first | exact Wk.refl _ _ | (focus (apply Wk.mk; exact View.le.refl _; (repeat (first | exact Pick.nil | (apply Pick.cons; (focus ((repeat (first | exact Spl.here | apply Spl.there)); done))) | exact Pick.refl)); done))))
      | (refine cw_draw (id := 6) 9 (.mv 0 (.mv 1 (.mv 2 (.mv 3 (.mv 4 (.mv 5 (.mv 6 (.mv 7 (.mv 8 (PT.nil)))))))))) mixed (by kernel_rfl) ?_)
      | apply cw_seq
      | apply cw_region
      | (apply cw_cond_true; exact rfl; (first | exact rfl | assumption))
      | (apply cw_cond_false; exact rfl; (first | exact rfl | assumption))
      | apply cw_skip
      | apply cw_ret
      | apply cw_block
      | apply cw_exit
    refine cw_loopK (σ := Nat) [0, 1, 12] (by (repeat (first | exact Keep.nil | (apply Keep.cons; exact rfl)))) (fun k => [(13, .int .i64 k)]) (fun _ => M) (fun _ => []) (fun k => k ≤ xs.length ∧ xs.take k = ys.take k) (fun k => xs.length - k) 0 (by (repeat (first | exact trivial | refine And.intro rfl ?_))) (View.le.refl _) Pick.nil ⟨by omega, by simp⟩ ?_
    intro k ⟨hk, ht⟩
    repeat' first
      | (apply ol_val; exact rfl; apply stp_pur; (first | (apply s_move; exact rfl) | (apply s_assign; exact rfl) | (apply s_load1; exact rfl; exact rfl; first | (apply RdN.own; (focus ((repeat (first | exact Has.here | apply Has.there)); done)); first | exact GetN.cons rfl GetN.nil | (apply getN_ints_app; (first | omega | (simp; omega) | (simp; done))) | (apply getN_ints; (first | omega | (simp; omega) | (simp; done)))) | (apply RdN.view; exact s1.cells _ (by omega)) | (apply RdN.view; exact s2.cells _ (by omega))) | (apply s_len; exact rfl; (first | exact el_24)) | (apply s_indexK; exact rfl; exact rfl; (first | exact el_24); (first | exact sz_3); (first | exact rfl | exact s1.at_ (by omega) | exact s2.at_ (by omega)); (first | omega)) | (apply s_indexO; exact rfl; exact rfl; (first | exact el_24); (first | exact sz_3); (first | exact rfl | exact s1.at_ (by omega) | exact s2.at_ (by omega)); (first | omega)) | (apply s_add64; exact rfl; exact rfl; omega)))
      | (apply ol_val; exact rfl; apply stp_cmp; (first | (apply s_lss; exact rfl; exact rfl) | (apply s_neq; exact rfl; exact rfl)); all_goals (intro _; try (exfalso; omega; done)))
      | apply ol_nil
      | (apply od_mv; exact rfl; exact rfl; (first | (apply s_move; exact rfl) | (apply s_assign; exact rfl) | (apply s_load1; exact rfl; exact rfl; first | (apply RdN.own; (focus ((repeat (first | exact Has.here | apply Has.there)); done)); first | exact GetN.cons rfl GetN.nil | (apply getN_ints_app; (first | omega | (simp; omega) | (simp; done))) | (apply getN_ints; (first | omega | (simp; omega) | (simp; done)))) | (apply RdN.view; exact s1.cells _ (by omega)) | (apply RdN.view; exact s2.cells _ (by omega))) | (apply s_len; exact rfl; (first | exact el_24)) | (apply s_indexK; exact rfl; exact rfl; (first | exact el_24); (first | exact sz_3); (first | exact rfl | exact s1.at_ (by omega) | exact s2.at_ (by omega)); (first | omega)) | (apply s_indexO; exact rfl; exact rfl; (first | exact el_24); (first | exact sz_3); (first | exact rfl | exact s1.at_ (by omega) | exact s2.at_ (by omega)); (first | omega)) | (apply s_add64; exact rfl; exact rfl; omega)))
      | (apply od_cmp; exact rfl; exact rfl; (first | (apply s_lss; exact rfl; exact rfl) | (apply s_neq; exact rfl; exact rfl)); all_goals (intro _; try (exfalso; omega; done)))
      | (apply od_fx; (first | exact Wk.refl _ _ | (focus (apply Wk.mk; exact View.le.refl _; (repeat (first | exact Pick.nil | (apply Pick.cons; (focus ((repeat (first | exact Spl.here | apply Spl.there)); done))) | exact Pick.refl)); done))))
      | (apply od_br; (first | exact Wk.refl _ _ | (focus (apply Wk.mk; exact View.le.refl _; (repeat (first | exact Pick.nil | (apply Pick.cons; (focus ((repeat (first | exact Spl.here | apply Spl.there)); done))) | exact Pick.refl)); done))))
      | (apply od_nil; (first | exact Wk.refl _ _ | (focus (apply Wk.mk; exact View.le.refl _; (repeat (first | exact Pick.nil | (apply Pick.cons; (focus ((repeat (first | exact Spl.here | apply Spl.there)); done))) | exact Pick.refl)); done))))
      | (refine cw_draw (id := 6) 9 (.mv 0 (.mv 1 (.mv 2 (.mv 3 (.mv 4 (.mv 5 (.mv 6 (.mv 7 (.mv 8 (PT.nil)))))))))) mixed (by kernel_rfl) ?_)
      | apply cw_seq
      | apply cw_region
      | (apply cw_cond_true; exact rfl; (first | exact rfl | assumption))
      | (apply cw_cond_false; exact rfl; (first | exact rfl | assumption))
      | apply cw_skip
      | apply cw_ret
      | apply cw_block
      | apply cw_exit
    · refine ends [] (RVal.tmp rfl RVal.nil) Pick.nil ?_
      rename_i h1 h2
      have : xs ≠ ys := fun e => h2 (by subst e; rfl)
      simp [tup, this]
    · rename_i h1 h2
      have hk' : k < xs.length := by omega
      refine ⟨k + 1, ⟨by (repeat (first | exact trivial | refine And.intro rfl ?_)), View.le.refl _, Pick.nil, ⟨by omega, ?_⟩, by omega⟩⟩
      rw [List.take_succ_eq_append_getElem hk', List.take_succ_eq_append_getElem (by omega : k < ys.length), ht]
      congr 2
      exact Decidable.not_not.1 h2
    · refine ends [] (RVal.tmp rfl RVal.nil) Pick.nil ?_
      have e : k = xs.length := by omega
      subst e
      rw [List.take_length, hlen, List.take_length] at ht
      simp [tup, ht]
  · have hlen' : ¬ (xs.length : Int) = ys.length := by omega
    repeat' first
      | (apply ol_val; exact rfl; apply stp_pur; (first | (apply s_move; exact rfl) | (apply s_assign; exact rfl) | (apply s_load1; exact rfl; exact rfl; first | (apply RdN.own; (focus ((repeat (first | exact Has.here | apply Has.there)); done)); first | exact GetN.cons rfl GetN.nil | (apply getN_ints_app; (first | omega | (simp; omega) | (simp; done))) | (apply getN_ints; (first | omega | (simp; omega) | (simp; done))))) | (apply s_len; exact rfl; (first | exact el_24)) | (apply s_indexK; exact rfl; exact rfl; (first | exact el_24); (first | exact sz_3); (first | exact rfl); (first | omega)) | (apply s_indexO; exact rfl; exact rfl; (first | exact el_24); (first | exact sz_3); (first | exact rfl); (first | omega)) | (apply s_add64; exact rfl; exact rfl; omega)))
      | (apply ol_val; exact rfl; apply stp_cmp; (first | (apply s_lss; exact rfl; exact rfl) | (apply s_neq; exact rfl; exact rfl)); all_goals (intro _; try (exfalso; omega; done)))
      | apply ol_nil
      | (apply od_mv; exact rfl; exact rfl; (first | (apply s_move; exact rfl) | (apply s_assign; exact rfl) | (apply s_load1; exact rfl; exact rfl; first | (apply RdN.own; (focus ((repeat (first | exact Has.here | apply Has.there)); done)); first | exact GetN.cons rfl GetN.nil | (apply getN_ints_app; (first | omega | (simp; omega) | (simp; done))) | (apply getN_ints; (first | omega | (simp; omega) | (simp; done))))) | (apply s_len; exact rfl; (first | exact el_24)) | (apply s_indexK; exact rfl; exact rfl; (first | exact el_24); (first | exact sz_3); (first | exact rfl); (first | omega)) | (apply s_indexO; exact rfl; exact rfl; (first | exact el_24); (first | exact sz_3); (first | exact rfl); (first | omega)) | (apply s_add64; exact rfl; exact rfl; omega)))
      | (apply od_cmp; exact rfl; exact rfl; (first | (apply s_lss; exact rfl; exact rfl) | (apply s_neq; exact rfl; exact rfl)); all_goals (intro _; try (exfalso; omega; done)))
      | (apply od_fx; (first | exact Wk.refl _ _ | (focus (apply Wk.mk; exact View.le.refl _; (repeat (first | exact Pick.nil | (apply Pick.cons; (focus ((repeat (first | exact Spl.here | apply Spl.there)); done))) | exact Pick.refl)); done))))
      | (apply od_br; (first | exact Wk.refl _ _ | (focus (apply Wk.mk; exact View.le.refl _; (repeat (first | exact Pick.nil | (apply Pick.cons; (focus ((repeat (first | exact Spl.here | apply Spl.there)); done))) | exact Pick.refl)); done))))
      | (apply od_nil; (first | exact Wk.refl _ _ | (focus (apply Wk.mk; exact View.le.refl _; (repeat (first | exact Pick.nil | (apply Pick.cons; (focus ((repeat (first | exact Spl.here | apply Spl.there)); done))) | exact Pick.refl)); done))))
      | (refine cw_draw (id := 6) 9 (.mv 0 (.mv 1 (.mv 2 (.mv 3 (.mv 4 (.mv 5 (.mv 6 (.mv 7 (.mv 8 (PT.nil)))))))))) mixed (by kernel_rfl) ?_)
      | apply cw_seq
      | apply cw_region
      | (apply cw_cond_true; exact rfl; (first | exact rfl | assumption))
      | (apply cw_cond_false; exact rfl; (first | exact rfl | assumption))
      | apply cw_skip
      | apply cw_ret
      | apply cw_block
      | apply cw_exit
    refine ends [] (RVal.tmp rfl RVal.nil) Pick.nil ?_
    have : xs ≠ ys := fun e => hlen (by rw [e])
    simp [tup, this]

/-- A ledger that the call hands back, and an error. -/
def LedRes (bal : List Int) (ents : List Ent) (e : Int) (v : Value) (new : List OB) : Prop :=
  ∃ r1 A1 c1 sp1 r2 A2 c2 sp2, v = .tuple #[.agg [.slice (base r1 A1) bal.length c1, .slice (base r2 A2) ents.length c2].toArray, .int .i64 e] ∧
    new = [⟨r1, ints bal ++ sp1, 3⟩, ⟨r2, flat Ent.enc ents ++ sp2, 34⟩] ∧ SO r1 bal.length c1 (ints bal) sp1 1 ∧ SO r2 ents.length c2 (flat Ent.enc ents) sp2 4

theorem LedRes.zero (e : Int) : LedRes [] [] e (.tuple #[.agg [.slice none 0 0, .slice none 0 0].toArray, .int .i64 e]) [⟨none, [], 3⟩, ⟨none, [], 34⟩] :=
  ⟨none, none, 0, [], none, none, 0, [], rfl, rfl, SO.nil 1, SO.nil 4⟩

theorem new_spec (n : Int) (w : World) : FnC Try.prog 15 [.int .i64 n] w (fun v new => (5 ≤ n ∧ n ≤ 105 ∧ LedRes (List.replicate n.toNat 0) [] 0 v new) ∨ (¬ (5 ≤ n ∧ n ≤ 105) ∧ LedRes [] [] 2 v new)) := by
  refine enterF (M := View.of w) Try.func15 rfl rfl rfl rfl (View.le.refl _) ?_
  refine cw_none 34 ?_
  refine cw_none 3 ?_
  by_cases h : 5 ≤ n ∧ n ≤ 105
  · obtain ⟨m, rfl⟩ := Int.eq_ofNat_of_zero_le (show 0 ≤ n by omega)
    repeat' first
      | (apply ol_gskip; exact rfl; exact rfl; (first | exact rfl | assumption); exact rfl)
      | (apply ol_val; exact rfl; apply stp_pur; (first | (apply s_move; exact rfl) | (apply s_assign; exact rfl) | (apply s_pick_t; exact rfl; (first | exact rfl | assumption); exact rfl) | (apply s_pick_f; exact rfl; (first | exact rfl | assumption); exact rfl) | (apply s_buildS; exact rfl; (first | exact fs_26); (first | exact zb_3 | exact zb_26); (focus ((repeat (first | exact Fil.nil | (apply Fil.one; exact rfl; exact rfl; (repeat (first | exact SetAt.zero | apply SetAt.succ))) | (apply Fil.agg; exact rfl; exact rfl; (repeat (first | exact SetN.nil | (apply SetN.cons; (repeat (first | exact SetAt.zero | apply SetAt.succ))))); (exact Nat.le_of_ble_eq_true rfl)))); done)))))
      | (apply ol_val; exact rfl; apply stp_cmp; (first | (apply s_lss; exact rfl; exact rfl) | (apply s_gtr; exact rfl; exact rfl)); all_goals (intro _; try (exfalso; omega; done)))
      | (apply ol_val; exact rfl; (first | (apply s_store1; exact rfl; exact rfl; (first | exact sz_3 | exact sz_26); exact rfl; (focus ((repeat (first | exact Repl.here | apply Repl.there)); done)); (first | (focus ((repeat (first | exact SetAt.zero | apply SetAt.succ)); done)) | (apply setAt_ints_app; (first | omega | (simp; omega) | (simp; done))) | (apply setAt_ints; (first | omega | (simp; omega) | (simp; done))) | (apply SetAt.set; (first | omega | (simp; omega) | (simp; done))))) | (apply s_storeN; exact rfl; exact rfl; (first | exact sz_3 | exact sz_26); exact rfl; exact rfl; (focus ((repeat (first | exact Repl.here | apply Repl.there)); done)); (focus ((repeat (first | exact SetN.nil | (apply SetN.cons; (repeat (first | exact SetAt.zero | apply SetAt.succ))))); done))) | (apply s_alloc; (first | exact zb_3 | exact zb_26); (focus ((repeat (first | exact LEq.nil | apply LEq.cons)); done)); intro _) | (apply s_makeB; exact rfl; exact rfl; (first | exact el_24); (first | exact sz_3 | exact sz_26); (first | exact zb_3 | exact zb_26); exact rfl; (first | exact by_3 | exact by_26); omega; omega; omega; intro _)))
      | (apply ol_gval; exact rfl; exact rfl; exact rfl; (first | exact rfl | assumption); apply stp_pur; (first | (apply s_move; exact rfl) | (apply s_assign; exact rfl) | (apply s_pick_t; exact rfl; (first | exact rfl | assumption); exact rfl) | (apply s_pick_f; exact rfl; (first | exact rfl | assumption); exact rfl) | (apply s_buildS; exact rfl; (first | exact fs_26); (first | exact zb_3 | exact zb_26); (focus ((repeat (first | exact Fil.nil | (apply Fil.one; exact rfl; exact rfl; (repeat (first | exact SetAt.zero | apply SetAt.succ))) | (apply Fil.agg; exact rfl; exact rfl; (repeat (first | exact SetN.nil | (apply SetN.cons; (repeat (first | exact SetAt.zero | apply SetAt.succ))))); (exact Nat.le_of_ble_eq_true rfl)))); done)))))
      | (apply ol_gval; exact rfl; exact rfl; exact rfl; (first | exact rfl | assumption); apply stp_cmp; (first | (apply s_lss; exact rfl; exact rfl) | (apply s_gtr; exact rfl; exact rfl)); all_goals (intro _; try (exfalso; omega; done)))
      | (apply ol_gval; exact rfl; exact rfl; exact rfl; (first | exact rfl | assumption); (first | (apply s_store1; exact rfl; exact rfl; (first | exact sz_3 | exact sz_26); exact rfl; (focus ((repeat (first | exact Repl.here | apply Repl.there)); done)); (first | (focus ((repeat (first | exact SetAt.zero | apply SetAt.succ)); done)) | (apply setAt_ints_app; (first | omega | (simp; omega) | (simp; done))) | (apply setAt_ints; (first | omega | (simp; omega) | (simp; done))) | (apply SetAt.set; (first | omega | (simp; omega) | (simp; done))))) | (apply s_storeN; exact rfl; exact rfl; (first | exact sz_3 | exact sz_26); exact rfl; exact rfl; (focus ((repeat (first | exact Repl.here | apply Repl.there)); done)); (focus ((repeat (first | exact SetN.nil | (apply SetN.cons; (repeat (first | exact SetAt.zero | apply SetAt.succ))))); done))) | (apply s_alloc; (first | exact zb_3 | exact zb_26); (focus ((repeat (first | exact LEq.nil | apply LEq.cons)); done)); intro _) | (apply s_makeB; exact rfl; exact rfl; (first | exact el_24); (first | exact sz_3 | exact sz_26); (first | exact zb_3 | exact zb_26); exact rfl; (first | exact by_3 | exact by_26); omega; omega; omega; intro _)))
      | (apply ol_eff; (first | (apply s_store1; exact rfl; exact rfl; (first | exact sz_3 | exact sz_26); exact rfl; (focus ((repeat (first | exact Repl.here | apply Repl.there)); done)); (first | (focus ((repeat (first | exact SetAt.zero | apply SetAt.succ)); done)) | (apply setAt_ints_app; (first | omega | (simp; omega) | (simp; done))) | (apply setAt_ints; (first | omega | (simp; omega) | (simp; done))) | (apply SetAt.set; (first | omega | (simp; omega) | (simp; done))))) | (apply s_storeN; exact rfl; exact rfl; (first | exact sz_3 | exact sz_26); exact rfl; exact rfl; (focus ((repeat (first | exact Repl.here | apply Repl.there)); done)); (focus ((repeat (first | exact SetN.nil | (apply SetN.cons; (repeat (first | exact SetAt.zero | apply SetAt.succ))))); done))) | (apply s_alloc; (first | exact zb_3 | exact zb_26); (focus ((repeat (first | exact LEq.nil | apply LEq.cons)); done)); intro _) | (apply s_makeB; exact rfl; exact rfl; (first | exact el_24); (first | exact sz_3 | exact sz_26); (first | exact zb_3 | exact zb_26); exact rfl; (first | exact by_3 | exact by_26); omega; omega; omega; intro _)))
      | apply ol_nil
      | apply cw_seq
      | apply cw_region
      | (apply cw_cond_true; exact rfl; (first | exact rfl | assumption))
      | (apply cw_cond_false; exact rfl; (first | exact rfl | assumption))
      | apply cw_skip
      | apply cw_ret
      | apply cw_block
      | apply cw_exit
    rename_i b _ _ b2
    refine ends [⟨some b2, List.replicate m (.int .i64 0), 3⟩, ⟨none, [], 34⟩] (by (repeat (first | exact RVal.nil | (apply RVal.tmp; exact rfl) | (apply RVal.cellN; exact rfl; exact rfl; (first | exact sz_26); apply RdN.own; (focus ((repeat (first | exact Has.here | apply Has.there)); done)); (focus ((repeat (first | exact GetN.nil | (apply GetN.cons; exact rfl))); done))) | (apply RVal.cell1; exact rfl; exact rfl; apply RdN.own; (focus ((repeat (first | exact Has.here | apply Has.there)); done)); exact GetN.cons rfl GetN.nil)))) (by (repeat (first | exact Pick.nil | (apply Pick.cons; (focus ((repeat (first | exact Spl.here | apply Spl.there)); done))) | exact Pick.refl))) ?_
    refine .inl ⟨h.1, h.2, ⟨some b2, none, m, [], none, none, 0, [], ?_, ?_, ?_, SO.nil 4⟩⟩
    · simp [tup, base]
    · simp [ints, flat]
    · exact ⟨by simp, by simp, by simp, by simp⟩
  ·
    repeat' first
      | (apply ol_gskip; exact rfl; exact rfl; (first | exact rfl | assumption); exact rfl)
      | (apply ol_val; exact rfl; apply stp_pur; (first | (apply s_move; exact rfl) | (apply s_assign; exact rfl) | (apply s_pick_t; exact rfl; (first | exact rfl | assumption); exact rfl) | (apply s_pick_f; exact rfl; (first | exact rfl | assumption); exact rfl) | (apply s_buildS; exact rfl; (first | exact fs_26); (first | exact zb_3 | exact zb_26); (focus ((repeat (first | exact Fil.nil | (apply Fil.one; exact rfl; exact rfl; (repeat (first | exact SetAt.zero | apply SetAt.succ))) | (apply Fil.agg; exact rfl; exact rfl; (repeat (first | exact SetN.nil | (apply SetN.cons; (repeat (first | exact SetAt.zero | apply SetAt.succ))))); (exact Nat.le_of_ble_eq_true rfl)))); done)))))
      | (apply ol_val; exact rfl; apply stp_cmp; (first | (apply s_lss; exact rfl; exact rfl) | (apply s_gtr; exact rfl; exact rfl)); all_goals (intro _; try (exfalso; omega; done)))
      | (apply ol_val; exact rfl; (first | (apply s_store1; exact rfl; exact rfl; (first | exact sz_3 | exact sz_26); exact rfl; (focus ((repeat (first | exact Repl.here | apply Repl.there)); done)); (first | (focus ((repeat (first | exact SetAt.zero | apply SetAt.succ)); done)) | (apply setAt_ints_app; (first | omega | (simp; omega) | (simp; done))) | (apply setAt_ints; (first | omega | (simp; omega) | (simp; done))) | (apply SetAt.set; (first | omega | (simp; omega) | (simp; done))))) | (apply s_storeN; exact rfl; exact rfl; (first | exact sz_3 | exact sz_26); exact rfl; exact rfl; (focus ((repeat (first | exact Repl.here | apply Repl.there)); done)); (focus ((repeat (first | exact SetN.nil | (apply SetN.cons; (repeat (first | exact SetAt.zero | apply SetAt.succ))))); done))) | (apply s_alloc; (first | exact zb_3 | exact zb_26); (focus ((repeat (first | exact LEq.nil | apply LEq.cons)); done)); intro _) | (apply s_makeB; exact rfl; exact rfl; (first | exact el_24); (first | exact sz_3 | exact sz_26); (first | exact zb_3 | exact zb_26); exact rfl; (first | exact by_3 | exact by_26); omega; omega; omega; intro _)))
      | (apply ol_gval; exact rfl; exact rfl; exact rfl; (first | exact rfl | assumption); apply stp_pur; (first | (apply s_move; exact rfl) | (apply s_assign; exact rfl) | (apply s_pick_t; exact rfl; (first | exact rfl | assumption); exact rfl) | (apply s_pick_f; exact rfl; (first | exact rfl | assumption); exact rfl) | (apply s_buildS; exact rfl; (first | exact fs_26); (first | exact zb_3 | exact zb_26); (focus ((repeat (first | exact Fil.nil | (apply Fil.one; exact rfl; exact rfl; (repeat (first | exact SetAt.zero | apply SetAt.succ))) | (apply Fil.agg; exact rfl; exact rfl; (repeat (first | exact SetN.nil | (apply SetN.cons; (repeat (first | exact SetAt.zero | apply SetAt.succ))))); (exact Nat.le_of_ble_eq_true rfl)))); done)))))
      | (apply ol_gval; exact rfl; exact rfl; exact rfl; (first | exact rfl | assumption); apply stp_cmp; (first | (apply s_lss; exact rfl; exact rfl) | (apply s_gtr; exact rfl; exact rfl)); all_goals (intro _; try (exfalso; omega; done)))
      | (apply ol_gval; exact rfl; exact rfl; exact rfl; (first | exact rfl | assumption); (first | (apply s_store1; exact rfl; exact rfl; (first | exact sz_3 | exact sz_26); exact rfl; (focus ((repeat (first | exact Repl.here | apply Repl.there)); done)); (first | (focus ((repeat (first | exact SetAt.zero | apply SetAt.succ)); done)) | (apply setAt_ints_app; (first | omega | (simp; omega) | (simp; done))) | (apply setAt_ints; (first | omega | (simp; omega) | (simp; done))) | (apply SetAt.set; (first | omega | (simp; omega) | (simp; done))))) | (apply s_storeN; exact rfl; exact rfl; (first | exact sz_3 | exact sz_26); exact rfl; exact rfl; (focus ((repeat (first | exact Repl.here | apply Repl.there)); done)); (focus ((repeat (first | exact SetN.nil | (apply SetN.cons; (repeat (first | exact SetAt.zero | apply SetAt.succ))))); done))) | (apply s_alloc; (first | exact zb_3 | exact zb_26); (focus ((repeat (first | exact LEq.nil | apply LEq.cons)); done)); intro _) | (apply s_makeB; exact rfl; exact rfl; (first | exact el_24); (first | exact sz_3 | exact sz_26); (first | exact zb_3 | exact zb_26); exact rfl; (first | exact by_3 | exact by_26); omega; omega; omega; intro _)))
      | (apply ol_eff; (first | (apply s_store1; exact rfl; exact rfl; (first | exact sz_3 | exact sz_26); exact rfl; (focus ((repeat (first | exact Repl.here | apply Repl.there)); done)); (first | (focus ((repeat (first | exact SetAt.zero | apply SetAt.succ)); done)) | (apply setAt_ints_app; (first | omega | (simp; omega) | (simp; done))) | (apply setAt_ints; (first | omega | (simp; omega) | (simp; done))) | (apply SetAt.set; (first | omega | (simp; omega) | (simp; done))))) | (apply s_storeN; exact rfl; exact rfl; (first | exact sz_3 | exact sz_26); exact rfl; exact rfl; (focus ((repeat (first | exact Repl.here | apply Repl.there)); done)); (focus ((repeat (first | exact SetN.nil | (apply SetN.cons; (repeat (first | exact SetAt.zero | apply SetAt.succ))))); done))) | (apply s_alloc; (first | exact zb_3 | exact zb_26); (focus ((repeat (first | exact LEq.nil | apply LEq.cons)); done)); intro _) | (apply s_makeB; exact rfl; exact rfl; (first | exact el_24); (first | exact sz_3 | exact sz_26); (first | exact zb_3 | exact zb_26); exact rfl; (first | exact by_3 | exact by_26); omega; omega; omega; intro _)))
      | apply ol_nil
      | apply cw_seq
      | apply cw_region
      | (apply cw_cond_true; exact rfl; (first | exact rfl | assumption))
      | (apply cw_cond_false; exact rfl; (first | exact rfl | assumption))
      | apply cw_skip
      | apply cw_ret
      | apply cw_block
      | apply cw_exit
    all_goals (refine ends [⟨none, [], 3⟩, ⟨none, [], 34⟩] (by (repeat (first | exact RVal.nil | (apply RVal.tmp; exact rfl) | (apply RVal.cellN; exact rfl; exact rfl; (first | exact sz_26); apply RdN.own; (focus ((repeat (first | exact Has.here | apply Has.there)); done)); (focus ((repeat (first | exact GetN.nil | (apply GetN.cons; exact rfl))); done))) | (apply RVal.cell1; exact rfl; exact rfl; apply RdN.own; (focus ((repeat (first | exact Has.here | apply Has.there)); done)); exact GetN.cons rfl GetN.nil)))) (by (repeat (first | exact Pick.nil | (apply Pick.cons; (focus ((repeat (first | exact Spl.here | apply Spl.there)); done))) | exact Pick.refl))) ?_; exact .inr ⟨h, LedRes.zero 2⟩)
end Go.Proofs.Ytmgmpgccnohpkaa
