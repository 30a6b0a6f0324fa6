/-
  Some texts joined.
-/
import Derived.Test.YtkbbbflojebfgaaDoorWB
/-
  Valid items: the program's way, all.
-/
namespace Go.Proofs.YtkbbbflojebfgaaDoor
set_option maxRecDepth 20000
set_option linter.unusedSimpArgs false
set_option linter.unusedVariables false
open Go Go.Fw
attribute [local irreducible] CW OL OD FX Stp FnC FnV Ret
set_option maxHeartbeats 1600000
theorem within_spec : ∀ (d : Nat), d ≤ 8 → ∀ {M : View} {w : World}, View.le M (View.of w) → ∀ {x : It d}, ItV M d x →
    FnC Tryd.prog 50 [.agg x.enc.toArray, .int .i64 d] w (fun v _ => v = .bool (okI d x)) := by
  intro d
  induction d with
  | zero =>
    intro _ M w hM x hx
    rw [okI_leaf (.inr rfl)]
    exact within_leaf hM hx.head (.inr rfl)
  | succ d ih =>
    intro hd M w hM x hx
    by_cases h3 : x.hd.k = 3
    · obtain ⟨h, L⟩ := x
      obtain ⟨hv, hl, sL, hL⟩ := hx
      have h3' : h.k = 3 := h3
      have e : okI (d + 1) (h, L) = (decide (h.n = 0 ∧ h.B.xs.length = 0 ∧ h.m ≤ 1000) && L.all (okI d)) := by
        show (if h.k = 3 then decide (h.n = 0 ∧ h.B.xs.length = 0 ∧ h.m ≤ 1000) && L.all (okI d) else okH h) = _
        rw [if_pos h3']
      rw [e]
      have hxe : It.enc (d := d + 1) (h, L) = [.int .i64 h.k, .int .i64 h.n, .slice h.B.a h.B.xs.length h.B.c, .slice h.La h.m h.Lc] := rfl
      rw [hxe]
      clear hxe e h3
      obtain ⟨k, n, ⟨xs, Ba, Bb, Bo, Bc⟩, La, Lb, Lo, Lc, m⟩ := h
      dsimp only at hv hl sL h3' ⊢
      subst h3'
      have hm4 := hv.2.2.2
      dsimp only at hm4
      have hany : L.any (fun x => !okI d x) = !L.all (okI d) := by rw [List.all_eq_not_any_not]; simp
      have kc : ∀ (w' : World) (b : Nat), View.le M (View.of w') → OB.ok ⟨some b, [.int .i64 ((d + 1 : Nat) : Int)], 3⟩ w' → FnC Tryd.prog 56 [.slice La m Lc, .func (.func 57) #[] [.pointer (some ⟨b, 0, none⟩)].toArray] w' (fun v _ => v = .bool (!L.all (okI d))) := fun w' b h hb =>
        anyIt_spec (View.le.refl (View.of w')) (cap := [.pointer (some ⟨b, 0, none⟩)]) (p := fun x => !okI d x) (f := 57) (by kernel_rfl) (xs := L) (fun w'' x hx h2 => clo_spec h2 (by omega) (fun w3 h3 => ih (by omega) (View.le.trans h h3) (hL x hx)) (show GetN ((View.of w').cell b) 0 1 [.int .i64 ((d + 1 : Nat) : Int)] from GetN.cons (OB.cell hb (by rfl)) GetN.nil)) hany hl (sL.mono h) (by omega)
      generalize L.all (okI d) = r at *
      refine enterF (M := M) Tryd.func50 rfl rfl rfl rfl hM ?_
      by_cases hc : n = 0 ∧ xs.length = 0 ∧ m ≤ 1000
      · rw [decide_eq_true hc, Bool.true_and]
        cases r with
        | true =>
          repeat' first
            | apply cw_seq
            | (refine cw_region_id 0 ?_; (apply ol_val; exact rfl; first | (apply s_boxN; exact rfl; intro bk2) | (apply s_box1; exact rfl; exact rfl; intro bk2)); (apply ol_val; exact rfl; first | (apply s_boxN; exact rfl; intro bk3) | (apply s_box1; exact rfl; exact rfl; intro bk3)); (apply ol_as; exact rfl; exact rfl); (apply ol_nil))
            | (refine cw_region_id 1 ?_; (apply ol_fa; exact rfl; exact rfl; exact fd_41_0; (first | exact Nat.zero_add _ | exact Nat.add_zero _ | exact rfl)); (apply ol_ld; exact rfl; exact rfl; exact rfl; (apply RdN.own; (focus ((repeat constructor); done)); (first | exact GetN.cons rfl GetN.nil | (apply getN_ints_app; (first | omega | (simp; omega) | (simp; done))) | (apply getN_ints; (first | omega | (simp; omega) | (simp; done)))))); (apply ol_nil))
            | (refine cw_region_id 2 ?_; (apply ol_val; exact rfl; apply stp_cmp; apply s_eql; exact rfl; exact rfl; all_goals (intro hc8; try (exfalso; (first | exact hc8 rfl | omega)))); all_goals (apply ol_as; exact rfl; exact rfl); all_goals (apply ol_nil))
            | (refine cw_region_id 4 ?_; (apply ol_val; exact rfl; apply stp_cmp; apply s_eql; exact rfl; exact rfl; all_goals (intro hc20; try (exfalso; (first | exact hc20 rfl | omega)))); all_goals (apply ol_as; exact rfl; exact rfl); all_goals (apply ol_nil))
            | (refine cw_region_id 6 ?_; (apply ol_val; exact rfl; apply stp_cmp; apply s_eql; exact rfl; exact rfl; all_goals (intro hc31; try (exfalso; (first | exact hc31 rfl | omega)))); all_goals (apply ol_as; exact rfl; exact rfl); all_goals (apply ol_nil))
            | (refine cw_region_id 7 ?_; (apply ol_fa; exact rfl; exact rfl; exact fd_41_1; (first | exact Nat.zero_add _ | exact Nat.add_zero _ | exact rfl)); (apply ol_ld; exact rfl; exact rfl; exact rfl; (apply RdN.own; (focus ((repeat constructor); done)); (first | exact GetN.cons rfl GetN.nil | (apply getN_ints_app; (first | omega | (simp; omega) | (simp; done))) | (apply getN_ints; (first | omega | (simp; omega) | (simp; done)))))); (apply ol_val; exact rfl; apply stp_cmp; apply s_eql; exact rfl; exact rfl; all_goals (intro hc34; try (exfalso; (first | exact hc34 rfl | omega)))); all_goals (apply ol_mv; exact rfl; exact rfl); all_goals (first | (apply ol_gskip; exact rfl; exact rfl; (first | exact rfl | assumption); exact rfl) | (apply ol_gval; exact rfl; exact rfl; exact rfl; (first | exact rfl | assumption); apply stp_pur; apply s_fieldAddr'; exact rfl; exact fd_41_2; (first | exact Nat.zero_add _ | exact Nat.add_zero _ | exact rfl))); all_goals (first | (apply ol_gskip; exact rfl; exact rfl; (first | exact rfl | assumption); exact rfl) | (apply ol_gval; exact rfl; exact rfl; exact rfl; (first | exact rfl | assumption); apply stp_pur; apply s_load1; exact rfl; exact rfl; (apply RdN.own; (focus ((repeat constructor); done)); exact GetN.cons rfl GetN.nil))); all_goals (first | (apply ol_gskip; exact rfl; exact rfl; (first | exact rfl | assumption); exact rfl) | (apply ol_gval; exact rfl; exact rfl; exact rfl; (first | exact rfl | assumption); apply stp_pur; apply s_len; exact rfl; exact el_38)); all_goals (first | (apply ol_gskip; exact rfl; exact rfl; (first | exact rfl | assumption); exact rfl) | (apply ol_gval; exact rfl; exact rfl; exact rfl; (first | exact rfl | assumption); apply stp_cmp; apply s_eql; exact rfl; exact rfl; all_goals (intro hc39; try (exfalso; (first | exact hc39 rfl | omega))))); all_goals (apply ol_val; exact rfl; apply stp_pur; first | (apply s_pick_t; exact rfl; (first | exact rfl | assumption); exact rfl) | (apply s_pick_f; exact rfl; (first | exact rfl | assumption); exact rfl)); all_goals (apply ol_mv; exact rfl; exact rfl); all_goals (first | (apply ol_gskip; exact rfl; exact rfl; (first | exact rfl | assumption); exact rfl) | (apply ol_gval; exact rfl; exact rfl; exact rfl; (first | exact rfl | assumption); apply stp_pur; apply s_load1; exact rfl; exact rfl; (apply RdN.own; (focus ((repeat constructor); done)); (first | exact GetN.cons rfl GetN.nil | (apply getN_ints_app; (first | omega | (simp; omega) | (simp; done))) | (apply getN_ints; (first | omega | (simp; omega) | (simp; done))))))); all_goals (first | (apply ol_gskip; exact rfl; exact rfl; (first | exact rfl | assumption); exact rfl) | (apply ol_gval; exact rfl; exact rfl; exact rfl; (first | exact rfl | assumption); apply stp_cmp; apply s_gtr; exact rfl; exact rfl; all_goals (intro hc43; try (exfalso; (first | exact hc43 rfl | omega))))); all_goals (apply ol_val; exact rfl; apply stp_pur; first | (apply s_pick_t; exact rfl; (first | exact rfl | assumption); exact rfl) | (apply s_pick_f; exact rfl; (first | exact rfl | assumption); exact rfl)); all_goals (apply ol_mv; exact rfl; exact rfl); all_goals (first | (apply ol_gskip; exact rfl; exact rfl; (first | exact rfl | assumption); exact rfl) | (apply ol_gval; exact rfl; exact rfl; exact rfl; (first | exact rfl | assumption); apply stp_pur; apply s_fieldAddr'; exact rfl; exact fd_41_3; (first | exact Nat.zero_add _ | exact Nat.add_zero _ | exact rfl))); all_goals (first | (apply ol_gskip; exact rfl; exact rfl; (first | exact rfl | assumption); exact rfl) | (apply ol_gval; exact rfl; exact rfl; exact rfl; (first | exact rfl | assumption); apply stp_pur; apply s_load1; exact rfl; exact rfl; (apply RdN.own; (focus ((repeat constructor); done)); exact GetN.cons rfl GetN.nil))); all_goals (first | (apply ol_gskip; exact rfl; exact rfl; (first | exact rfl | assumption); exact rfl) | (apply ol_gval; exact rfl; exact rfl; exact rfl; (first | exact rfl | assumption); apply stp_pur; apply s_len; exact rfl; exact el_39)); all_goals (first | (apply ol_gskip; exact rfl; exact rfl; (first | exact rfl | assumption); exact rfl) | (apply ol_gval; exact rfl; exact rfl; exact rfl; (first | exact rfl | assumption); apply stp_cmp; apply s_leq; exact rfl; exact rfl; all_goals (intro hc49; try (exfalso; (first | exact hc49 rfl | omega))))); all_goals (apply ol_val; exact rfl; apply stp_pur; first | (apply s_pick_t; exact rfl; (first | exact rfl | assumption); exact rfl) | (apply s_pick_f; exact rfl; (first | exact rfl | assumption); exact rfl)); all_goals (apply ol_mv; exact rfl; exact rfl); all_goals (first | (apply ol_gskip; exact rfl; exact rfl; (first | exact rfl | assumption); exact rfl) | (apply ol_gval; exact rfl; exact rfl; exact rfl; (first | exact rfl | assumption); apply stp_pur; apply s_fieldAddr'; exact rfl; exact fd_41_3; (first | exact Nat.zero_add _ | exact Nat.add_zero _ | exact rfl))); all_goals (first | (apply ol_gskip; exact rfl; exact rfl; (first | exact rfl | assumption); exact rfl) | (apply ol_gval; exact rfl; exact rfl; exact rfl; (first | exact rfl | assumption); apply stp_pur; apply s_load1; exact rfl; exact rfl; (apply RdN.own; (focus ((repeat constructor); done)); exact GetN.cons rfl GetN.nil))); all_goals (first | (apply ol_gskip; exact rfl; exact rfl; (first | exact rfl | assumption); exact rfl) | (apply ol_gval; exact rfl; exact rfl; exact rfl; (first | exact rfl | assumption); apply stp_pur; apply s_makeFunc; exact rfl; exact rfl)); all_goals (first | (apply ol_gskip; exact rfl; exact rfl; (first | exact rfl | assumption); exact rfl) | (apply ol_gval; exact rfl; exact rfl; exact rfl; (first | exact rfl | assumption); apply s_callv; exact rfl; exact gf_56; (intro w' hw'; exact kc w' _ hw'.le (hw'.ok_ (by (repeat (first | exact Has.here | apply Has.there))))))); all_goals (first | (apply ol_gskip; exact rfl; exact rfl; (first | exact rfl | assumption); exact rfl) | (apply ol_gval; exact rfl; exact rfl; exact rfl; (first | exact rfl | assumption); apply stp_pur; first | (apply s_not_t; exact rfl; (first | exact rfl | assumption)) | (apply s_not_f; exact rfl; (first | exact rfl | assumption)) | (apply s_not; exact rfl))); all_goals (apply ol_val; exact rfl; apply stp_pur; first | (apply s_pick_t; exact rfl; (first | exact rfl | assumption); exact rfl) | (apply s_pick_f; exact rfl; (first | exact rfl | assumption); exact rfl)); all_goals (apply ol_as; exact rfl; exact rfl); all_goals (apply ol_nil))
            | (apply cw_cond_true; exact rfl; (first | exact rfl | assumption))
            | (apply cw_cond_false; exact rfl; (first | exact rfl | assumption))
            | apply cw_skip
            | apply cw_ret
            | apply cw_block
            | apply cw_exit
          all_goals (refine ends [] (RVal.tmp rfl RVal.nil) Pick.nil ?_; rfl)
        | false =>
          repeat' first
            | apply cw_seq
            | (refine cw_region_id 0 ?_; (apply ol_val; exact rfl; first | (apply s_boxN; exact rfl; intro bk2) | (apply s_box1; exact rfl; exact rfl; intro bk2)); (apply ol_val; exact rfl; first | (apply s_boxN; exact rfl; intro bk3) | (apply s_box1; exact rfl; exact rfl; intro bk3)); (apply ol_as; exact rfl; exact rfl); (apply ol_nil))
            | (refine cw_region_id 1 ?_; (apply ol_fa; exact rfl; exact rfl; exact fd_41_0; (first | exact Nat.zero_add _ | exact Nat.add_zero _ | exact rfl)); (apply ol_ld; exact rfl; exact rfl; exact rfl; (apply RdN.own; (focus ((repeat constructor); done)); (first | exact GetN.cons rfl GetN.nil | (apply getN_ints_app; (first | omega | (simp; omega) | (simp; done))) | (apply getN_ints; (first | omega | (simp; omega) | (simp; done)))))); (apply ol_nil))
            | (refine cw_region_id 2 ?_; (apply ol_val; exact rfl; apply stp_cmp; apply s_eql; exact rfl; exact rfl; all_goals (intro hc8; try (exfalso; (first | exact hc8 rfl | omega)))); all_goals (apply ol_as; exact rfl; exact rfl); all_goals (apply ol_nil))
            | (refine cw_region_id 4 ?_; (apply ol_val; exact rfl; apply stp_cmp; apply s_eql; exact rfl; exact rfl; all_goals (intro hc20; try (exfalso; (first | exact hc20 rfl | omega)))); all_goals (apply ol_as; exact rfl; exact rfl); all_goals (apply ol_nil))
            | (refine cw_region_id 6 ?_; (apply ol_val; exact rfl; apply stp_cmp; apply s_eql; exact rfl; exact rfl; all_goals (intro hc31; try (exfalso; (first | exact hc31 rfl | omega)))); all_goals (apply ol_as; exact rfl; exact rfl); all_goals (apply ol_nil))
            | (refine cw_region_id 7 ?_; (apply ol_fa; exact rfl; exact rfl; exact fd_41_1; (first | exact Nat.zero_add _ | exact Nat.add_zero _ | exact rfl)); (apply ol_ld; exact rfl; exact rfl; exact rfl; (apply RdN.own; (focus ((repeat constructor); done)); (first | exact GetN.cons rfl GetN.nil | (apply getN_ints_app; (first | omega | (simp; omega) | (simp; done))) | (apply getN_ints; (first | omega | (simp; omega) | (simp; done)))))); (apply ol_val; exact rfl; apply stp_cmp; apply s_eql; exact rfl; exact rfl; all_goals (intro hc34; try (exfalso; (first | exact hc34 rfl | omega)))); all_goals (apply ol_mv; exact rfl; exact rfl); all_goals (first | (apply ol_gskip; exact rfl; exact rfl; (first | exact rfl | assumption); exact rfl) | (apply ol_gval; exact rfl; exact rfl; exact rfl; (first | exact rfl | assumption); apply stp_pur; apply s_fieldAddr'; exact rfl; exact fd_41_2; (first | exact Nat.zero_add _ | exact Nat.add_zero _ | exact rfl))); all_goals (first | (apply ol_gskip; exact rfl; exact rfl; (first | exact rfl | assumption); exact rfl) | (apply ol_gval; exact rfl; exact rfl; exact rfl; (first | exact rfl | assumption); apply stp_pur; apply s_load1; exact rfl; exact rfl; (apply RdN.own; (focus ((repeat constructor); done)); exact GetN.cons rfl GetN.nil))); all_goals (first | (apply ol_gskip; exact rfl; exact rfl; (first | exact rfl | assumption); exact rfl) | (apply ol_gval; exact rfl; exact rfl; exact rfl; (first | exact rfl | assumption); apply stp_pur; apply s_len; exact rfl; exact el_38)); all_goals (first | (apply ol_gskip; exact rfl; exact rfl; (first | exact rfl | assumption); exact rfl) | (apply ol_gval; exact rfl; exact rfl; exact rfl; (first | exact rfl | assumption); apply stp_cmp; apply s_eql; exact rfl; exact rfl; all_goals (intro hc39; try (exfalso; (first | exact hc39 rfl | omega))))); all_goals (apply ol_val; exact rfl; apply stp_pur; first | (apply s_pick_t; exact rfl; (first | exact rfl | assumption); exact rfl) | (apply s_pick_f; exact rfl; (first | exact rfl | assumption); exact rfl)); all_goals (apply ol_mv; exact rfl; exact rfl); all_goals (first | (apply ol_gskip; exact rfl; exact rfl; (first | exact rfl | assumption); exact rfl) | (apply ol_gval; exact rfl; exact rfl; exact rfl; (first | exact rfl | assumption); apply stp_pur; apply s_load1; exact rfl; exact rfl; (apply RdN.own; (focus ((repeat constructor); done)); (first | exact GetN.cons rfl GetN.nil | (apply getN_ints_app; (first | omega | (simp; omega) | (simp; done))) | (apply getN_ints; (first | omega | (simp; omega) | (simp; done))))))); all_goals (first | (apply ol_gskip; exact rfl; exact rfl; (first | exact rfl | assumption); exact rfl) | (apply ol_gval; exact rfl; exact rfl; exact rfl; (first | exact rfl | assumption); apply stp_cmp; apply s_gtr; exact rfl; exact rfl; all_goals (intro hc43; try (exfalso; (first | exact hc43 rfl | omega))))); all_goals (apply ol_val; exact rfl; apply stp_pur; first | (apply s_pick_t; exact rfl; (first | exact rfl | assumption); exact rfl) | (apply s_pick_f; exact rfl; (first | exact rfl | assumption); exact rfl)); all_goals (apply ol_mv; exact rfl; exact rfl); all_goals (first | (apply ol_gskip; exact rfl; exact rfl; (first | exact rfl | assumption); exact rfl) | (apply ol_gval; exact rfl; exact rfl; exact rfl; (first | exact rfl | assumption); apply stp_pur; apply s_fieldAddr'; exact rfl; exact fd_41_3; (first | exact Nat.zero_add _ | exact Nat.add_zero _ | exact rfl))); all_goals (first | (apply ol_gskip; exact rfl; exact rfl; (first | exact rfl | assumption); exact rfl) | (apply ol_gval; exact rfl; exact rfl; exact rfl; (first | exact rfl | assumption); apply stp_pur; apply s_load1; exact rfl; exact rfl; (apply RdN.own; (focus ((repeat constructor); done)); exact GetN.cons rfl GetN.nil))); all_goals (first | (apply ol_gskip; exact rfl; exact rfl; (first | exact rfl | assumption); exact rfl) | (apply ol_gval; exact rfl; exact rfl; exact rfl; (first | exact rfl | assumption); apply stp_pur; apply s_len; exact rfl; exact el_39)); all_goals (first | (apply ol_gskip; exact rfl; exact rfl; (first | exact rfl | assumption); exact rfl) | (apply ol_gval; exact rfl; exact rfl; exact rfl; (first | exact rfl | assumption); apply stp_cmp; apply s_leq; exact rfl; exact rfl; all_goals (intro hc49; try (exfalso; (first | exact hc49 rfl | omega))))); all_goals (apply ol_val; exact rfl; apply stp_pur; first | (apply s_pick_t; exact rfl; (first | exact rfl | assumption); exact rfl) | (apply s_pick_f; exact rfl; (first | exact rfl | assumption); exact rfl)); all_goals (apply ol_mv; exact rfl; exact rfl); all_goals (first | (apply ol_gskip; exact rfl; exact rfl; (first | exact rfl | assumption); exact rfl) | (apply ol_gval; exact rfl; exact rfl; exact rfl; (first | exact rfl | assumption); apply stp_pur; apply s_fieldAddr'; exact rfl; exact fd_41_3; (first | exact Nat.zero_add _ | exact Nat.add_zero _ | exact rfl))); all_goals (first | (apply ol_gskip; exact rfl; exact rfl; (first | exact rfl | assumption); exact rfl) | (apply ol_gval; exact rfl; exact rfl; exact rfl; (first | exact rfl | assumption); apply stp_pur; apply s_load1; exact rfl; exact rfl; (apply RdN.own; (focus ((repeat constructor); done)); exact GetN.cons rfl GetN.nil))); all_goals (first | (apply ol_gskip; exact rfl; exact rfl; (first | exact rfl | assumption); exact rfl) | (apply ol_gval; exact rfl; exact rfl; exact rfl; (first | exact rfl | assumption); apply stp_pur; apply s_makeFunc; exact rfl; exact rfl)); all_goals (first | (apply ol_gskip; exact rfl; exact rfl; (first | exact rfl | assumption); exact rfl) | (apply ol_gval; exact rfl; exact rfl; exact rfl; (first | exact rfl | assumption); apply s_callv; exact rfl; exact gf_56; (intro w' hw'; exact kc w' _ hw'.le (hw'.ok_ (by (repeat (first | exact Has.here | apply Has.there))))))); all_goals (first | (apply ol_gskip; exact rfl; exact rfl; (first | exact rfl | assumption); exact rfl) | (apply ol_gval; exact rfl; exact rfl; exact rfl; (first | exact rfl | assumption); apply stp_pur; first | (apply s_not_t; exact rfl; (first | exact rfl | assumption)) | (apply s_not_f; exact rfl; (first | exact rfl | assumption)) | (apply s_not; exact rfl))); all_goals (apply ol_val; exact rfl; apply stp_pur; first | (apply s_pick_t; exact rfl; (first | exact rfl | assumption); exact rfl) | (apply s_pick_f; exact rfl; (first | exact rfl | assumption); exact rfl)); all_goals (apply ol_as; exact rfl; exact rfl); all_goals (apply ol_nil))
            | (apply cw_cond_true; exact rfl; (first | exact rfl | assumption))
            | (apply cw_cond_false; exact rfl; (first | exact rfl | assumption))
            | apply cw_skip
            | apply cw_ret
            | apply cw_block
            | apply cw_exit
          all_goals (refine ends [] (RVal.tmp rfl RVal.nil) Pick.nil ?_; rfl)
      · rw [decide_eq_false hc, Bool.false_and]
        repeat' first
          | apply cw_seq
          | (refine cw_region_id 0 ?_; (apply ol_val; exact rfl; first | (apply s_boxN; exact rfl; intro bk2) | (apply s_box1; exact rfl; exact rfl; intro bk2)); (apply ol_val; exact rfl; first | (apply s_boxN; exact rfl; intro bk3) | (apply s_box1; exact rfl; exact rfl; intro bk3)); (apply ol_as; exact rfl; exact rfl); (apply ol_nil))
          | (refine cw_region_id 1 ?_; (apply ol_fa; exact rfl; exact rfl; exact fd_41_0; (first | exact Nat.zero_add _ | exact Nat.add_zero _ | exact rfl)); (apply ol_ld; exact rfl; exact rfl; exact rfl; (apply RdN.own; (focus ((repeat constructor); done)); (first | exact GetN.cons rfl GetN.nil | (apply getN_ints_app; (first | omega | (simp; omega) | (simp; done))) | (apply getN_ints; (first | omega | (simp; omega) | (simp; done)))))); (apply ol_nil))
          | (refine cw_region_id 2 ?_; (apply ol_val; exact rfl; apply stp_cmp; apply s_eql; exact rfl; exact rfl; all_goals (intro hc8; try (exfalso; (first | exact hc8 rfl | omega)))); all_goals (apply ol_as; exact rfl; exact rfl); all_goals (apply ol_nil))
          | (refine cw_region_id 4 ?_; (apply ol_val; exact rfl; apply stp_cmp; apply s_eql; exact rfl; exact rfl; all_goals (intro hc20; try (exfalso; (first | exact hc20 rfl | omega)))); all_goals (apply ol_as; exact rfl; exact rfl); all_goals (apply ol_nil))
          | (refine cw_region_id 6 ?_; (apply ol_val; exact rfl; apply stp_cmp; apply s_eql; exact rfl; exact rfl; all_goals (intro hc31; try (exfalso; (first | exact hc31 rfl | omega)))); all_goals (apply ol_as; exact rfl; exact rfl); all_goals (apply ol_nil))
          | (refine cw_region_id 7 ?_; (apply ol_fa; exact rfl; exact rfl; exact fd_41_1; (first | exact Nat.zero_add _ | exact Nat.add_zero _ | exact rfl)); (apply ol_ld; exact rfl; exact rfl; exact rfl; (apply RdN.own; (focus ((repeat constructor); done)); (first | exact GetN.cons rfl GetN.nil | (apply getN_ints_app; (first | omega | (simp; omega) | (simp; done))) | (apply getN_ints; (first | omega | (simp; omega) | (simp; done)))))); (apply ol_val; exact rfl; apply stp_cmp; apply s_eql; exact rfl; exact rfl; all_goals (intro hc34; try (exfalso; (first | exact hc34 rfl | omega)))); all_goals (apply ol_mv; exact rfl; exact rfl); all_goals (first | (apply ol_gskip; exact rfl; exact rfl; (first | exact rfl | assumption); exact rfl) | (apply ol_gval; exact rfl; exact rfl; exact rfl; (first | exact rfl | assumption); apply stp_pur; apply s_fieldAddr'; exact rfl; exact fd_41_2; (first | exact Nat.zero_add _ | exact Nat.add_zero _ | exact rfl))); all_goals (first | (apply ol_gskip; exact rfl; exact rfl; (first | exact rfl | assumption); exact rfl) | (apply ol_gval; exact rfl; exact rfl; exact rfl; (first | exact rfl | assumption); apply stp_pur; apply s_load1; exact rfl; exact rfl; (apply RdN.own; (focus ((repeat constructor); done)); exact GetN.cons rfl GetN.nil))); all_goals (first | (apply ol_gskip; exact rfl; exact rfl; (first | exact rfl | assumption); exact rfl) | (apply ol_gval; exact rfl; exact rfl; exact rfl; (first | exact rfl | assumption); apply stp_pur; apply s_len; exact rfl; exact el_38)); all_goals (first | (apply ol_gskip; exact rfl; exact rfl; (first | exact rfl | assumption); exact rfl) | (apply ol_gval; exact rfl; exact rfl; exact rfl; (first | exact rfl | assumption); apply stp_cmp; apply s_eql; exact rfl; exact rfl; all_goals (intro hc39; try (exfalso; (first | exact hc39 rfl | omega))))); all_goals (apply ol_val; exact rfl; apply stp_pur; first | (apply s_pick_t; exact rfl; (first | exact rfl | assumption); exact rfl) | (apply s_pick_f; exact rfl; (first | exact rfl | assumption); exact rfl)); all_goals (apply ol_mv; exact rfl; exact rfl); all_goals (first | (apply ol_gskip; exact rfl; exact rfl; (first | exact rfl | assumption); exact rfl) | (apply ol_gval; exact rfl; exact rfl; exact rfl; (first | exact rfl | assumption); apply stp_pur; apply s_load1; exact rfl; exact rfl; (apply RdN.own; (focus ((repeat constructor); done)); (first | exact GetN.cons rfl GetN.nil | (apply getN_ints_app; (first | omega | (simp; omega) | (simp; done))) | (apply getN_ints; (first | omega | (simp; omega) | (simp; done))))))); all_goals (first | (apply ol_gskip; exact rfl; exact rfl; (first | exact rfl | assumption); exact rfl) | (apply ol_gval; exact rfl; exact rfl; exact rfl; (first | exact rfl | assumption); apply stp_cmp; apply s_gtr; exact rfl; exact rfl; all_goals (intro hc43; try (exfalso; (first | exact hc43 rfl | omega))))); all_goals (apply ol_val; exact rfl; apply stp_pur; first | (apply s_pick_t; exact rfl; (first | exact rfl | assumption); exact rfl) | (apply s_pick_f; exact rfl; (first | exact rfl | assumption); exact rfl)); all_goals (apply ol_mv; exact rfl; exact rfl); all_goals (first | (apply ol_gskip; exact rfl; exact rfl; (first | exact rfl | assumption); exact rfl) | (apply ol_gval; exact rfl; exact rfl; exact rfl; (first | exact rfl | assumption); apply stp_pur; apply s_fieldAddr'; exact rfl; exact fd_41_3; (first | exact Nat.zero_add _ | exact Nat.add_zero _ | exact rfl))); all_goals (first | (apply ol_gskip; exact rfl; exact rfl; (first | exact rfl | assumption); exact rfl) | (apply ol_gval; exact rfl; exact rfl; exact rfl; (first | exact rfl | assumption); apply stp_pur; apply s_load1; exact rfl; exact rfl; (apply RdN.own; (focus ((repeat constructor); done)); exact GetN.cons rfl GetN.nil))); all_goals (first | (apply ol_gskip; exact rfl; exact rfl; (first | exact rfl | assumption); exact rfl) | (apply ol_gval; exact rfl; exact rfl; exact rfl; (first | exact rfl | assumption); apply stp_pur; apply s_len; exact rfl; exact el_39)); all_goals (first | (apply ol_gskip; exact rfl; exact rfl; (first | exact rfl | assumption); exact rfl) | (apply ol_gval; exact rfl; exact rfl; exact rfl; (first | exact rfl | assumption); apply stp_cmp; apply s_leq; exact rfl; exact rfl; all_goals (intro hc49; try (exfalso; (first | exact hc49 rfl | omega))))); all_goals (apply ol_val; exact rfl; apply stp_pur; first | (apply s_pick_t; exact rfl; (first | exact rfl | assumption); exact rfl) | (apply s_pick_f; exact rfl; (first | exact rfl | assumption); exact rfl)); all_goals (apply ol_mv; exact rfl; exact rfl); all_goals (first | (apply ol_gskip; exact rfl; exact rfl; (first | exact rfl | assumption); exact rfl) | (apply ol_gval; exact rfl; exact rfl; exact rfl; (first | exact rfl | assumption); apply stp_pur; apply s_fieldAddr'; exact rfl; exact fd_41_3; (first | exact Nat.zero_add _ | exact Nat.add_zero _ | exact rfl))); all_goals (first | (apply ol_gskip; exact rfl; exact rfl; (first | exact rfl | assumption); exact rfl) | (apply ol_gval; exact rfl; exact rfl; exact rfl; (first | exact rfl | assumption); apply stp_pur; apply s_load1; exact rfl; exact rfl; (apply RdN.own; (focus ((repeat constructor); done)); exact GetN.cons rfl GetN.nil))); all_goals (first | (apply ol_gskip; exact rfl; exact rfl; (first | exact rfl | assumption); exact rfl) | (apply ol_gval; exact rfl; exact rfl; exact rfl; (first | exact rfl | assumption); apply stp_pur; apply s_makeFunc; exact rfl; exact rfl)); all_goals (first | (apply ol_gskip; exact rfl; exact rfl; (first | exact rfl | assumption); exact rfl) | (apply ol_gval; exact rfl; exact rfl; exact rfl; (first | exact rfl | assumption); fail)); all_goals (first | (apply ol_gskip; exact rfl; exact rfl; (first | exact rfl | assumption); exact rfl) | (apply ol_gval; exact rfl; exact rfl; exact rfl; (first | exact rfl | assumption); apply stp_pur; first | (apply s_not_t; exact rfl; (first | exact rfl | assumption)) | (apply s_not_f; exact rfl; (first | exact rfl | assumption)) | (apply s_not; exact rfl))); all_goals (apply ol_val; exact rfl; apply stp_pur; first | (apply s_pick_t; exact rfl; (first | exact rfl | assumption); exact rfl) | (apply s_pick_f; exact rfl; (first | exact rfl | assumption); exact rfl)); all_goals (apply ol_as; exact rfl; exact rfl); all_goals (apply ol_nil))
          | (apply cw_cond_true; exact rfl; (first | exact rfl | assumption))
          | (apply cw_cond_false; exact rfl; (first | exact rfl | assumption))
          | apply cw_skip
          | apply cw_ret
          | apply cw_block
          | apply cw_exit
        all_goals (refine ends [] (RVal.tmp rfl RVal.nil) Pick.nil ?_; rfl)
    · rw [okI_leaf (.inl h3)]
      exact within_leaf hM hx.head (.inl h3)
theorem valid_spec {M : View} {w : World} (hM : View.le M (View.of w)) {x : It 8} (hx : ItV M 8 x) :
    FnC Tryd.prog 40 [.agg x.enc.toArray] w (fun v _ => v = .bool (okI 8 x)) := by
  have kw := fun (w' : World) (h : View.le M (View.of w')) => within_spec 8 (Nat.le_refl _) h hx
  unfold It.enc at *
  generalize x.hd = h at *
  obtain ⟨k, n, ⟨xs, Ba, Bb, Bo, Bc⟩, La, Lb, Lo, Lc, m⟩ := h
  dsimp only at kw ⊢
  generalize okI 8 x = r at *
  refine enterF (M := M) Tryd.func40 rfl rfl rfl rfl hM ?_
  repeat' first
    | apply cw_seq
    | (refine cw_region_id 0 ?_; (apply ol_val; exact rfl; first | (apply s_boxN; exact rfl; intro bk1) | (apply s_box1; exact rfl; exact rfl; intro bk1)); (apply ol_as; exact rfl; exact rfl); (apply ol_nil))
    | (refine cw_region_id 1 ?_; (apply ol_ldN; exact rfl; exact rfl; exact rfl; exact sz_41; (apply RdN.own; (focus ((repeat constructor); done)); (focus ((repeat (first | exact rfl | constructor)); done)))); (apply ol_val; exact rfl; apply s_callv; exact rfl; exact gf_50; (intro w' hw'; exact kw w' hw'.le)); (apply ol_as; exact rfl; exact rfl); (apply ol_nil))
    | (apply cw_cond_true; exact rfl; (first | exact rfl | assumption))
    | (apply cw_cond_false; exact rfl; (first | exact rfl | assumption))
    | apply cw_skip
    | apply cw_ret
    | apply cw_block
    | apply cw_exit
  refine ends [] (RVal.tmp rfl RVal.nil) Pick.nil ?_
  rfl
end Go.Proofs.YtkbbbflojebfgaaDoor

/-
  Valid items: the reference's way.
-/
namespace Go.Proofs.YtkbbbflojebfgaaDoor
set_option maxRecDepth 20000
set_option linter.unusedSimpArgs false
set_option linter.unusedVariables false
open Go Go.Fw
attribute [local irreducible] CW OL OD FX Stp FnC FnV Ret
set_option maxHeartbeats 1600000
theorem rvalid_leaf {M : View} {w : World} (hM : View.le M (View.of w)) {d : Nat} (hd : d ≤ 8) {x : It d} (hv : HdV M x.hd) (h3 : x.hd.k ≠ 3 ∨ d = 0) :
    FnC Tryd.prog 49 [.agg x.enc.toArray, .int .i64 (8 - (d : Int))] w (fun v _ => v = .bool (okH x.hd)) := by
  unfold It.enc
  generalize x.hd = h at *
  obtain ⟨k, n, ⟨xs, Ba, Bb, Bo, Bc⟩, La, Lb, Lo, Lc, m⟩ := h
  dsimp only at hv h3 ⊢
  refine enterF (M := M) Tryd.func49 rfl rfl rfl rfl hM ?_
  by_cases h1 : k = 1
  · rw [okH_1 h1]
    subst h1
    dsimp only
    by_cases hc : xs.length = 0 ∧ m = 0
    · rw [decide_eq_true hc]
      repeat' first
        | apply cw_seq
        | (refine cw_region_id 0 ?_; (apply ol_val; exact rfl; first | (apply s_boxN; exact rfl; intro bk2) | (apply s_box1; exact rfl; exact rfl; intro bk2)); (apply ol_as; exact rfl; exact rfl); (apply ol_nil))
        | (refine cw_region_id 1 ?_; (apply ol_fa; exact rfl; exact rfl; exact fd_41_0; (first | exact Nat.zero_add _ | exact Nat.add_zero _ | exact rfl)); (apply ol_ld; exact rfl; exact rfl; exact rfl; (apply RdN.own; (focus ((repeat constructor); done)); (first | exact GetN.cons rfl GetN.nil | (apply getN_ints_app; (first | omega | (simp; omega) | (simp; done))) | (apply getN_ints; (first | omega | (simp; omega) | (simp; done)))))); (apply ol_nil))
        | (refine cw_region_id 2 ?_; (apply ol_val; exact rfl; apply stp_cmp; apply s_eql; exact rfl; exact rfl; all_goals (intro hc9; try (exfalso; (first | exact hc9 rfl | omega)))); all_goals (apply ol_as; exact rfl; exact rfl); all_goals (apply ol_nil))
        | (refine cw_region_id 3 ?_; (apply ol_fa; exact rfl; exact rfl; exact fd_41_2; (first | exact Nat.zero_add _ | exact Nat.add_zero _ | exact rfl)); (apply ol_ld; exact rfl; exact rfl; exact rfl; (apply RdN.own; (focus ((repeat constructor); done)); exact GetN.cons rfl GetN.nil)); (apply ol_val; exact rfl; apply stp_pur; apply s_len; exact rfl; exact el_38); (apply ol_val; exact rfl; apply stp_cmp; apply s_eql; exact rfl; exact rfl; all_goals (intro hc13; try (exfalso; (first | exact hc13 rfl | omega)))); all_goals (apply ol_mv; exact rfl; exact rfl); all_goals (first | (apply ol_gskip; exact rfl; exact rfl; (first | exact rfl | assumption); exact rfl) | (apply ol_gval; exact rfl; exact rfl; exact rfl; (first | exact rfl | assumption); apply stp_pur; apply s_fieldAddr'; exact rfl; exact fd_41_3; (first | exact Nat.zero_add _ | exact Nat.add_zero _ | exact rfl))); all_goals (first | (apply ol_gskip; exact rfl; exact rfl; (first | exact rfl | assumption); exact rfl) | (apply ol_gval; exact rfl; exact rfl; exact rfl; (first | exact rfl | assumption); apply stp_pur; apply s_load1; exact rfl; exact rfl; (apply RdN.own; (focus ((repeat constructor); done)); exact GetN.cons rfl GetN.nil))); all_goals (first | (apply ol_gskip; exact rfl; exact rfl; (first | exact rfl | assumption); exact rfl) | (apply ol_gval; exact rfl; exact rfl; exact rfl; (first | exact rfl | assumption); apply stp_pur; apply s_len; exact rfl; exact el_39)); all_goals (first | (apply ol_gskip; exact rfl; exact rfl; (first | exact rfl | assumption); exact rfl) | (apply ol_gval; exact rfl; exact rfl; exact rfl; (first | exact rfl | assumption); apply stp_cmp; apply s_eql; exact rfl; exact rfl; all_goals (intro hc18; try (exfalso; (first | exact hc18 rfl | omega))))); all_goals (apply ol_val; exact rfl; apply stp_pur; first | (apply s_pick_t; exact rfl; (first | exact rfl | assumption); exact rfl) | (apply s_pick_f; exact rfl; (first | exact rfl | assumption); exact rfl)); all_goals (apply ol_as; exact rfl; exact rfl); all_goals (apply ol_nil))
        | (apply cw_cond_true; exact rfl; (first | exact rfl | assumption))
        | (apply cw_cond_false; exact rfl; (first | exact rfl | assumption))
        | apply cw_skip
        | apply cw_ret
        | apply cw_block
        | apply cw_exit
      all_goals (refine ends [] (RVal.tmp rfl RVal.nil) Pick.nil ?_; rfl)
    · rw [decide_eq_false hc]
      repeat' first
        | apply cw_seq
        | (refine cw_region_id 0 ?_; (apply ol_val; exact rfl; first | (apply s_boxN; exact rfl; intro bk2) | (apply s_box1; exact rfl; exact rfl; intro bk2)); (apply ol_as; exact rfl; exact rfl); (apply ol_nil))
        | (refine cw_region_id 1 ?_; (apply ol_fa; exact rfl; exact rfl; exact fd_41_0; (first | exact Nat.zero_add _ | exact Nat.add_zero _ | exact rfl)); (apply ol_ld; exact rfl; exact rfl; exact rfl; (apply RdN.own; (focus ((repeat constructor); done)); (first | exact GetN.cons rfl GetN.nil | (apply getN_ints_app; (first | omega | (simp; omega) | (simp; done))) | (apply getN_ints; (first | omega | (simp; omega) | (simp; done)))))); (apply ol_nil))
        | (refine cw_region_id 2 ?_; (apply ol_val; exact rfl; apply stp_cmp; apply s_eql; exact rfl; exact rfl; all_goals (intro hc9; try (exfalso; (first | exact hc9 rfl | omega)))); all_goals (apply ol_as; exact rfl; exact rfl); all_goals (apply ol_nil))
        | (refine cw_region_id 3 ?_; (apply ol_fa; exact rfl; exact rfl; exact fd_41_2; (first | exact Nat.zero_add _ | exact Nat.add_zero _ | exact rfl)); (apply ol_ld; exact rfl; exact rfl; exact rfl; (apply RdN.own; (focus ((repeat constructor); done)); exact GetN.cons rfl GetN.nil)); (apply ol_val; exact rfl; apply stp_pur; apply s_len; exact rfl; exact el_38); (apply ol_val; exact rfl; apply stp_cmp; apply s_eql; exact rfl; exact rfl; all_goals (intro hc13; try (exfalso; (first | exact hc13 rfl | omega)))); all_goals (apply ol_mv; exact rfl; exact rfl); all_goals (first | (apply ol_gskip; exact rfl; exact rfl; (first | exact rfl | assumption); exact rfl) | (apply ol_gval; exact rfl; exact rfl; exact rfl; (first | exact rfl | assumption); apply stp_pur; apply s_fieldAddr'; exact rfl; exact fd_41_3; (first | exact Nat.zero_add _ | exact Nat.add_zero _ | exact rfl))); all_goals (first | (apply ol_gskip; exact rfl; exact rfl; (first | exact rfl | assumption); exact rfl) | (apply ol_gval; exact rfl; exact rfl; exact rfl; (first | exact rfl | assumption); apply stp_pur; apply s_load1; exact rfl; exact rfl; (apply RdN.own; (focus ((repeat constructor); done)); exact GetN.cons rfl GetN.nil))); all_goals (first | (apply ol_gskip; exact rfl; exact rfl; (first | exact rfl | assumption); exact rfl) | (apply ol_gval; exact rfl; exact rfl; exact rfl; (first | exact rfl | assumption); apply stp_pur; apply s_len; exact rfl; exact el_39)); all_goals (first | (apply ol_gskip; exact rfl; exact rfl; (first | exact rfl | assumption); exact rfl) | (apply ol_gval; exact rfl; exact rfl; exact rfl; (first | exact rfl | assumption); apply stp_cmp; apply s_eql; exact rfl; exact rfl; all_goals (intro hc18; try (exfalso; (first | exact hc18 rfl | omega))))); all_goals (apply ol_val; exact rfl; apply stp_pur; first | (apply s_pick_t; exact rfl; (first | exact rfl | assumption); exact rfl) | (apply s_pick_f; exact rfl; (first | exact rfl | assumption); exact rfl)); all_goals (apply ol_as; exact rfl; exact rfl); all_goals (apply ol_nil))
        | (apply cw_cond_true; exact rfl; (first | exact rfl | assumption))
        | (apply cw_cond_false; exact rfl; (first | exact rfl | assumption))
        | apply cw_skip
        | apply cw_ret
        | apply cw_block
        | apply cw_exit
      all_goals (refine ends [] (RVal.tmp rfl RVal.nil) Pick.nil ?_; rfl)
  · by_cases h2 : k = 2
    · rw [okH_2 h2]
      subst h2
      dsimp only
      by_cases hc : n = 0 ∧ m = 0
      · rw [decide_eq_true hc]
        repeat' first
          | apply cw_seq
          | (refine cw_region_id 0 ?_; (apply ol_val; exact rfl; first | (apply s_boxN; exact rfl; intro bk2) | (apply s_box1; exact rfl; exact rfl; intro bk2)); (apply ol_as; exact rfl; exact rfl); (apply ol_nil))
          | (refine cw_region_id 1 ?_; (apply ol_fa; exact rfl; exact rfl; exact fd_41_0; (first | exact Nat.zero_add _ | exact Nat.add_zero _ | exact rfl)); (apply ol_ld; exact rfl; exact rfl; exact rfl; (apply RdN.own; (focus ((repeat constructor); done)); (first | exact GetN.cons rfl GetN.nil | (apply getN_ints_app; (first | omega | (simp; omega) | (simp; done))) | (apply getN_ints; (first | omega | (simp; omega) | (simp; done)))))); (apply ol_nil))
          | (refine cw_region_id 2 ?_; (apply ol_val; exact rfl; apply stp_cmp; apply s_eql; exact rfl; exact rfl; all_goals (intro hc9; try (exfalso; (first | exact hc9 rfl | omega)))); all_goals (apply ol_as; exact rfl; exact rfl); all_goals (apply ol_nil))
          | (refine cw_region_id 4 ?_; (apply ol_val; exact rfl; apply stp_cmp; apply s_eql; exact rfl; exact rfl; all_goals (intro hc21; try (exfalso; (first | exact hc21 rfl | omega)))); all_goals (apply ol_as; exact rfl; exact rfl); all_goals (apply ol_nil))
          | (refine cw_region_id 5 ?_; (apply ol_fa; exact rfl; exact rfl; exact fd_41_1; (first | exact Nat.zero_add _ | exact Nat.add_zero _ | exact rfl)); (apply ol_ld; exact rfl; exact rfl; exact rfl; (apply RdN.own; (focus ((repeat constructor); done)); (first | exact GetN.cons rfl GetN.nil | (apply getN_ints_app; (first | omega | (simp; omega) | (simp; done))) | (apply getN_ints; (first | omega | (simp; omega) | (simp; done)))))); (apply ol_val; exact rfl; apply stp_cmp; apply s_eql; exact rfl; exact rfl; all_goals (intro hc24; try (exfalso; (first | exact hc24 rfl | omega)))); all_goals (apply ol_mv; exact rfl; exact rfl); all_goals (first | (apply ol_gskip; exact rfl; exact rfl; (first | exact rfl | assumption); exact rfl) | (apply ol_gval; exact rfl; exact rfl; exact rfl; (first | exact rfl | assumption); apply stp_pur; apply s_fieldAddr'; exact rfl; exact fd_41_3; (first | exact Nat.zero_add _ | exact Nat.add_zero _ | exact rfl))); all_goals (first | (apply ol_gskip; exact rfl; exact rfl; (first | exact rfl | assumption); exact rfl) | (apply ol_gval; exact rfl; exact rfl; exact rfl; (first | exact rfl | assumption); apply stp_pur; apply s_load1; exact rfl; exact rfl; (apply RdN.own; (focus ((repeat constructor); done)); exact GetN.cons rfl GetN.nil))); all_goals (first | (apply ol_gskip; exact rfl; exact rfl; (first | exact rfl | assumption); exact rfl) | (apply ol_gval; exact rfl; exact rfl; exact rfl; (first | exact rfl | assumption); apply stp_pur; apply s_len; exact rfl; exact el_39)); all_goals (first | (apply ol_gskip; exact rfl; exact rfl; (first | exact rfl | assumption); exact rfl) | (apply ol_gval; exact rfl; exact rfl; exact rfl; (first | exact rfl | assumption); apply stp_cmp; apply s_eql; exact rfl; exact rfl; all_goals (intro hc29; try (exfalso; (first | exact hc29 rfl | omega))))); all_goals (apply ol_val; exact rfl; apply stp_pur; first | (apply s_pick_t; exact rfl; (first | exact rfl | assumption); exact rfl) | (apply s_pick_f; exact rfl; (first | exact rfl | assumption); exact rfl)); all_goals (apply ol_as; exact rfl; exact rfl); all_goals (apply ol_nil))
          | (apply cw_cond_true; exact rfl; (first | exact rfl | assumption))
          | (apply cw_cond_false; exact rfl; (first | exact rfl | assumption))
          | apply cw_skip
          | apply cw_ret
          | apply cw_block
          | apply cw_exit
        all_goals (refine ends [] (RVal.tmp rfl RVal.nil) Pick.nil ?_; rfl)
      · rw [decide_eq_false hc]
        repeat' first
          | apply cw_seq
          | (refine cw_region_id 0 ?_; (apply ol_val; exact rfl; first | (apply s_boxN; exact rfl; intro bk2) | (apply s_box1; exact rfl; exact rfl; intro bk2)); (apply ol_as; exact rfl; exact rfl); (apply ol_nil))
          | (refine cw_region_id 1 ?_; (apply ol_fa; exact rfl; exact rfl; exact fd_41_0; (first | exact Nat.zero_add _ | exact Nat.add_zero _ | exact rfl)); (apply ol_ld; exact rfl; exact rfl; exact rfl; (apply RdN.own; (focus ((repeat constructor); done)); (first | exact GetN.cons rfl GetN.nil | (apply getN_ints_app; (first | omega | (simp; omega) | (simp; done))) | (apply getN_ints; (first | omega | (simp; omega) | (simp; done)))))); (apply ol_nil))
          | (refine cw_region_id 2 ?_; (apply ol_val; exact rfl; apply stp_cmp; apply s_eql; exact rfl; exact rfl; all_goals (intro hc9; try (exfalso; (first | exact hc9 rfl | omega)))); all_goals (apply ol_as; exact rfl; exact rfl); all_goals (apply ol_nil))
          | (refine cw_region_id 4 ?_; (apply ol_val; exact rfl; apply stp_cmp; apply s_eql; exact rfl; exact rfl; all_goals (intro hc21; try (exfalso; (first | exact hc21 rfl | omega)))); all_goals (apply ol_as; exact rfl; exact rfl); all_goals (apply ol_nil))
          | (refine cw_region_id 5 ?_; (apply ol_fa; exact rfl; exact rfl; exact fd_41_1; (first | exact Nat.zero_add _ | exact Nat.add_zero _ | exact rfl)); (apply ol_ld; exact rfl; exact rfl; exact rfl; (apply RdN.own; (focus ((repeat constructor); done)); (first | exact GetN.cons rfl GetN.nil | (apply getN_ints_app; (first | omega | (simp; omega) | (simp; done))) | (apply getN_ints; (first | omega | (simp; omega) | (simp; done)))))); (apply ol_val; exact rfl; apply stp_cmp; apply s_eql; exact rfl; exact rfl; all_goals (intro hc24; try (exfalso; (first | exact hc24 rfl | omega)))); all_goals (apply ol_mv; exact rfl; exact rfl); all_goals (first | (apply ol_gskip; exact rfl; exact rfl; (first | exact rfl | assumption); exact rfl) | (apply ol_gval; exact rfl; exact rfl; exact rfl; (first | exact rfl | assumption); apply stp_pur; apply s_fieldAddr'; exact rfl; exact fd_41_3; (first | exact Nat.zero_add _ | exact Nat.add_zero _ | exact rfl))); all_goals (first | (apply ol_gskip; exact rfl; exact rfl; (first | exact rfl | assumption); exact rfl) | (apply ol_gval; exact rfl; exact rfl; exact rfl; (first | exact rfl | assumption); apply stp_pur; apply s_load1; exact rfl; exact rfl; (apply RdN.own; (focus ((repeat constructor); done)); exact GetN.cons rfl GetN.nil))); all_goals (first | (apply ol_gskip; exact rfl; exact rfl; (first | exact rfl | assumption); exact rfl) | (apply ol_gval; exact rfl; exact rfl; exact rfl; (first | exact rfl | assumption); apply stp_pur; apply s_len; exact rfl; exact el_39)); all_goals (first | (apply ol_gskip; exact rfl; exact rfl; (first | exact rfl | assumption); exact rfl) | (apply ol_gval; exact rfl; exact rfl; exact rfl; (first | exact rfl | assumption); apply stp_cmp; apply s_eql; exact rfl; exact rfl; all_goals (intro hc29; try (exfalso; (first | exact hc29 rfl | omega))))); all_goals (apply ol_val; exact rfl; apply stp_pur; first | (apply s_pick_t; exact rfl; (first | exact rfl | assumption); exact rfl) | (apply s_pick_f; exact rfl; (first | exact rfl | assumption); exact rfl)); all_goals (apply ol_as; exact rfl; exact rfl); all_goals (apply ol_nil))
          | (apply cw_cond_true; exact rfl; (first | exact rfl | assumption))
          | (apply cw_cond_false; exact rfl; (first | exact rfl | assumption))
          | apply cw_skip
          | apply cw_ret
          | apply cw_block
          | apply cw_exit
        all_goals (refine ends [] (RVal.tmp rfl RVal.nil) Pick.nil ?_; rfl)
    · rw [okH_0 h1 h2]
      repeat' first
        | apply cw_seq
        | (refine cw_region_id 0 ?_; (apply ol_val; exact rfl; first | (apply s_boxN; exact rfl; intro bk2) | (apply s_box1; exact rfl; exact rfl; intro bk2)); (apply ol_as; exact rfl; exact rfl); (apply ol_nil))
        | (refine cw_region_id 1 ?_; (apply ol_fa; exact rfl; exact rfl; exact fd_41_0; (first | exact Nat.zero_add _ | exact Nat.add_zero _ | exact rfl)); (apply ol_ld; exact rfl; exact rfl; exact rfl; (apply RdN.own; (focus ((repeat constructor); done)); (first | exact GetN.cons rfl GetN.nil | (apply getN_ints_app; (first | omega | (simp; omega) | (simp; done))) | (apply getN_ints; (first | omega | (simp; omega) | (simp; done)))))); (apply ol_nil))
        | (refine cw_region_id 2 ?_; (apply ol_val; exact rfl; apply stp_cmp; apply s_eql; exact rfl; exact rfl; all_goals (intro hc9; try (exfalso; (first | exact hc9 rfl | omega)))); all_goals (apply ol_as; exact rfl; exact rfl); all_goals (apply ol_nil))
        | (refine cw_region_id 4 ?_; (apply ol_val; exact rfl; apply stp_cmp; apply s_eql; exact rfl; exact rfl; all_goals (intro hc21; try (exfalso; (first | exact hc21 rfl | omega)))); all_goals (apply ol_as; exact rfl; exact rfl); all_goals (apply ol_nil))
        | (refine cw_region_id 6 ?_; (apply ol_val; exact rfl; apply stp_cmp; apply s_eql; exact rfl; exact rfl; all_goals (intro hc32; try (exfalso; (first | exact hc32 rfl | omega)))); all_goals (apply ol_as; exact rfl; exact rfl); all_goals (apply ol_nil))
        | (refine cw_region_id 7 ?_; (apply ol_fa; exact rfl; exact rfl; exact fd_41_1; (first | exact Nat.zero_add _ | exact Nat.add_zero _ | exact rfl)); (apply ol_ld; exact rfl; exact rfl; exact rfl; (apply RdN.own; (focus ((repeat constructor); done)); (first | exact GetN.cons rfl GetN.nil | (apply getN_ints_app; (first | omega | (simp; omega) | (simp; done))) | (apply getN_ints; (first | omega | (simp; omega) | (simp; done)))))); (apply ol_val; exact rfl; apply stp_cmp; apply s_neq; exact rfl; exact rfl; all_goals (intro hc35; try (exfalso; (first | exact hc35 rfl | omega)))); all_goals (apply ol_mv; exact rfl; exact rfl); all_goals (first | (apply ol_gskip; exact rfl; exact rfl; (first | exact rfl | assumption); exact rfl) | (apply ol_gval; exact rfl; exact rfl; exact rfl; (first | exact rfl | assumption); apply stp_pur; apply s_fieldAddr'; exact rfl; exact fd_41_2; (first | exact Nat.zero_add _ | exact Nat.add_zero _ | exact rfl))); all_goals (first | (apply ol_gskip; exact rfl; exact rfl; (first | exact rfl | assumption); exact rfl) | (apply ol_gval; exact rfl; exact rfl; exact rfl; (first | exact rfl | assumption); apply stp_pur; apply s_load1; exact rfl; exact rfl; (apply RdN.own; (focus ((repeat constructor); done)); exact GetN.cons rfl GetN.nil))); all_goals (first | (apply ol_gskip; exact rfl; exact rfl; (first | exact rfl | assumption); exact rfl) | (apply ol_gval; exact rfl; exact rfl; exact rfl; (first | exact rfl | assumption); apply stp_pur; apply s_len; exact rfl; exact el_38)); all_goals (first | (apply ol_gskip; exact rfl; exact rfl; (first | exact rfl | assumption); exact rfl) | (apply ol_gval; exact rfl; exact rfl; exact rfl; (first | exact rfl | assumption); apply stp_cmp; apply s_neq; exact rfl; exact rfl; all_goals (intro hc40; try (exfalso; (first | exact hc40 rfl | omega))))); all_goals (apply ol_val; exact rfl; apply stp_pur; first | (apply s_pick_t; exact rfl; (first | exact rfl | assumption); exact rfl) | (apply s_pick_f; exact rfl; (first | exact rfl | assumption); exact rfl)); all_goals (apply ol_mv; exact rfl; exact rfl); all_goals (first | (apply ol_gskip; exact rfl; exact rfl; (first | exact rfl | assumption); exact rfl) | (apply ol_gval; exact rfl; exact rfl; exact rfl; (first | exact rfl | assumption); apply stp_pur; apply s_fieldAddr'; exact rfl; exact fd_41_3; (first | exact Nat.zero_add _ | exact Nat.add_zero _ | exact rfl))); all_goals (first | (apply ol_gskip; exact rfl; exact rfl; (first | exact rfl | assumption); exact rfl) | (apply ol_gval; exact rfl; exact rfl; exact rfl; (first | exact rfl | assumption); apply stp_pur; apply s_load1; exact rfl; exact rfl; (apply RdN.own; (focus ((repeat constructor); done)); exact GetN.cons rfl GetN.nil))); all_goals (first | (apply ol_gskip; exact rfl; exact rfl; (first | exact rfl | assumption); exact rfl) | (apply ol_gval; exact rfl; exact rfl; exact rfl; (first | exact rfl | assumption); apply stp_pur; apply s_len; exact rfl; exact el_39)); all_goals (first | (apply ol_gskip; exact rfl; exact rfl; (first | exact rfl | assumption); exact rfl) | (apply ol_gval; exact rfl; exact rfl; exact rfl; (first | exact rfl | assumption); apply stp_cmp; apply s_gtr; exact rfl; exact rfl; all_goals (intro hc46; try (exfalso; (first | exact hc46 rfl | omega))))); all_goals (apply ol_val; exact rfl; apply stp_pur; first | (apply s_pick_t; exact rfl; (first | exact rfl | assumption); exact rfl) | (apply s_pick_f; exact rfl; (first | exact rfl | assumption); exact rfl)); all_goals (apply ol_mv; exact rfl; exact rfl); all_goals (first | (apply ol_gskip; exact rfl; exact rfl; (first | exact rfl | assumption); exact rfl) | (apply ol_gval; exact rfl; exact rfl; exact rfl; (first | exact rfl | assumption); apply stp_pur; apply s_move; exact rfl)); all_goals (first | (apply ol_gskip; exact rfl; exact rfl; (first | exact rfl | assumption); exact rfl) | (apply ol_gval; exact rfl; exact rfl; exact rfl; (first | exact rfl | assumption); apply stp_cmp; apply s_eql; exact rfl; exact rfl; all_goals (intro hc50; try (exfalso; (first | exact hc50 rfl | omega))))); all_goals (apply ol_val; exact rfl; apply stp_pur; first | (apply s_pick_t; exact rfl; (first | exact rfl | assumption); exact rfl) | (apply s_pick_f; exact rfl; (first | exact rfl | assumption); exact rfl)); all_goals (apply ol_nil))
        | (refine cw_region_id 8 ?_; (apply ol_as; exact rfl; exact rfl); (apply ol_nil))
        | (refine cw_region_id 15 ?_; (apply ol_as; exact rfl; exact rfl); (apply ol_nil))
        | (apply cw_cond_true; exact rfl; (first | exact rfl | assumption))
        | (apply cw_cond_false; exact rfl; (first | exact rfl | assumption))
        | apply cw_skip
        | apply cw_ret
        | apply cw_block
        | apply cw_exit
      all_goals (refine ends [] (RVal.tmp rfl RVal.nil) Pick.nil ?_; rfl)
theorem rvalid_spec : ∀ (d : Nat), d ≤ 8 → ∀ {M : View} {w : World}, View.le M (View.of w) → ∀ {x : It d}, ItV M d x →
    FnC Tryd.prog 49 [.agg x.enc.toArray, .int .i64 (8 - (d : Int))] w (fun v _ => v = .bool (okI d x)) := by
  intro d
  induction d with
  | zero =>
    intro hd M w hM x hx
    rw [okI_leaf (.inr rfl)]
    exact rvalid_leaf hM hd hx.head (.inr rfl)
  | succ d ih =>
    intro hd M w hM x hx
    by_cases h3 : x.hd.k = 3
    · obtain ⟨h, L⟩ := x
      obtain ⟨hv, hl, sL, hL⟩ := hx
      have h3' : h.k = 3 := h3
      have e : okI (d + 1) (h, L) = (decide (h.n = 0 ∧ h.B.xs.length = 0 ∧ h.m ≤ 1000) && L.all (okI d)) := by
        show (if h.k = 3 then decide (h.n = 0 ∧ h.B.xs.length = 0 ∧ h.m ≤ 1000) && L.all (okI d) else okH h) = _
        rw [if_pos h3']
      rw [e]
      have hxe : It.enc (d := d + 1) (h, L) = [.int .i64 h.k, .int .i64 h.n, .slice h.B.a h.B.xs.length h.B.c, .slice h.La h.m h.Lc] := rfl
      rw [hxe]
      clear hxe e h3
      obtain ⟨k, n, ⟨xs, Ba, Bb, Bo, Bc⟩, La, Lb, Lo, Lc, m⟩ := h
      dsimp only at hv hl sL h3' ⊢
      subst h3'
      have hm4 := hv.2.2.2
      dsimp only at hm4
      have hd8 : (8 - ((d + 1 : Nat) : Int)) + 1 = 8 - ((d : Nat) : Int) := by omega
      generalize hdd : (8 - ((d + 1 : Nat) : Int)) = dd at *
      refine enterF (M := M) Tryd.func49 rfl rfl rfl rfl hM ?_
      by_cases hc : n = 0 ∧ xs.length = 0 ∧ m ≤ 1000
      · rw [decide_eq_true hc, Bool.true_and]
        repeat' first
          | apply cw_seq
          | (refine cw_region_id 0 ?_; (apply ol_val; exact rfl; first | (apply s_boxN; exact rfl; intro bk2) | (apply s_box1; exact rfl; exact rfl; intro bk2)); (apply ol_as; exact rfl; exact rfl); (apply ol_nil))
          | (refine cw_region_id 1 ?_; (apply ol_fa; exact rfl; exact rfl; exact fd_41_0; (first | exact Nat.zero_add _ | exact Nat.add_zero _ | exact rfl)); (apply ol_ld; exact rfl; exact rfl; exact rfl; (apply RdN.own; (focus ((repeat constructor); done)); (first | exact GetN.cons rfl GetN.nil | (apply getN_ints_app; (first | omega | (simp; omega) | (simp; done))) | (apply getN_ints; (first | omega | (simp; omega) | (simp; done)))))); (apply ol_nil))
          | (refine cw_region_id 2 ?_; (apply ol_val; exact rfl; apply stp_cmp; apply s_eql; exact rfl; exact rfl; all_goals (intro hc9; try (exfalso; (first | exact hc9 rfl | omega)))); all_goals (apply ol_as; exact rfl; exact rfl); all_goals (apply ol_nil))
          | (refine cw_region_id 4 ?_; (apply ol_val; exact rfl; apply stp_cmp; apply s_eql; exact rfl; exact rfl; all_goals (intro hc21; try (exfalso; (first | exact hc21 rfl | omega)))); all_goals (apply ol_as; exact rfl; exact rfl); all_goals (apply ol_nil))
          | (refine cw_region_id 6 ?_; (apply ol_val; exact rfl; apply stp_cmp; apply s_eql; exact rfl; exact rfl; all_goals (intro hc32; try (exfalso; (first | exact hc32 rfl | omega)))); all_goals (apply ol_as; exact rfl; exact rfl); all_goals (apply ol_nil))
          | (refine cw_region_id 7 ?_; (apply ol_fa; exact rfl; exact rfl; exact fd_41_1; (first | exact Nat.zero_add _ | exact Nat.add_zero _ | exact rfl)); (apply ol_ld; exact rfl; exact rfl; exact rfl; (apply RdN.own; (focus ((repeat constructor); done)); (first | exact GetN.cons rfl GetN.nil | (apply getN_ints_app; (first | omega | (simp; omega) | (simp; done))) | (apply getN_ints; (first | omega | (simp; omega) | (simp; done)))))); (apply ol_val; exact rfl; apply stp_cmp; apply s_neq; exact rfl; exact rfl; all_goals (intro hc35; try (exfalso; (first | exact hc35 rfl | omega)))); all_goals (apply ol_mv; exact rfl; exact rfl); all_goals (first | (apply ol_gskip; exact rfl; exact rfl; (first | exact rfl | assumption); exact rfl) | (apply ol_gval; exact rfl; exact rfl; exact rfl; (first | exact rfl | assumption); apply stp_pur; apply s_fieldAddr'; exact rfl; exact fd_41_2; (first | exact Nat.zero_add _ | exact Nat.add_zero _ | exact rfl))); all_goals (first | (apply ol_gskip; exact rfl; exact rfl; (first | exact rfl | assumption); exact rfl) | (apply ol_gval; exact rfl; exact rfl; exact rfl; (first | exact rfl | assumption); apply stp_pur; apply s_load1; exact rfl; exact rfl; (apply RdN.own; (focus ((repeat constructor); done)); exact GetN.cons rfl GetN.nil))); all_goals (first | (apply ol_gskip; exact rfl; exact rfl; (first | exact rfl | assumption); exact rfl) | (apply ol_gval; exact rfl; exact rfl; exact rfl; (first | exact rfl | assumption); apply stp_pur; apply s_len; exact rfl; exact el_38)); all_goals (first | (apply ol_gskip; exact rfl; exact rfl; (first | exact rfl | assumption); exact rfl) | (apply ol_gval; exact rfl; exact rfl; exact rfl; (first | exact rfl | assumption); apply stp_cmp; apply s_neq; exact rfl; exact rfl; all_goals (intro hc40; try (exfalso; (first | exact hc40 rfl | omega))))); all_goals (apply ol_val; exact rfl; apply stp_pur; first | (apply s_pick_t; exact rfl; (first | exact rfl | assumption); exact rfl) | (apply s_pick_f; exact rfl; (first | exact rfl | assumption); exact rfl)); all_goals (apply ol_mv; exact rfl; exact rfl); all_goals (first | (apply ol_gskip; exact rfl; exact rfl; (first | exact rfl | assumption); exact rfl) | (apply ol_gval; exact rfl; exact rfl; exact rfl; (first | exact rfl | assumption); apply stp_pur; apply s_fieldAddr'; exact rfl; exact fd_41_3; (first | exact Nat.zero_add _ | exact Nat.add_zero _ | exact rfl))); all_goals (first | (apply ol_gskip; exact rfl; exact rfl; (first | exact rfl | assumption); exact rfl) | (apply ol_gval; exact rfl; exact rfl; exact rfl; (first | exact rfl | assumption); apply stp_pur; apply s_load1; exact rfl; exact rfl; (apply RdN.own; (focus ((repeat constructor); done)); exact GetN.cons rfl GetN.nil))); all_goals (first | (apply ol_gskip; exact rfl; exact rfl; (first | exact rfl | assumption); exact rfl) | (apply ol_gval; exact rfl; exact rfl; exact rfl; (first | exact rfl | assumption); apply stp_pur; apply s_len; exact rfl; exact el_39)); all_goals (first | (apply ol_gskip; exact rfl; exact rfl; (first | exact rfl | assumption); exact rfl) | (apply ol_gval; exact rfl; exact rfl; exact rfl; (first | exact rfl | assumption); apply stp_cmp; apply s_gtr; exact rfl; exact rfl; all_goals (intro hc46; try (exfalso; (first | exact hc46 rfl | omega))))); all_goals (apply ol_val; exact rfl; apply stp_pur; first | (apply s_pick_t; exact rfl; (first | exact rfl | assumption); exact rfl) | (apply s_pick_f; exact rfl; (first | exact rfl | assumption); exact rfl)); all_goals (apply ol_mv; exact rfl; exact rfl); all_goals (first | (apply ol_gskip; exact rfl; exact rfl; (first | exact rfl | assumption); exact rfl) | (apply ol_gval; exact rfl; exact rfl; exact rfl; (first | exact rfl | assumption); apply stp_pur; apply s_move; exact rfl)); all_goals (first | (apply ol_gskip; exact rfl; exact rfl; (first | exact rfl | assumption); exact rfl) | (apply ol_gval; exact rfl; exact rfl; exact rfl; (first | exact rfl | assumption); apply stp_cmp; apply s_eql; exact rfl; exact rfl; all_goals (intro hc50; try (exfalso; (first | exact hc50 rfl | omega))))); all_goals (apply ol_val; exact rfl; apply stp_pur; first | (apply s_pick_t; exact rfl; (first | exact rfl | assumption); exact rfl) | (apply s_pick_f; exact rfl; (first | exact rfl | assumption); exact rfl)); all_goals (apply ol_nil))
          | (refine cw_region_id 9 ?_; (apply ol_as; exact rfl; exact rfl); (apply ol_nil))
          | (apply cw_cond_true; exact rfl; (first | exact rfl | assumption))
          | (apply cw_cond_false; exact rfl; (first | exact rfl | assumption))
          | apply cw_skip
          | apply cw_ret
          | apply cw_block
          | apply cw_exit
        refine cw_loopK (σ := Nat) [1, 2] (by (repeat (first | exact Keep.nil | (apply Keep.cons; exact rfl)))) (fun i => [(5, .int .i64 i)]) (fun _ => M) (fun _ => [⟨some bk2, [.int .i64 3, .int .i64 n, .slice Ba xs.length Bc, .slice La m Lc], 41⟩]) (fun i => i ≤ m ∧ (L.take i).all (okI d) = true) (fun i => m - i) 0 (by (repeat (first | exact trivial | refine And.intro rfl ?_))) (View.le.refl _) (by (repeat (first | exact Pick.nil | (apply Pick.cons; (focus ((repeat (first | exact Spl.here | apply Spl.there)); done))) | exact Pick.refl | exact Pick.skip1 | exact Pick.skip2))) ⟨Nat.zero_le _, rfl⟩ ?_
        rintro i ⟨hi, hall⟩
        by_cases him : i < m
        · have hil : i < L.length := by omega
          have hci := sL.cells i hil
          have ihx := fun (w' : World) (h : View.le M (View.of w')) => ih (by omega) h (hL _ (List.getElem_mem hil))
          have htk := List.take_succ_eq_append_getElem hil
          rw [← hd8] at ihx
          cases hr : okI d (L[i]'hil) with
          | true =>
            rw [hr] at ihx
            have hnext : (L.take (i + 1)).all (okI d) = true := by rw [htk, List.all_append, hall]; simp [hr]
            clear hr htk hL
            generalize L[i]'hil = y at *
            unfold It.enc at hci ihx
            repeat' first
              | apply cw_seq
              | (refine cw_region_id 10 ?_; (apply ol_mv; exact rfl; exact rfl); (apply ol_fa; exact rfl; exact rfl; exact fd_41_3; (first | exact Nat.zero_add _ | exact Nat.add_zero _ | exact rfl)); (apply ol_ld; exact rfl; exact rfl; exact rfl; (first | (apply RdN.own; (focus ((repeat constructor); done)); exact GetN.cons rfl GetN.nil) | (apply RdN.view; exact hci))); (apply ol_val; exact rfl; apply stp_pur; apply s_len; exact rfl; exact el_39); (apply ol_val; exact rfl; apply stp_cmp; apply s_lss; exact rfl; exact rfl; all_goals (intro hc56; try (exfalso; (first | exact hc56 rfl | omega)))); all_goals (apply ol_nil))
              | (refine cw_region_id 12 ?_; (apply ol_fa; exact rfl; exact rfl; exact fd_41_3; (first | exact Nat.zero_add _ | exact Nat.add_zero _ | exact rfl)); (apply ol_ld; exact rfl; exact rfl; exact rfl; (first | (apply RdN.own; (focus ((repeat constructor); done)); exact GetN.cons rfl GetN.nil) | (apply RdN.view; exact hci))); (apply ol_mv; exact rfl; exact rfl); (apply ol_val; exact rfl; apply stp_pur; first | (apply s_indexK; exact rfl; exact rfl; exact el_39; exact sz_41; (first | exact rfl | exact sL.at_ (by omega)); omega) | (apply s_indexO; exact rfl; exact rfl; exact el_39; exact sz_41; (first | exact rfl | exact sL.at_ (by omega)); omega)); (apply ol_ldN; exact rfl; exact rfl; exact rfl; exact sz_41; (first | (apply RdN.own; (focus ((repeat constructor); done)); (focus ((repeat (first | exact rfl | constructor)); done))) | (apply RdN.view; exact hci))); (apply ol_mv; exact rfl; exact rfl); (apply ol_val; exact rfl; apply stp_pur; apply s_add64; exact rfl; exact rfl; omega); (apply ol_val; exact rfl; apply s_callv; exact rfl; exact gf_49; (intro w' hw'; exact ihx w' hw'.le)); (apply ol_val; exact rfl; apply stp_pur; first | (apply s_not_t; exact rfl; (first | exact rfl | assumption)) | (apply s_not_f; exact rfl; (first | exact rfl | assumption)) | (apply s_not; exact rfl)); (apply ol_nil))
              | (refine cw_region_id 11 ?_; (apply ol_mv; exact rfl; exact rfl); (apply ol_val; exact rfl; apply stp_pur; apply s_add64; exact rfl; exact rfl; omega); (apply ol_as; exact rfl; exact rfl); (apply ol_nil))
              | (apply cw_cond_true; exact rfl; (first | exact rfl | assumption))
              | (apply cw_cond_false; exact rfl; (first | exact rfl | assumption))
              | apply cw_skip
              | apply cw_ret
              | apply cw_block
              | apply cw_exit
            exact ⟨i + 1, ⟨by (repeat (first | exact trivial | refine And.intro rfl ?_)), View.le.refl _, by (repeat (first | exact Pick.nil | (apply Pick.cons; (focus ((repeat (first | exact Spl.here | apply Spl.there)); done))) | exact Pick.refl | exact Pick.skip1 | exact Pick.skip2)), ⟨him, hnext⟩, by omega⟩⟩
          | false =>
            rw [hr] at ihx
            have hf : L.all (okI d) = false := by
              rw [List.all_eq_false]
              exact ⟨_, List.getElem_mem hil, by simp [hr]⟩
            rw [hf]
            clear hr htk hL
            generalize L[i]'hil = y at *
            unfold It.enc at hci ihx
            repeat' first
              | apply cw_seq
              | (refine cw_region_id 10 ?_; (apply ol_mv; exact rfl; exact rfl); (apply ol_fa; exact rfl; exact rfl; exact fd_41_3; (first | exact Nat.zero_add _ | exact Nat.add_zero _ | exact rfl)); (apply ol_ld; exact rfl; exact rfl; exact rfl; (first | (apply RdN.own; (focus ((repeat constructor); done)); exact GetN.cons rfl GetN.nil) | (apply RdN.view; exact hci))); (apply ol_val; exact rfl; apply stp_pur; apply s_len; exact rfl; exact el_39); (apply ol_val; exact rfl; apply stp_cmp; apply s_lss; exact rfl; exact rfl; all_goals (intro hc56; try (exfalso; (first | exact hc56 rfl | omega)))); all_goals (apply ol_nil))
              | (refine cw_region_id 12 ?_; (apply ol_fa; exact rfl; exact rfl; exact fd_41_3; (first | exact Nat.zero_add _ | exact Nat.add_zero _ | exact rfl)); (apply ol_ld; exact rfl; exact rfl; exact rfl; (first | (apply RdN.own; (focus ((repeat constructor); done)); exact GetN.cons rfl GetN.nil) | (apply RdN.view; exact hci))); (apply ol_mv; exact rfl; exact rfl); (apply ol_val; exact rfl; apply stp_pur; first | (apply s_indexK; exact rfl; exact rfl; exact el_39; exact sz_41; (first | exact rfl | exact sL.at_ (by omega)); omega) | (apply s_indexO; exact rfl; exact rfl; exact el_39; exact sz_41; (first | exact rfl | exact sL.at_ (by omega)); omega)); (apply ol_ldN; exact rfl; exact rfl; exact rfl; exact sz_41; (first | (apply RdN.own; (focus ((repeat constructor); done)); (focus ((repeat (first | exact rfl | constructor)); done))) | (apply RdN.view; exact hci))); (apply ol_mv; exact rfl; exact rfl); (apply ol_val; exact rfl; apply stp_pur; apply s_add64; exact rfl; exact rfl; omega); (apply ol_val; exact rfl; apply s_callv; exact rfl; exact gf_49; (intro w' hw'; exact ihx w' hw'.le)); (apply ol_val; exact rfl; apply stp_pur; first | (apply s_not_t; exact rfl; (first | exact rfl | assumption)) | (apply s_not_f; exact rfl; (first | exact rfl | assumption)) | (apply s_not; exact rfl)); (apply ol_nil))
              | (refine cw_region_id 13 ?_; (apply ol_as; exact rfl; exact rfl); (apply ol_nil))
              | (apply cw_cond_true; exact rfl; (first | exact rfl | assumption))
              | (apply cw_cond_false; exact rfl; (first | exact rfl | assumption))
              | apply cw_skip
              | apply cw_ret
              | apply cw_block
              | apply cw_exit
            refine ends [] (RVal.tmp rfl RVal.nil) Pick.nil ?_
            rfl
        · have hf : L.all (okI d) = true := by rw [List.take_of_length_le (by omega)] at hall; exact hall
          rw [hf]
          repeat' first
            | apply cw_seq
            | (refine cw_region_id 10 ?_; (apply ol_mv; exact rfl; exact rfl); (apply ol_fa; exact rfl; exact rfl; exact fd_41_3; (first | exact Nat.zero_add _ | exact Nat.add_zero _ | exact rfl)); (apply ol_ld; exact rfl; exact rfl; exact rfl; (apply RdN.own; (focus ((repeat constructor); done)); exact GetN.cons rfl GetN.nil)); (apply ol_val; exact rfl; apply stp_pur; apply s_len; exact rfl; exact el_39); (apply ol_val; exact rfl; apply stp_cmp; apply s_lss; exact rfl; exact rfl; all_goals (intro hc56; try (exfalso; (first | exact hc56 rfl | omega)))); all_goals (apply ol_nil))
            | (refine cw_region_id 14 ?_; (apply ol_as; exact rfl; exact rfl); (apply ol_nil))
            | (apply cw_cond_true; exact rfl; (first | exact rfl | assumption))
            | (apply cw_cond_false; exact rfl; (first | exact rfl | assumption))
            | apply cw_skip
            | apply cw_ret
            | apply cw_block
            | apply cw_exit
          refine ends [] (RVal.tmp rfl RVal.nil) Pick.nil ?_
          rfl
      · rw [decide_eq_false hc, Bool.false_and]
        repeat' first
          | apply cw_seq
          | (refine cw_region_id 0 ?_; (apply ol_val; exact rfl; first | (apply s_boxN; exact rfl; intro bk2) | (apply s_box1; exact rfl; exact rfl; intro bk2)); (apply ol_as; exact rfl; exact rfl); (apply ol_nil))
          | (refine cw_region_id 1 ?_; (apply ol_fa; exact rfl; exact rfl; exact fd_41_0; (first | exact Nat.zero_add _ | exact Nat.add_zero _ | exact rfl)); (apply ol_ld; exact rfl; exact rfl; exact rfl; (apply RdN.own; (focus ((repeat constructor); done)); (first | exact GetN.cons rfl GetN.nil | (apply getN_ints_app; (first | omega | (simp; omega) | (simp; done))) | (apply getN_ints; (first | omega | (simp; omega) | (simp; done)))))); (apply ol_nil))
          | (refine cw_region_id 2 ?_; (apply ol_val; exact rfl; apply stp_cmp; apply s_eql; exact rfl; exact rfl; all_goals (intro hc9; try (exfalso; (first | exact hc9 rfl | omega)))); all_goals (apply ol_as; exact rfl; exact rfl); all_goals (apply ol_nil))
          | (refine cw_region_id 4 ?_; (apply ol_val; exact rfl; apply stp_cmp; apply s_eql; exact rfl; exact rfl; all_goals (intro hc21; try (exfalso; (first | exact hc21 rfl | omega)))); all_goals (apply ol_as; exact rfl; exact rfl); all_goals (apply ol_nil))
          | (refine cw_region_id 6 ?_; (apply ol_val; exact rfl; apply stp_cmp; apply s_eql; exact rfl; exact rfl; all_goals (intro hc32; try (exfalso; (first | exact hc32 rfl | omega)))); all_goals (apply ol_as; exact rfl; exact rfl); all_goals (apply ol_nil))
          | (refine cw_region_id 7 ?_; (apply ol_fa; exact rfl; exact rfl; exact fd_41_1; (first | exact Nat.zero_add _ | exact Nat.add_zero _ | exact rfl)); (apply ol_ld; exact rfl; exact rfl; exact rfl; (apply RdN.own; (focus ((repeat constructor); done)); (first | exact GetN.cons rfl GetN.nil | (apply getN_ints_app; (first | omega | (simp; omega) | (simp; done))) | (apply getN_ints; (first | omega | (simp; omega) | (simp; done)))))); (apply ol_val; exact rfl; apply stp_cmp; apply s_neq; exact rfl; exact rfl; all_goals (intro hc35; try (exfalso; (first | exact hc35 rfl | omega)))); all_goals (apply ol_mv; exact rfl; exact rfl); all_goals (first | (apply ol_gskip; exact rfl; exact rfl; (first | exact rfl | assumption); exact rfl) | (apply ol_gval; exact rfl; exact rfl; exact rfl; (first | exact rfl | assumption); apply stp_pur; apply s_fieldAddr'; exact rfl; exact fd_41_2; (first | exact Nat.zero_add _ | exact Nat.add_zero _ | exact rfl))); all_goals (first | (apply ol_gskip; exact rfl; exact rfl; (first | exact rfl | assumption); exact rfl) | (apply ol_gval; exact rfl; exact rfl; exact rfl; (first | exact rfl | assumption); apply stp_pur; apply s_load1; exact rfl; exact rfl; (apply RdN.own; (focus ((repeat constructor); done)); exact GetN.cons rfl GetN.nil))); all_goals (first | (apply ol_gskip; exact rfl; exact rfl; (first | exact rfl | assumption); exact rfl) | (apply ol_gval; exact rfl; exact rfl; exact rfl; (first | exact rfl | assumption); apply stp_pur; apply s_len; exact rfl; exact el_38)); all_goals (first | (apply ol_gskip; exact rfl; exact rfl; (first | exact rfl | assumption); exact rfl) | (apply ol_gval; exact rfl; exact rfl; exact rfl; (first | exact rfl | assumption); apply stp_cmp; apply s_neq; exact rfl; exact rfl; all_goals (intro hc40; try (exfalso; (first | exact hc40 rfl | omega))))); all_goals (apply ol_val; exact rfl; apply stp_pur; first | (apply s_pick_t; exact rfl; (first | exact rfl | assumption); exact rfl) | (apply s_pick_f; exact rfl; (first | exact rfl | assumption); exact rfl)); all_goals (apply ol_mv; exact rfl; exact rfl); all_goals (first | (apply ol_gskip; exact rfl; exact rfl; (first | exact rfl | assumption); exact rfl) | (apply ol_gval; exact rfl; exact rfl; exact rfl; (first | exact rfl | assumption); apply stp_pur; apply s_fieldAddr'; exact rfl; exact fd_41_3; (first | exact Nat.zero_add _ | exact Nat.add_zero _ | exact rfl))); all_goals (first | (apply ol_gskip; exact rfl; exact rfl; (first | exact rfl | assumption); exact rfl) | (apply ol_gval; exact rfl; exact rfl; exact rfl; (first | exact rfl | assumption); apply stp_pur; apply s_load1; exact rfl; exact rfl; (apply RdN.own; (focus ((repeat constructor); done)); exact GetN.cons rfl GetN.nil))); all_goals (first | (apply ol_gskip; exact rfl; exact rfl; (first | exact rfl | assumption); exact rfl) | (apply ol_gval; exact rfl; exact rfl; exact rfl; (first | exact rfl | assumption); apply stp_pur; apply s_len; exact rfl; exact el_39)); all_goals (first | (apply ol_gskip; exact rfl; exact rfl; (first | exact rfl | assumption); exact rfl) | (apply ol_gval; exact rfl; exact rfl; exact rfl; (first | exact rfl | assumption); apply stp_cmp; apply s_gtr; exact rfl; exact rfl; all_goals (intro hc46; try (exfalso; (first | exact hc46 rfl | omega))))); all_goals (apply ol_val; exact rfl; apply stp_pur; first | (apply s_pick_t; exact rfl; (first | exact rfl | assumption); exact rfl) | (apply s_pick_f; exact rfl; (first | exact rfl | assumption); exact rfl)); all_goals (apply ol_mv; exact rfl; exact rfl); all_goals (first | (apply ol_gskip; exact rfl; exact rfl; (first | exact rfl | assumption); exact rfl) | (apply ol_gval; exact rfl; exact rfl; exact rfl; (first | exact rfl | assumption); apply stp_pur; apply s_move; exact rfl)); all_goals (first | (apply ol_gskip; exact rfl; exact rfl; (first | exact rfl | assumption); exact rfl) | (apply ol_gval; exact rfl; exact rfl; exact rfl; (first | exact rfl | assumption); apply stp_cmp; apply s_eql; exact rfl; exact rfl; all_goals (intro hc50; try (exfalso; (first | exact hc50 rfl | omega))))); all_goals (apply ol_val; exact rfl; apply stp_pur; first | (apply s_pick_t; exact rfl; (first | exact rfl | assumption); exact rfl) | (apply s_pick_f; exact rfl; (first | exact rfl | assumption); exact rfl)); all_goals (apply ol_nil))
          | (refine cw_region_id 8 ?_; (apply ol_as; exact rfl; exact rfl); (apply ol_nil))
          | (apply cw_cond_true; exact rfl; (first | exact rfl | assumption))
          | (apply cw_cond_false; exact rfl; (first | exact rfl | assumption))
          | apply cw_skip
          | apply cw_ret
          | apply cw_block
          | apply cw_exit
        all_goals (refine ends [] (RVal.tmp rfl RVal.nil) Pick.nil ?_; rfl)
    · rw [okI_leaf (.inl h3)]
      exact rvalid_leaf hM hd hx.head (.inl h3)
theorem rValid_spec {M : View} {w : World} (hM : View.le M (View.of w)) {x : It 8} (hx : ItV M 8 x) :
    FnC Tryd.prog 38 [.agg x.enc.toArray] w (fun v _ => v = .bool (okI 8 x)) := by
  have kw := fun (w' : World) (h : View.le M (View.of w')) => rvalid_spec 8 (Nat.le_refl _) h hx
  rw [show (8 : Int) - ((8 : Nat) : Int) = 0 by omega] at kw
  unfold It.enc at *
  generalize x.hd = h at *
  obtain ⟨k, n, ⟨xs, Ba, Bb, Bo, Bc⟩, La, Lb, Lo, Lc, m⟩ := h
  dsimp only at kw ⊢
  generalize okI 8 x = r at *
  refine enterF (M := M) Tryd.func38 rfl rfl rfl rfl hM ?_
  repeat' first
    | apply cw_seq
    | (refine cw_region_id 0 ?_; (apply ol_val; exact rfl; first | (apply s_boxN; exact rfl; intro bk1) | (apply s_box1; exact rfl; exact rfl; intro bk1)); (apply ol_as; exact rfl; exact rfl); (apply ol_nil))
    | (refine cw_region_id 1 ?_; (apply ol_ldN; exact rfl; exact rfl; exact rfl; exact sz_41; (apply RdN.own; (focus ((repeat constructor); done)); (focus ((repeat (first | exact rfl | constructor)); done)))); (apply ol_val; exact rfl; apply s_callv; exact rfl; exact gf_49; (intro w' hw'; exact kw w' hw'.le)); (apply ol_as; exact rfl; exact rfl); (apply ol_nil))
    | (apply cw_cond_true; exact rfl; (first | exact rfl | assumption))
    | (apply cw_cond_false; exact rfl; (first | exact rfl | assumption))
    | apply cw_skip
    | apply cw_ret
    | apply cw_block
    | apply cw_exit
  refine ends [] (RVal.tmp rfl RVal.nil) Pick.nil ?_
  rfl
end Go.Proofs.YtkbbbflojebfgaaDoor

/-
  Numbers in bytes.
-/
namespace Go.Proofs.YtkbbbflojebfgaaDoor
set_option maxRecDepth 20000
set_option linter.unusedSimpArgs false
set_option linter.unusedVariables false
open Go Go.Fw
/-- The row in the middle of the reference's loop. -/
def bmid (s N i : Nat) : List Int := List.replicate (s - i) 0 ++ bI i N
theorem bmid_length {s N i : Nat} (h : i ≤ s) : (bmid s N i).length = s := by unfold bmid; rw [List.length_append, List.length_replicate, bI_length]; omega
theorem bmid_zero (s N : Nat) : bmid s N 0 = List.replicate s 0 := by unfold bmid; rw [bI_zero, List.append_nil, Nat.sub_zero]
theorem bmid_end (s N : Nat) : bmid s N s = bI s N := by unfold bmid; rw [Nat.sub_self]; rfl
theorem bmid_set {s N i : Nat} (h : i < s) : (bmid s N i).set (s - 1 - i) ((N / 256 ^ i % 256 : Nat) : Int) = bmid s N (i + 1) := by
  unfold bmid
  obtain ⟨m, hm⟩ : ∃ m, s - i = m + 1 := ⟨s - i - 1, by omega⟩
  rw [hm, show s - (i + 1) = m by omega, show s - 1 - i = m by omega, List.replicate_succ', List.append_assoc, List.set_append_right _ _ (by rw [List.length_replicate]; exact Nat.le_refl _), List.length_replicate, Nat.sub_self, bI_succ]
  rfl
theorem flat_zeros8 (k : Nat) : flat (eK .u8) (List.replicate k 0) ++ [] = List.replicate k (.int .u8 0) := by
  rw [List.append_nil, flatK_map, List.map_replicate]
theorem wrap8 (n : Nat) : IntKind.u8.wrap ((n : Nat) : Int) = ((n % 256 : Nat) : Int) := by rw [wrapU8]; exact (Int.natCast_emod n 256).symm
theorem shrB {N s j : Nat} (h : j < s) : ((N : Nat) : Int) / 2 ^ (8 * ((s : Int) - 1 - (j : Int))).toNat = ((N / 256 ^ (s - 1 - j) : Nat) : Int) := by
  have e : (8 * ((s : Int) - 1 - (j : Int))).toNat = 8 * (s - 1 - j) := by omega
  rw [e, ← pow8]
  simp
structure NSt where
  j : Nat
  r : Option Nat
  c : Nat
  sp : List Value
end Go.Proofs.YtkbbbflojebfgaaDoor
namespace Go.Proofs.YtkbbbflojebfgaaDoor
set_option maxRecDepth 20000
set_option linter.unusedSimpArgs false
set_option linter.unusedVariables false
open Go Go.Fw
attribute [local irreducible] CW OL OD FX Stp FnC FnV Ret bI bmid
set_option maxHeartbeats 800000
theorem number_step {ts : Array TypeId} {n : Nat} {wE : World} {mu : List Nat} {fm : FM} {M : View} {rest : List OB} {K : Value → View → List OB → Prop} {d : Option Nat} {ty : TypeId} {pos : String} {af : Array Edge} {g : Option (Nat × Bool)} {x y z : Operand} {r : Option Nat} {A : Option Addr} {cap m N size : Nat} {xs : List Int} {sp : List Value}
    (hx : ev fm x = some (.slice (base r A) m cap)) (hy : ev fm y = some (.int .u64 N)) (hz : ev fm z = some (.int .i64 size)) (so : SO r m cap (flat (eK .u8) xs) sp 1) (hm : m ≤ 1073741824) (hs : size ≤ 8)
    (hK : ∀ r' sp' cap', SO r' (m + size) cap' (flat (eK .u8) (xs ++ bI size N)) sp' 1 → K (.slice (base r' A) (m + size) cap') M (⟨r', flat (eK .u8) (xs ++ bI size N) ++ sp', 5⟩ :: rest)) :
    Stp ⟨Tryd.prog, n, wE, mu⟩ ⟨d, .call { callee := .value (.func 51), args := #[x, y, z], argTypes := ts }, ty, pos, af, g⟩ fm M (⟨r, flat (eK .u8) xs ++ sp, 5⟩ :: rest) K := by
  refine s_inline (xs := [x, y, z]) (vs := [.slice (base r A) m cap, .int .u64 N, .int .i64 size]) (by simp [evs, hx, hy, hz]) (by kernel_rfl) Tryd.func51 rfl rfl rfl rfl ?_
  repeat' first
    | apply cw_seq
    | (refine cw_region_id 0 ?_; (apply ol_as; exact rfl; exact rfl); (apply ol_nil))
    | (refine cw_region_id 1 ?_; (apply ol_mv; exact rfl; exact rfl); (apply ol_val; exact rfl; apply stp_pur; apply s_sub64; exact rfl; exact rfl; omega); (apply ol_as; exact rfl; exact rfl); (apply ol_nil))
    | (apply cw_cond_true; exact rfl; (first | exact rfl | assumption))
    | (apply cw_cond_false; exact rfl; (first | exact rfl | assumption))
    | apply cw_skip
    | apply cw_ret
    | apply cw_block
    | apply cw_exit
  refine cw_loopK (σ := NSt) [1] (by (repeat (first | exact Keep.nil | (apply Keep.cons; exact rfl)))) (fun s => [(0, .slice (base s.r A) (m + s.j) s.c), (7, .int .i64 ((size : Int) - 1 - (s.j : Int)))]) (fun _ => M) (fun s => ⟨s.r, flat (eK .u8) (xs ++ (bI size N).take s.j) ++ s.sp, 5⟩ :: rest) (fun s => s.j ≤ size ∧ SO s.r (m + s.j) s.c (flat (eK .u8) (xs ++ (bI size N).take s.j)) s.sp 1) (fun s => size - s.j) ⟨0, r, cap, sp⟩ (by dsimp only; rw [show (size : Int) - 1 - ((0 : Nat) : Int) = (size : Int) - 1 by omega]; (repeat (first | exact trivial | refine And.intro rfl ?_))) (View.le.refl _) (by dsimp only; rw [List.take_zero, List.append_nil]; (repeat (first | exact Pick.nil | (apply Pick.cons; (focus ((repeat (first | exact Spl.here | apply Spl.there)); done))) | exact Pick.refl | exact Pick.skip1 | exact Pick.skip2))) ⟨Nat.zero_le _, by dsimp only; rw [List.take_zero, List.append_nil]; exact so⟩ ?_
  rintro ⟨j, r1, c1, sp1⟩ ⟨hj, so1⟩
  dsimp only at hj so1
  dsimp only
  by_cases hjs : j < size
  · have htk := bI_take (N := N) hjs
    have hfl : flat (eK .u8) (xs ++ (bI size N).take (j + 1)) = flat (eK .u8) (xs ++ (bI size N).take j) ++ [.int .u8 ((N / 256 ^ (size - 1 - j) % 256 : Nat) : Int)] := by rw [htk, ← List.append_assoc, flat_append, flat_one]
    have hsr := shrB (N := N) hjs
    have hw := wrap8 (N / 256 ^ (size - 1 - j))
    generalize N / 256 ^ (size - 1 - j) = q at *
    generalize xs ++ (bI size N).take j = Y at *
    repeat' first
      | apply cw_seq
      | (refine cw_region_id 2 ?_; (apply ol_mv; exact rfl; exact rfl); (apply ol_val; exact rfl; apply stp_cmp; apply s_geq; exact rfl; exact rfl; all_goals (intro hc11; try (exfalso; (first | exact hc11 rfl | omega)))); all_goals (apply ol_nil))
      | (refine cw_region_id 4 ?_; (apply ol_mv; exact rfl; exact rfl); (apply ol_mv; exact rfl; exact rfl); (apply ol_mv; exact rfl; exact rfl); (apply ol_val; exact rfl; apply stp_pur; apply s_mul64; exact rfl; exact rfl; omega); (apply ol_val; exact rfl; apply stp_pur; apply s_shrE; exact rfl; exact rfl; (first | decide | omega | (simp [IntKind.bits]; omega) | (simp [IntKind.bits]; done)); exact hsr); (apply ol_val; exact rfl; apply stp_pur; first | (apply s_conv; exact rfl; exact rfl; exact ti_5; (focus (apply wrap_u8; omega))) | (apply s_conv; exact rfl; exact rfl; exact ti_5; exact hw) | (apply s_conv; exact rfl; exact rfl; exact ti_5; exact rfl)); (apply ol_val; exact rfl; apply s_buildSl; exact rfl; exact el_38; exact sz_5; exact zb_5; (focus ((repeat constructor); done)); exact rfl; exact rfl; (exact Nat.le_of_ble_eq_true rfl); (focus ((repeat constructor); done)); (focus ((repeat (first | exact rfl | constructor)); done)); intro bk20); (apply ol_val; exact rfl; first | (apply s_append_e; exact rfl; exact rfl; (focus ((repeat constructor); done)); exact el_38; exact sz_5; exact zb_5; exact rfl; exact by_5; (first | exact (fun _ => rfl)); (first | (apply RdN.own; (focus ((repeat constructor); done)); (focus ((repeat (first | exact rfl | constructor)); done)))); (first | exact rfl); (first | omega | (simp; omega) | (simp; done)); (first | omega | (simp; omega) | (simp; done)); intro rk21 sk21 ck21 ok21) | (apply s_append_r; exact rfl; exact rfl; (focus ((repeat constructor); done)); (first | exact rfl | exact (List.append_nil _).symm); exact el_38; exact sz_5; exact zb_5; exact rfl; exact by_5; (first | exact SO.nil _ | assumption | (exact ⟨by simp, by simp, Nat.le_refl _, by simp⟩)); (first | exact (fun _ => rfl)); (first | (apply RdN.own; (focus ((repeat constructor); done)); (focus ((repeat (first | exact rfl | constructor)); done)))); (first | exact rfl); (first | omega | (simp; omega) | (simp; done)); (first | omega | (simp; omega) | (simp; done)); intro rk21 sk21 ck21 ok21) | (apply s_append_b; exact rfl; exact rfl; (focus ((repeat constructor); done)); (first | exact rfl | exact (List.append_nil _).symm); exact el_38; exact sz_5; exact zb_5; exact rfl; exact by_5; (first | exact SO.nil _ | assumption | (exact ⟨by simp, by simp, Nat.le_refl _, by simp⟩)); (first | exact (fun _ => rfl)); (first | (apply RdN.own; (focus ((repeat constructor); done)); (focus ((repeat (first | exact rfl | constructor)); done)))); (first | exact rfl); (first | omega | (simp; omega) | (simp; done)); (first | omega | (simp; omega) | (simp; done)); intro rk21 sk21 ck21 ok21) | (apply s_append_n; exact rfl; exact rfl; (focus ((repeat constructor); done)); exact el_38; exact sz_5; exact zb_5; exact rfl; exact by_5; (first | exact (fun _ => rfl)); (first | (apply RdN.own; (focus ((repeat constructor); done)); (focus ((repeat (first | exact rfl | constructor)); done)))); (first | exact rfl); (first | omega | (simp; omega) | (simp; done)); (first | omega | (simp; omega) | (simp; done)); intro rk21 sk21 ck21 ok21)); (apply ol_as; exact rfl; exact rfl); (apply ol_nil))
      | (refine cw_region_id 3 ?_; (apply ol_mv; exact rfl; exact rfl); (apply ol_val; exact rfl; apply stp_pur; apply s_sub64; exact rfl; exact rfl; omega); (apply ol_as; exact rfl; exact rfl); (apply ol_nil))
      | (refine cw_region_id 5 ?_; (apply ol_mv; exact rfl; exact rfl); (apply ol_as; exact rfl; exact rfl); (apply ol_nil))
      | (apply cw_cond_true; exact rfl; (first | exact rfl | assumption))
      | (apply cw_cond_false; exact rfl; (first | exact rfl | assumption))
      | apply cw_skip
      | apply cw_ret
      | apply cw_block
      | apply cw_exit
    refine ⟨⟨j + 1, rk21, ck21, sk21⟩, ⟨?_, View.le.refl _, ?_, ⟨hjs, ?_⟩, by dsimp only; omega⟩⟩
    · dsimp only
      rw [show (size : Int) - 1 - ((j + 1 : Nat) : Int) = (size : Int) - 1 - (j : Int) - 1 by omega]
      (repeat (first | exact trivial | refine And.intro rfl ?_))
    · dsimp only
      rw [hfl]
      (repeat (first | exact Pick.nil | (apply Pick.cons; (focus ((repeat (first | exact Spl.here | apply Spl.there)); done))) | exact Pick.refl | exact Pick.skip1 | exact Pick.skip2))
    · dsimp only
      rw [hfl]
      exact ok21
  · obtain rfl : j = size := by omega
    have htk : (bI j N).take j = bI j N := List.take_of_length_le (by rw [bI_length]; exact Nat.le_refl _)
    rw [htk] at so1 ⊢
    repeat' first
      | apply cw_seq
      | (refine cw_region_id 2 ?_; (apply ol_mv; exact rfl; exact rfl); (apply ol_val; exact rfl; apply stp_cmp; apply s_geq; exact rfl; exact rfl; all_goals (intro hc11; try (exfalso; (first | exact hc11 rfl | omega)))); all_goals (apply ol_nil))
      | (refine cw_region_id 4 ?_; (apply ol_mv; exact rfl; exact rfl); (apply ol_mv; exact rfl; exact rfl); (apply ol_mv; exact rfl; exact rfl); (apply ol_val; exact rfl; apply stp_pur; apply s_mul64; exact rfl; exact rfl; omega); (apply ol_val; exact rfl; apply stp_pur; apply s_shr; exact rfl; exact rfl; (first | decide | omega | (simp [IntKind.bits]; omega) | (simp [IntKind.bits]; done))); (apply ol_val; exact rfl; apply stp_pur; first | (apply s_conv; exact rfl; exact rfl; exact ti_5; (focus (apply wrap_u8; omega))) | (apply s_conv; exact rfl; exact rfl; exact ti_5; exact rfl)); (apply ol_val; exact rfl; apply s_buildSl; exact rfl; exact el_38; exact sz_5; exact zb_5; (focus ((repeat constructor); done)); exact rfl; exact rfl; (exact Nat.le_of_ble_eq_true rfl); (focus ((repeat constructor); done)); (focus ((repeat (first | exact rfl | constructor)); done)); intro bk20); (apply ol_val; exact rfl; first | (apply s_append_e; exact rfl; exact rfl; (focus ((repeat constructor); done)); exact el_38; exact sz_5; exact zb_5; exact rfl; exact by_5; (first | exact (fun _ => rfl)); (first | (apply RdN.own; (focus ((repeat constructor); done)); (focus ((repeat (first | exact rfl | constructor)); done)))); (first | exact rfl); (first | omega | (simp; omega) | (simp; done)); (first | omega | (simp; omega) | (simp; done)); intro rk21 sk21 ck21 ok21) | (apply s_append_r; exact rfl; exact rfl; (focus ((repeat constructor); done)); (first | exact rfl | exact (List.append_nil _).symm); exact el_38; exact sz_5; exact zb_5; exact rfl; exact by_5; (first | exact SO.nil _ | assumption | (exact ⟨by simp, by simp, Nat.le_refl _, by simp⟩)); (first | exact (fun _ => rfl)); (first | (apply RdN.own; (focus ((repeat constructor); done)); (focus ((repeat (first | exact rfl | constructor)); done)))); (first | exact rfl); (first | omega | (simp; omega) | (simp; done)); (first | omega | (simp; omega) | (simp; done)); intro rk21 sk21 ck21 ok21) | (apply s_append_b; exact rfl; exact rfl; (focus ((repeat constructor); done)); (first | exact rfl | exact (List.append_nil _).symm); exact el_38; exact sz_5; exact zb_5; exact rfl; exact by_5; (first | exact SO.nil _ | assumption | (exact ⟨by simp, by simp, Nat.le_refl _, by simp⟩)); (first | exact (fun _ => rfl)); (first | (apply RdN.own; (focus ((repeat constructor); done)); (focus ((repeat (first | exact rfl | constructor)); done)))); (first | exact rfl); (first | omega | (simp; omega) | (simp; done)); (first | omega | (simp; omega) | (simp; done)); intro rk21 sk21 ck21 ok21) | (apply s_append_n; exact rfl; exact rfl; (focus ((repeat constructor); done)); exact el_38; exact sz_5; exact zb_5; exact rfl; exact by_5; (first | exact (fun _ => rfl)); (first | (apply RdN.own; (focus ((repeat constructor); done)); (focus ((repeat (first | exact rfl | constructor)); done)))); (first | exact rfl); (first | omega | (simp; omega) | (simp; done)); (first | omega | (simp; omega) | (simp; done)); intro rk21 sk21 ck21 ok21)); (apply ol_as; exact rfl; exact rfl); (apply ol_nil))
      | (refine cw_region_id 3 ?_; (apply ol_mv; exact rfl; exact rfl); (apply ol_val; exact rfl; apply stp_pur; apply s_sub64; exact rfl; exact rfl; omega); (apply ol_as; exact rfl; exact rfl); (apply ol_nil))
      | (refine cw_region_id 5 ?_; (apply ol_mv; exact rfl; exact rfl); (apply ol_as; exact rfl; exact rfl); (apply ol_nil))
      | (apply cw_cond_true; exact rfl; (first | exact rfl | assumption))
      | (apply cw_cond_false; exact rfl; (first | exact rfl | assumption))
      | apply cw_skip
      | apply cw_ret
      | apply cw_block
      | apply cw_exit
    exact endIS (RVal.tmp rfl RVal.nil) (List.Sublist.refl _) (hK r1 sp1 c1 so1)
theorem rnumberB_spec (w : World) {N size : Nat} (hN : N < 18446744073709551616) (hs : size ≤ 8) :
    FnC Tryd.prog 37 [.int .u64 N, .int .i64 size] w (RowRes (eK .u8) 1 5 (bI size N)) := by
  refine enterF (M := View.of w) Tryd.func37 rfl rfl rfl rfl (View.le.refl _) ?_
  repeat' first
    | apply cw_seq
    | (refine cw_region_id 0 ?_; (apply ol_as; exact rfl; exact rfl); (apply ol_nil))
    | (refine cw_region_id 1 ?_; (apply ol_mv; exact rfl; exact rfl); (apply ol_val; exact rfl; apply s_makeB; exact rfl; exact rfl; exact el_38; exact sz_5; exact zb_5; exact rfl; exact by_5; omega; omega; omega; intro bk8); (apply ol_as; exact rfl; exact rfl); (apply ol_nil))
    | (refine cw_region_id 2 ?_; (apply ol_mv; exact rfl; exact rfl); (apply ol_val; exact rfl; apply stp_pur; apply s_sub64; exact rfl; exact rfl; omega); (apply ol_as; exact rfl; exact rfl); (apply ol_nil))
    | (apply cw_cond_true; exact rfl; (first | exact rfl | assumption))
    | (apply cw_cond_false; exact rfl; (first | exact rfl | assumption))
    | apply cw_skip
    | apply cw_ret
    | apply cw_block
    | apply cw_exit
  refine cw_loopK (σ := Nat) [5] (by (repeat (first | exact Keep.nil | (apply Keep.cons; exact rfl)))) (fun j => [(0, .int .u64 (N / 256 ^ j : Nat)), (6, .int .i64 ((size : Int) - 1 - (j : Int)))]) (fun _ => View.of w) (fun j => [⟨some bk8, flat (eK .u8) (bmid size N j) ++ [], 5⟩]) (fun j => j ≤ size) (fun j => size - j) 0 (by rw [Nat.pow_zero, Nat.div_one, show (size : Int) - 1 - ((0 : Nat) : Int) = (size : Int) - 1 by omega]; (repeat (first | exact trivial | refine And.intro rfl ?_))) (View.le.refl _) (by rw [bmid_zero, flat_zeros8]; (repeat (first | exact Pick.nil | (apply Pick.cons; (focus ((repeat (first | exact Spl.here | apply Spl.there)); done))) | exact Pick.refl | exact Pick.skip1 | exact Pick.skip2))) (Nat.zero_le _) ?_
  intro j hj
  by_cases hjs : j < size
  · have hlen := bmid_length (N := N) (show j ≤ size by omega)
    have hset := bmid_set (N := N) hjs
    have hle : N / 256 ^ j ≤ N := Nat.div_le_self _ _
    have hd : ((N / 256 ^ j : Nat) : Int) / 256 = ((N / 256 ^ (j + 1) : Nat) : Int) := by
      rw [Nat.pow_succ, ← Nat.div_div_eq_div_mul]
      exact (Int.natCast_ediv (N / 256 ^ j) 256).symm
    have hr : ((N / 256 ^ j : Nat) : Int) % 256 = ((N / 256 ^ j % 256 : Nat) : Int) := (Int.natCast_emod (N / 256 ^ j) 256).symm
    have hlt : N / 256 ^ j % 256 < 256 := Nat.mod_lt _ (by decide)
    generalize N / 256 ^ j % 256 = e at *
    generalize hQ : N / 256 ^ j = q at *
    generalize hB : bmid size N j = B at *
    have hs2 : SetAt (flat (eK .u8) B ++ []) (0 + ((size : Int) - 1 - (j : Int)).toNat * 1) (.int .u8 ((e : Nat) : Int)) (flat (eK .u8) (bmid size N (j + 1)) ++ []) := by
      rw [show ((size : Int) - 1 - (j : Int)).toNat = size - 1 - j by omega]
      have := setAtK (k := .u8) (sp := []) (v := ((e : Nat) : Int)) (show size - 1 - j < B.length by omega)
      rwa [hset] at this
    repeat' first
      | apply cw_seq
      | (refine cw_region_id 3 ?_; (apply ol_mv; exact rfl; exact rfl); (apply ol_val; exact rfl; apply stp_cmp; apply s_geq; exact rfl; exact rfl; all_goals (intro hc12; try (exfalso; (first | exact hc12 rfl | omega)))); all_goals (apply ol_nil))
      | (refine cw_region_id 5 ?_; (apply ol_mv; exact rfl; exact rfl); (apply ol_mv; exact rfl; exact rfl); (apply ol_mv; exact rfl; exact rfl); (apply ol_val; exact rfl; apply stp_pur; apply s_remE; exact rfl; exact rfl; omega; exact hr); (apply ol_val; exact rfl; apply stp_pur; first | (apply s_conv; exact rfl; exact rfl; exact ti_5; (focus (apply wrap_u8; omega))) | (apply s_conv; exact rfl; exact rfl; exact ti_5; exact rfl)); (apply ol_val; exact rfl; apply stp_pur; first | (apply s_indexK; exact rfl; exact rfl; exact el_38; exact sz_5; (first | exact rfl); omega) | (apply s_indexO; exact rfl; exact rfl; exact el_38; exact sz_5; (first | exact rfl); omega)); (apply ol_eff; apply s_store1; exact rfl; exact rfl; exact sz_5; exact rfl; (focus ((repeat constructor); done)); (first | (focus ((repeat constructor); done)) | (apply setAt_ints_app; (first | omega | (simp; omega) | (simp; done))) | (apply setAt_ints; (first | omega | (simp; omega) | (simp; done))) | exact hs2 | (apply SetAt.set; (first | omega | (simp; omega) | (simp; done))))); (apply ol_nil))
      | (refine cw_region_id 6 ?_; (apply ol_mv; exact rfl; exact rfl); (apply ol_val; exact rfl; apply stp_pur; apply s_quoN; exact rfl; exact rfl; (first | omega | (dsimp only [highK]; omega))); (apply ol_as; exact rfl; exact rfl); (apply ol_nil))
      | (refine cw_region_id 4 ?_; (apply ol_mv; exact rfl; exact rfl); (apply ol_val; exact rfl; apply stp_pur; apply s_sub64; exact rfl; exact rfl; omega); (apply ol_as; exact rfl; exact rfl); (apply ol_nil))
      | (refine cw_region_id 7 ?_; (apply ol_mv; exact rfl; exact rfl); (apply ol_as; exact rfl; exact rfl); (apply ol_nil))
      | (apply cw_cond_true; exact rfl; (first | exact rfl | assumption))
      | (apply cw_cond_false; exact rfl; (first | exact rfl | assumption))
      | apply cw_skip
      | apply cw_ret
      | apply cw_block
      | apply cw_exit
    refine ⟨j + 1, ⟨?_, View.le.refl _, by (repeat (first | exact Pick.nil | (apply Pick.cons; (focus ((repeat (first | exact Spl.here | apply Spl.there)); done))) | exact Pick.refl | exact Pick.skip1 | exact Pick.skip2)), hjs, by omega⟩⟩
    rw [show (size : Int) - 1 - ((j + 1 : Nat) : Int) = (size : Int) - 1 - (j : Int) - 1 by omega, ← hd]
    (repeat (first | exact trivial | refine And.intro rfl ?_))
  · obtain rfl : j = size := by omega
    rw [bmid_end]
    repeat' first
      | apply cw_seq
      | (refine cw_region_id 3 ?_; (apply ol_mv; exact rfl; exact rfl); (apply ol_val; exact rfl; apply stp_cmp; apply s_geq; exact rfl; exact rfl; all_goals (intro hc12; try (exfalso; (first | exact hc12 rfl | omega)))); all_goals (apply ol_nil))
      | (refine cw_region_id 5 ?_; (apply ol_mv; exact rfl; exact rfl); (apply ol_mv; exact rfl; exact rfl); (apply ol_mv; exact rfl; exact rfl); (apply ol_val; exact rfl; apply stp_pur; first | (apply s_rem64; exact rfl; exact rfl; omega) | (apply s_remT; exact rfl; exact rfl; omega)); (apply ol_val; exact rfl; apply stp_pur; first | (apply s_conv; exact rfl; exact rfl; exact ti_5; (focus (apply wrap_u8; omega))) | (apply s_conv; exact rfl; exact rfl; exact ti_5; exact rfl)); (apply ol_val; exact rfl; apply stp_pur; first | (apply s_indexK; exact rfl; exact rfl; exact el_38; exact sz_5; (first | exact rfl); omega) | (apply s_indexO; exact rfl; exact rfl; exact el_38; exact sz_5; (first | exact rfl); omega)); (apply ol_eff; apply s_store1; exact rfl; exact rfl; exact sz_5; exact rfl; (focus ((repeat constructor); done)); (first | (focus ((repeat constructor); done)) | (apply setAt_ints_app; (first | omega | (simp; omega) | (simp; done))) | (apply setAt_ints; (first | omega | (simp; omega) | (simp; done))) | (apply SetAt.set; (first | omega | (simp; omega) | (simp; done))))); (apply ol_nil))
      | (refine cw_region_id 6 ?_; (apply ol_mv; exact rfl; exact rfl); (apply ol_val; exact rfl; apply stp_pur; apply s_quoN; exact rfl; exact rfl; (first | omega | (dsimp only [highK]; omega))); (apply ol_as; exact rfl; exact rfl); (apply ol_nil))
      | (refine cw_region_id 4 ?_; (apply ol_mv; exact rfl; exact rfl); (apply ol_val; exact rfl; apply stp_pur; apply s_sub64; exact rfl; exact rfl; omega); (apply ol_as; exact rfl; exact rfl); (apply ol_nil))
      | (refine cw_region_id 7 ?_; (apply ol_mv; exact rfl; exact rfl); (apply ol_as; exact rfl; exact rfl); (apply ol_nil))
      | (apply cw_cond_true; exact rfl; (first | exact rfl | assumption))
      | (apply cw_cond_false; exact rfl; (first | exact rfl | assumption))
      | apply cw_skip
      | apply cw_ret
      | apply cw_block
      | apply cw_exit
    refine ends [⟨some bk8, flat (eK .u8) (bI j N) ++ [], 5⟩] (RVal.tmp rfl RVal.nil) (by (repeat (first | exact Pick.nil | (apply Pick.cons; (focus ((repeat (first | exact Spl.here | apply Spl.there)); done))) | exact Pick.refl | exact Pick.skip1 | exact Pick.skip2))) ?_
    exact ⟨some bk8, none, j, [], by rw [bI_length]; rfl, rfl, ⟨by rw [flatK_length]; omega, by rw [flatK_length, bI_length, List.length_nil]; omega, by rw [bI_length]; exact Nat.le_refl _, fun h => by cases h⟩⟩
end Go.Proofs.YtkbbbflojebfgaaDoor

/-
  Items written: integers and bytes.
-/
namespace Go.Proofs.YtkbbbflojebfgaaDoor
set_option maxRecDepth 20000
set_option linter.unusedSimpArgs false
set_option linter.unusedVariables false
open Go Go.Fw
theorem _root_.Go.Fw.St.sep_ {wE : World} {mu : List Nat} {M : View} {own : List OB} {w : World} (hs : St wE mu M own w) {x : OB} (h : Has own x) : ∀ b, x.ref = some b → M b = none := fun b hb => (hs.sep _ h.mem b hb).1
theorem encI_leaf {d : Nat} {x : It d} (h3 : x.hd.k ≠ 3 ∨ d = 0) : encI d x = encH x.hd := by
  cases d with
  | zero => rfl
  | succ d =>
    have h : ¬ x.1.k = 3 := by rcases h3 with h | h; exact h; omega
    show (if x.1.k = 3 then _ else encH x.1) = _
    rw [if_neg h]
    rfl
/-- What is written behind some bytes: all, or too much. -/
def wrP (out e o : List Int) : Prop := (out.length + e.length ≤ 16384 → o = out ++ e) ∧ (16384 < out.length + e.length → 16384 < o.length)
theorem wrP.trans {a e1 b e2 c : List Int} (h : wrP a e1 b) (k : wrP b e2 c) : wrP a (e1 ++ e2) c := by
  refine ⟨fun hl => ?_, fun hl => ?_⟩
  · rw [List.length_append] at hl
    have hb := h.1 (by omega)
    subst hb
    rw [k.1 (by rw [List.length_append]; omega), List.append_assoc]
  · rw [List.length_append] at hl
    by_cases h1 : a.length + e1.length ≤ 16384
    · have hb := h.1 h1
      subst hb
      exact k.2 (by rw [List.length_append]; omega)
    · have := h.2 (by omega)
      exact k.2 (by omega)
theorem wrP.all (a e : List Int) : wrP a e (a ++ e) := ⟨fun _ => rfl, fun h => by rw [List.length_append]; exact h⟩
theorem wrP.long {a e : List Int} (h : 16384 < a.length) : wrP a e a := ⟨fun h2 => by omega, fun _ => h⟩
/-- The row that is handed back. -/
def WRA (A : Option Addr) (out e : List Int) (v : Value) (y : OB) : Prop :=
  ∃ r' cap' sp' o', wrP out e o' ∧ o'.length ≤ 2147483648 ∧ v = .slice (base r' A) o'.length cap' ∧ y = ⟨r', flat (eK .u8) o' ++ sp', 5⟩ ∧ SO r' o'.length cap' (flat (eK .u8) o') sp' 1
theorem encH_1 {h : Hd} (e : h.k = 1) : encH h = [1] ++ bI 8 (u64 h.n) := by unfold encH; rw [if_pos e]; rfl
theorem encH_2 {h : Hd} (e : h.k = 2) : encH h = ([2] ++ bI 4 h.B.xs.length) ++ h.B.xs := by unfold encH; rw [if_neg (by omega)]; rfl
end Go.Proofs.YtkbbbflojebfgaaDoor
namespace Go.Proofs.YtkbbbflojebfgaaDoor
set_option maxRecDepth 20000
set_option linter.unusedSimpArgs false
set_option linter.unusedVariables false
open Go Go.Fw
attribute [local irreducible] CW OL OD FX Stp FnC FnV FnA Ret bI bmid
set_option maxHeartbeats 1600000
theorem write_long {M : View} {w : World} (hM : View.le M (View.of w)) {d : Nat} {x : It d} {r : Option Nat} {A : Option Addr} {cap n : Nat} {out : List Int} {sp : List Value} (hr : ∀ b, r = some b → M b = none) (ho : OB.ok ⟨r, flat (eK .u8) out ++ sp, 5⟩ w) (so : SO r n cap (flat (eK .u8) out) sp 1) (hn : out.length = n) (hn2 : n ≤ 2147483648) (hl : 16384 < n) (e : List Int) :
    FnA Tryd.prog 41 [.slice (base r A) n cap, .agg x.enc.toArray] w ⟨r, flat (eK .u8) out ++ sp, 5⟩ (WRA A out e) := by
  unfold It.enc
  generalize x.hd = h at *
  obtain ⟨k, nn, ⟨xs, Ba, Bb, Bo, Bc⟩, La, Lb, Lo, Lc, m⟩ := h
  dsimp only
  refine enterA (M := M) Tryd.func41 rfl rfl rfl rfl hM ho hr ?_
  repeat' first
    | apply cw_seq
    | (refine cw_region_id 0 ?_; (apply ol_val; exact rfl; first | (apply s_boxN; exact rfl; intro bk3) | (apply s_box1; exact rfl; exact rfl; intro bk3)); (apply ol_as; exact rfl; exact rfl); (apply ol_nil))
    | (refine cw_region_id 1 ?_; (apply ol_mv; exact rfl; exact rfl); (apply ol_val; exact rfl; apply stp_pur; apply s_len; exact rfl; exact el_38); (apply ol_val; exact rfl; apply stp_cmp; apply s_gtr; exact rfl; exact rfl; all_goals (intro hc9; try (exfalso; (first | exact hc9 rfl | omega)))); all_goals (apply ol_nil))
    | (refine cw_region_id 2 ?_; (apply ol_mv; exact rfl; exact rfl); (apply ol_as; exact rfl; exact rfl); (apply ol_nil))
    | (apply cw_cond_true; exact rfl; (first | exact rfl | assumption))
    | (apply cw_cond_false; exact rfl; (first | exact rfl | assumption))
    | apply cw_skip
    | apply cw_ret
    | apply cw_block
    | apply cw_exit
  refine endsA ⟨r, flat (eK .u8) out ++ sp, 5⟩ (RVal.tmp rfl RVal.nil) (by (repeat (first | exact Pick.nil | (apply Pick.cons; (focus ((repeat (first | exact Spl.here | apply Spl.there)); done))) | exact Pick.refl | exact Pick.skip1 | exact Pick.skip2))) ?_
  exact ⟨r, cap, sp, out, wrP.long (by omega), by omega, by rw [hn]; rfl, rfl, by rw [hn]; exact so⟩
theorem write_leaf {M : View} {w : World} (hM : View.le M (View.of w)) {d : Nat} {x : It d} (hv : HdV M x.hd) (hk : okH x.hd = true) {r : Option Nat} {A : Option Addr} {cap n : Nat} {out : List Int} {sp : List Value} (hr : ∀ b, r = some b → M b = none) (ho : OB.ok ⟨r, flat (eK .u8) out ++ sp, 5⟩ w) (so : SO r n cap (flat (eK .u8) out) sp 1) (hn : out.length = n) (hn2 : n ≤ 16384) :
    FnA Tryd.prog 41 [.slice (base r A) n cap, .agg x.enc.toArray] w ⟨r, flat (eK .u8) out ++ sp, 5⟩ (WRA A out (encH x.hd)) := by
  have hkk : x.hd.k = 1 ∨ x.hd.k = 2 := by unfold okH at hk; simp at hk; rcases hk with h | h <;> simp [h.1]
  have e1 := encH_1 (h := x.hd)
  have e2 := encH_2 (h := x.hd)
  unfold It.enc
  generalize x.hd = h at *
  obtain ⟨k, nn, ⟨xs, Ba, Bb, Bo, Bc⟩, La, Lb, Lo, Lc, m⟩ := h
  dsimp only at hkk e1 e2 ⊢
  obtain ⟨hvB, hvb, hvl, _⟩ := hv
  dsimp only at hvB hvb hvl
  refine enterA (M := M) Tryd.func41 rfl rfl rfl rfl hM ho hr ?_
  rcases hkk with rfl | rfl
  · rw [e1 rfl]
    have hu := (u64_cast nn).symm
    have hf1 : flat (eK .u8) (out ++ [1]) = flat (eK .u8) out ++ [.int .u8 1] := by rw [flat_append, flat_one]
    have hl1 : (out ++ [1]).length = n + 1 := by rw [List.length_append, hn]; rfl
    have hl2 : (out ++ [1] ++ bI 8 (u64 nn)).length = n + 1 + 8 := by rw [List.length_append, hl1, bI_length]
    repeat' first
      | apply cw_seq
      | (refine cw_region_id 0 ?_; (apply ol_val; exact rfl; first | (apply s_boxN; exact rfl; intro bk3) | (apply s_box1; exact rfl; exact rfl; intro bk3)); (apply ol_as; exact rfl; exact rfl); (apply ol_nil))
      | (refine cw_region_id 1 ?_; (apply ol_mv; exact rfl; exact rfl); (apply ol_val; exact rfl; apply stp_pur; apply s_len; exact rfl; exact el_38); (apply ol_val; exact rfl; apply stp_cmp; apply s_gtr; exact rfl; exact rfl; all_goals (intro hc9; try (exfalso; (first | exact hc9 rfl | omega)))); all_goals (apply ol_nil))
      | (refine cw_region_id 3 ?_; (apply ol_mv; exact rfl; exact rfl); (apply ol_fa; exact rfl; exact rfl; exact fd_41_0; (first | exact Nat.zero_add _ | exact Nat.add_zero _ | exact rfl)); (apply ol_ld; exact rfl; exact rfl; exact rfl; (apply RdN.own; (focus ((repeat constructor); done)); (first | exact GetN.cons rfl GetN.nil | (apply getN_ints_app; (first | omega | (simp; omega) | (simp; done))) | (apply getN_ints; (first | omega | (simp; omega) | (simp; done)))))); (apply ol_val; exact rfl; apply stp_pur; first | (apply s_conv; exact rfl; exact rfl; exact ti_5; (focus (apply wrap_u8; omega))) | (apply s_conv; exact rfl; exact rfl; exact ti_5; exact rfl)); (apply ol_val; exact rfl; apply s_buildSl; exact rfl; exact el_38; exact sz_5; exact zb_5; (focus ((repeat constructor); done)); exact rfl; exact rfl; (exact Nat.le_of_ble_eq_true rfl); (focus ((repeat constructor); done)); (focus ((repeat (first | exact rfl | constructor)); done)); intro bk15); (apply ol_val; exact rfl; first | (apply s_append_e; exact rfl; exact rfl; (focus ((repeat constructor); done)); exact el_38; exact sz_5; exact zb_5; exact rfl; exact by_5; (first | exact (fun _ => rfl)); (first | (apply RdN.own; (focus ((repeat constructor); done)); (focus ((repeat (first | exact rfl | constructor)); done)))); (first | exact rfl); (first | omega | (simp; omega) | (simp; done)); (first | omega | (simp; omega) | (simp; done)); intro rk16 sk16 ck16 ok16) | (apply s_append_r; exact rfl; exact rfl; (focus ((repeat constructor); done)); (first | exact rfl | exact (List.append_nil _).symm); exact el_38; exact sz_5; exact zb_5; exact rfl; exact by_5; (first | exact SO.nil _ | assumption | (exact ⟨by simp, by simp, Nat.le_refl _, by simp⟩)); (first | exact (fun _ => rfl)); (first | (apply RdN.own; (focus ((repeat constructor); done)); (focus ((repeat (first | exact rfl | constructor)); done)))); (first | exact rfl); (first | omega | (simp; omega) | (simp; done)); (first | omega | (simp; omega) | (simp; done)); intro rk16 sk16 ck16 ok16) | (apply s_append_b; exact rfl; exact rfl; (focus ((repeat constructor); done)); (first | exact rfl | exact (List.append_nil _).symm); exact el_38; exact sz_5; exact zb_5; exact rfl; exact by_5; (first | exact SO.nil _ | assumption | (exact ⟨by simp, by simp, Nat.le_refl _, by simp⟩)); (first | exact (fun _ => rfl)); (first | (apply RdN.own; (focus ((repeat constructor); done)); (focus ((repeat (first | exact rfl | constructor)); done)))); (first | exact rfl); (first | omega | (simp; omega) | (simp; done)); (first | omega | (simp; omega) | (simp; done)); intro rk16 sk16 ck16 ok16) | (apply s_append_n; exact rfl; exact rfl; (focus ((repeat constructor); done)); exact el_38; exact sz_5; exact zb_5; exact rfl; exact by_5; (first | exact (fun _ => rfl)); (first | (apply RdN.own; (focus ((repeat constructor); done)); (focus ((repeat (first | exact rfl | constructor)); done)))); (first | exact rfl); (first | omega | (simp; omega) | (simp; done)); (first | omega | (simp; omega) | (simp; done)); intro rk16 sk16 ck16 ok16)); (apply ol_as; exact rfl; exact rfl); (apply ol_nil))
      | (refine cw_region_id 4 ?_; (apply ol_fa; exact rfl; exact rfl; exact fd_41_0; (first | exact Nat.zero_add _ | exact Nat.add_zero _ | exact rfl)); (apply ol_ld; exact rfl; exact rfl; exact rfl; (apply RdN.own; (focus ((repeat constructor); done)); (first | exact GetN.cons rfl GetN.nil | (apply getN_ints_app; (first | omega | (simp; omega) | (simp; done))) | (apply getN_ints; (first | omega | (simp; omega) | (simp; done)))))); (apply ol_nil))
      | (apply cw_cond_true; exact rfl; (first | exact rfl | assumption))
      | (apply cw_cond_false; exact rfl; (first | exact rfl | assumption))
      | apply cw_skip
      | apply cw_ret
      | apply cw_exit
    rw [← hf1] at ok16
    refine cw_pick (own' := [⟨rk16, flat (eK .u8) (out ++ [1]) ++ sk16, 5⟩, ⟨some bk3, [.int .i64 1, .int .i64 nn, .slice Ba xs.length Bc, .slice La m Lc], 41⟩]) (by rw [hf1]; (repeat (first | exact Pick.nil | (apply Pick.cons; (focus ((repeat (first | exact Spl.here | apply Spl.there)); done))) | exact Pick.refl | exact Pick.skip1 | exact Pick.skip2))) ?_
    repeat' first
      | apply cw_seq
      | (refine cw_region_id 5 ?_; (apply ol_val; exact rfl; apply stp_cmp; apply s_eql; exact rfl; exact rfl; all_goals (intro hc20; try (exfalso; (first | exact hc20 rfl | omega)))); all_goals (apply ol_as; exact rfl; exact rfl); all_goals (apply ol_nil))
      | (refine cw_region_id 6 ?_; (apply ol_mv; exact rfl; exact rfl); (apply ol_fa; exact rfl; exact rfl; exact fd_41_1; (first | exact Nat.zero_add _ | exact Nat.add_zero _ | exact rfl)); (apply ol_ld; exact rfl; exact rfl; exact rfl; (apply RdN.own; (focus ((repeat constructor); done)); (first | exact GetN.cons rfl GetN.nil | (apply getN_ints_app; (first | omega | (simp; omega) | (simp; done))) | (apply getN_ints; (first | omega | (simp; omega) | (simp; done)))))); (apply ol_val; exact rfl; apply stp_pur; first | (apply s_conv; exact rfl; exact rfl; exact ti_73; (focus (apply wrap_u64; omega))) | (apply s_conv; exact rfl; exact rfl; exact ti_73; exact hu) | (apply s_conv; exact rfl; exact rfl; exact ti_73; exact rfl)); (apply ol_val; exact rfl; (apply number_step (size := 8); exact rfl; exact rfl; exact rfl; exact ok16; omega; omega; intro r2 sp2 cap2 so2)); all_goals (apply ol_as; exact rfl; exact rfl); all_goals (apply ol_nil))
      | (apply cw_cond_true; exact rfl; (first | exact rfl | assumption))
      | (apply cw_cond_false; exact rfl; (first | exact rfl | assumption))
      | apply cw_skip
      | apply cw_ret
      | apply cw_block
      | apply cw_exit
    refine endsA ⟨r2, flat (eK .u8) (out ++ [1] ++ bI 8 (u64 nn)) ++ sp2, 5⟩ (RVal.tmp rfl RVal.nil) (by (repeat (first | exact Pick.nil | (apply Pick.cons; (focus ((repeat (first | exact Spl.here | apply Spl.there)); done))) | exact Pick.refl | exact Pick.skip1 | exact Pick.skip2))) ?_
    refine ⟨r2, cap2, sp2, out ++ [1] ++ bI 8 (u64 nn), by rw [List.append_assoc]; exact wrP.all _ _, by omega, by rw [hl2]; rfl, rfl, by rw [hl2]; exact so2⟩
  · rw [e2 rfl]
    have hu := (u64_cast (xs.length : Int)).symm
    rw [u64_nat (by omega)] at hu
    have hf1 : flat (eK .u8) (out ++ [2]) = flat (eK .u8) out ++ [.int .u8 2] := by rw [flat_append, flat_one]
    have hl1 : (out ++ [2]).length = n + 1 := by rw [List.length_append, hn]; rfl
    have hl2 : (out ++ [2] ++ bI 4 xs.length ++ xs).length = n + 1 + 4 + xs.length := by rw [List.length_append, List.length_append, hl1, bI_length]
    have hf2 : flat (eK .u8) (out ++ [2] ++ bI 4 xs.length ++ xs) = flat (eK .u8) (out ++ [2] ++ bI 4 xs.length) ++ flat (eK .u8) xs := flat_append _ _ _
    have hall := SlA.all (eK_length .u8) hvB
    repeat' first
      | apply cw_seq
      | (refine cw_region_id 0 ?_; (apply ol_val; exact rfl; first | (apply s_boxN; exact rfl; intro bk3) | (apply s_box1; exact rfl; exact rfl; intro bk3)); (apply ol_as; exact rfl; exact rfl); (apply ol_nil))
      | (refine cw_region_id 1 ?_; (apply ol_mv; exact rfl; exact rfl); (apply ol_val; exact rfl; apply stp_pur; apply s_len; exact rfl; exact el_38); (apply ol_val; exact rfl; apply stp_cmp; apply s_gtr; exact rfl; exact rfl; all_goals (intro hc9; try (exfalso; (first | exact hc9 rfl | omega)))); all_goals (apply ol_nil))
      | (refine cw_region_id 3 ?_; (apply ol_mv; exact rfl; exact rfl); (apply ol_fa; exact rfl; exact rfl; exact fd_41_0; (first | exact Nat.zero_add _ | exact Nat.add_zero _ | exact rfl)); (apply ol_ld; exact rfl; exact rfl; exact rfl; (apply RdN.own; (focus ((repeat constructor); done)); (first | exact GetN.cons rfl GetN.nil | (apply getN_ints_app; (first | omega | (simp; omega) | (simp; done))) | (apply getN_ints; (first | omega | (simp; omega) | (simp; done)))))); (apply ol_val; exact rfl; apply stp_pur; first | (apply s_conv; exact rfl; exact rfl; exact ti_5; (focus (apply wrap_u8; omega))) | (apply s_conv; exact rfl; exact rfl; exact ti_5; exact rfl)); (apply ol_val; exact rfl; apply s_buildSl; exact rfl; exact el_38; exact sz_5; exact zb_5; (focus ((repeat constructor); done)); exact rfl; exact rfl; (exact Nat.le_of_ble_eq_true rfl); (focus ((repeat constructor); done)); (focus ((repeat (first | exact rfl | constructor)); done)); intro bk15); (apply ol_val; exact rfl; first | (apply s_append_e; exact rfl; exact rfl; (focus ((repeat constructor); done)); exact el_38; exact sz_5; exact zb_5; exact rfl; exact by_5; (first | exact (fun _ => rfl)); (first | (apply RdN.own; (focus ((repeat constructor); done)); (focus ((repeat (first | exact rfl | constructor)); done)))); (first | exact rfl); (first | omega | (simp; omega) | (simp; done)); (first | omega | (simp; omega) | (simp; done)); intro rk16 sk16 ck16 ok16) | (apply s_append_r; exact rfl; exact rfl; (focus ((repeat constructor); done)); (first | exact rfl | exact (List.append_nil _).symm); exact el_38; exact sz_5; exact zb_5; exact rfl; exact by_5; (first | exact SO.nil _ | assumption | (exact ⟨by simp, by simp, Nat.le_refl _, by simp⟩)); (first | exact (fun _ => rfl)); (first | (apply RdN.own; (focus ((repeat constructor); done)); (focus ((repeat (first | exact rfl | constructor)); done)))); (first | exact rfl); (first | omega | (simp; omega) | (simp; done)); (first | omega | (simp; omega) | (simp; done)); intro rk16 sk16 ck16 ok16) | (apply s_append_b; exact rfl; exact rfl; (focus ((repeat constructor); done)); (first | exact rfl | exact (List.append_nil _).symm); exact el_38; exact sz_5; exact zb_5; exact rfl; exact by_5; (first | exact SO.nil _ | assumption | (exact ⟨by simp, by simp, Nat.le_refl _, by simp⟩)); (first | exact (fun _ => rfl)); (first | (apply RdN.own; (focus ((repeat constructor); done)); (focus ((repeat (first | exact rfl | constructor)); done)))); (first | exact rfl); (first | omega | (simp; omega) | (simp; done)); (first | omega | (simp; omega) | (simp; done)); intro rk16 sk16 ck16 ok16) | (apply s_append_n; exact rfl; exact rfl; (focus ((repeat constructor); done)); exact el_38; exact sz_5; exact zb_5; exact rfl; exact by_5; (first | exact (fun _ => rfl)); (first | (apply RdN.own; (focus ((repeat constructor); done)); (focus ((repeat (first | exact rfl | constructor)); done)))); (first | exact rfl); (first | omega | (simp; omega) | (simp; done)); (first | omega | (simp; omega) | (simp; done)); intro rk16 sk16 ck16 ok16)); (apply ol_as; exact rfl; exact rfl); (apply ol_nil))
      | (refine cw_region_id 4 ?_; (apply ol_fa; exact rfl; exact rfl; exact fd_41_0; (first | exact Nat.zero_add _ | exact Nat.add_zero _ | exact rfl)); (apply ol_ld; exact rfl; exact rfl; exact rfl; (apply RdN.own; (focus ((repeat constructor); done)); (first | exact GetN.cons rfl GetN.nil | (apply getN_ints_app; (first | omega | (simp; omega) | (simp; done))) | (apply getN_ints; (first | omega | (simp; omega) | (simp; done)))))); (apply ol_nil))
      | (apply cw_cond_true; exact rfl; (first | exact rfl | assumption))
      | (apply cw_cond_false; exact rfl; (first | exact rfl | assumption))
      | apply cw_skip
      | apply cw_ret
      | apply cw_exit
    rw [← hf1] at ok16
    refine cw_pick (own' := [⟨rk16, flat (eK .u8) (out ++ [2]) ++ sk16, 5⟩, ⟨some bk3, [.int .i64 2, .int .i64 nn, .slice Ba xs.length Bc, .slice La m Lc], 41⟩]) (by rw [hf1]; (repeat (first | exact Pick.nil | (apply Pick.cons; (focus ((repeat (first | exact Spl.here | apply Spl.there)); done))) | exact Pick.refl | exact Pick.skip1 | exact Pick.skip2))) ?_
    repeat' first
      | apply cw_seq
      | (refine cw_region_id 5 ?_; (apply ol_val; exact rfl; apply stp_cmp; apply s_eql; exact rfl; exact rfl; all_goals (intro hc20; try (exfalso; (first | exact hc20 rfl | omega)))); all_goals (apply ol_as; exact rfl; exact rfl); all_goals (apply ol_nil))
      | (refine cw_region_id 7 ?_; (apply ol_val; exact rfl; apply stp_cmp; apply s_eql; exact rfl; exact rfl; all_goals (intro hc27; try (exfalso; (first | exact hc27 rfl | omega)))); all_goals (apply ol_as; exact rfl; exact rfl); all_goals (apply ol_nil))
      | (refine cw_draw (id := 8) 8 (.mv 0 (.mv 1 (.mv 2 (.mv 3 (.mv 4 (.mv 6 (.mv 7 (.fx 5 (PT.nil))))))))) mixed (by kernel_rfl) ?_; (apply od_mv; exact rfl; exact rfl; apply s_move; exact rfl); (apply od_mv; exact rfl; exact rfl; apply s_fieldAddr'; exact rfl; exact fd_41_2; (first | exact Nat.zero_add _ | exact Nat.add_zero _ | exact rfl)); (apply od_mv; exact rfl; exact rfl; apply s_load1; exact rfl; exact rfl; (apply RdN.own; (focus ((repeat constructor); done)); exact GetN.cons rfl GetN.nil)); (apply od_mv; exact rfl; exact rfl; apply s_len; exact rfl; exact el_38); (apply od_mv; exact rfl; exact rfl; first | (apply s_conv; exact rfl; exact rfl; exact ti_73; (focus (apply wrap_u64; omega))) | (apply s_conv; exact rfl; exact rfl; exact ti_73; exact hu) | (apply s_conv; exact rfl; exact rfl; exact ti_73; exact rfl)); (apply od_mv; exact rfl; exact rfl; apply s_fieldAddr'; exact rfl; exact fd_41_2; (first | exact Nat.zero_add _ | exact Nat.add_zero _ | exact rfl)); (apply od_mv; exact rfl; exact rfl; apply s_load1; exact rfl; exact rfl; (apply RdN.own; (focus ((repeat constructor); done)); exact GetN.cons rfl GetN.nil)); (apply od_fx; (first | exact Wk.refl _ _ | (focus (apply Wk.mk; (first | exact View.le.refl _ | assumption | exact View.le.trans (by assumption) (by assumption)); (repeat constructor); done))); (apply fx_val; exact rfl; exact rfl; (apply number_step (size := 4); exact rfl; exact rfl; exact rfl; exact ok16; omega; omega; intro r2 sp2 cap2 so2))); all_goals (apply od_nil; (first | exact Wk.refl _ _ | (focus (apply Wk.mk; (first | exact View.le.refl _ | assumption | exact View.le.trans (by assumption) (by assumption)); (repeat constructor); done)))); all_goals (apply ol_val; exact rfl; first | (apply s_append_e; exact rfl; exact rfl; (focus ((repeat constructor); done)); exact el_38; exact sz_5; exact zb_5; exact rfl; exact by_5; (first | exact (fun _ => rfl) | (intro _; exact hvB.at_ (by omega))); (first | (apply RdN.own; (focus ((repeat constructor); done)); (focus ((repeat (first | exact rfl | constructor)); done))) | (apply RdN.view; exact hall)); (first | exact rfl | exact flatK_ones); (first | omega | (simp; omega) | (simp; done)); (first | omega | (simp; omega) | (simp; done)); intro rk36 sk36 ck36 ok36) | (apply s_append_r; exact rfl; exact rfl; (focus ((repeat constructor); done)); (first | exact rfl | exact (List.append_nil _).symm); exact el_38; exact sz_5; exact zb_5; exact rfl; exact by_5; (first | exact SO.nil _ | assumption | exact so2 | (exact ⟨by simp, by simp, Nat.le_refl _, by simp⟩)); (first | exact (fun _ => rfl) | (intro _; exact hvB.at_ (by omega))); (first | (apply RdN.own; (focus ((repeat constructor); done)); (focus ((repeat (first | exact rfl | constructor)); done))) | (apply RdN.view; exact hall)); (first | exact rfl | exact flatK_ones); (first | omega | (simp; omega) | (simp; done)); (first | omega | (simp; omega) | (simp; done)); intro rk36 sk36 ck36 ok36) | (apply s_append_b; exact rfl; exact rfl; (focus ((repeat constructor); done)); (first | exact rfl | exact (List.append_nil _).symm); exact el_38; exact sz_5; exact zb_5; exact rfl; exact by_5; (first | exact SO.nil _ | assumption | exact so2 | (exact ⟨by simp, by simp, Nat.le_refl _, by simp⟩)); (first | exact (fun _ => rfl) | (intro _; exact hvB.at_ (by omega))); (first | (apply RdN.own; (focus ((repeat constructor); done)); (focus ((repeat (first | exact rfl | constructor)); done))) | (apply RdN.view; exact hall)); (first | exact rfl | exact flatK_ones); (first | omega | (simp; omega) | (simp; done)); (first | omega | (simp; omega) | (simp; done)); intro rk36 sk36 ck36 ok36) | (apply s_append_n; exact rfl; exact rfl; (focus ((repeat constructor); done)); exact el_38; exact sz_5; exact zb_5; exact rfl; exact by_5; (first | exact (fun _ => rfl) | (intro _; exact hvB.at_ (by omega))); (first | (apply RdN.own; (focus ((repeat constructor); done)); (focus ((repeat (first | exact rfl | constructor)); done))) | (apply RdN.view; exact hall)); (first | exact rfl | exact flatK_ones); (first | omega | (simp; omega) | (simp; done)); (first | omega | (simp; omega) | (simp; done)); intro rk36 sk36 ck36 ok36)); all_goals (apply ol_as; exact rfl; exact rfl); all_goals (apply ol_nil))
      | (refine cw_drawW (id := 8) (own0 := [⟨some bk3, [.int .i64 2, .int .i64 nn, .slice Ba xs.length Bc, .slice La m Lc], 41⟩]) 8 (.mv 0 (.mv 1 (.mv 2 (.mv 3 (.mv 4 (.mv 6 (.mv 7 (.fx 5 (PT.nil))))))))) mixed (by kernel_rfl) (by (first | exact Wk.refl _ _ | (focus (apply Wk.mk; (first | exact View.le.refl _ | assumption | exact View.le.trans (by assumption) (by assumption)); (repeat constructor); done)))) ?_; (apply od_mv; exact rfl; exact rfl; apply s_move; exact rfl); (apply od_mv; exact rfl; exact rfl; apply s_fieldAddr'; exact rfl; exact fd_41_2; (first | exact Nat.zero_add _ | exact Nat.add_zero _ | exact rfl)); (apply od_mv; exact rfl; exact rfl; apply s_load1; exact rfl; exact rfl; (apply RdN.own; (focus ((repeat constructor); done)); exact GetN.cons rfl GetN.nil)); (apply od_mv; exact rfl; exact rfl; apply s_len; exact rfl; exact el_38); (apply od_mv; exact rfl; exact rfl; first | (apply s_conv; exact rfl; exact rfl; exact ti_73; (focus (apply wrap_u64; omega))) | (apply s_conv; exact rfl; exact rfl; exact ti_73; exact hu) | (apply s_conv; exact rfl; exact rfl; exact ti_73; exact rfl)); (apply od_mv; exact rfl; exact rfl; apply s_fieldAddr'; exact rfl; exact fd_41_2; (first | exact Nat.zero_add _ | exact Nat.add_zero _ | exact rfl)); (apply od_mv; exact rfl; exact rfl; apply s_load1; exact rfl; exact rfl; (apply RdN.own; (focus ((repeat constructor); done)); exact GetN.cons rfl GetN.nil)); (apply od_fx; (first | exact Wk.refl _ _ | (focus (apply Wk.mk; (first | exact View.le.refl _ | assumption | exact View.le.trans (by assumption) (by assumption)); (repeat constructor); done))); (apply fx_val; exact rfl; exact rfl; (apply number_step (size := 4); exact rfl; exact rfl; exact rfl; exact ok16; omega; omega; intro r2 sp2 cap2 so2))); all_goals (apply od_nil; (first | exact Wk.refl _ _ | (focus (apply Wk.mk; (first | exact View.le.refl _ | assumption | exact View.le.trans (by assumption) (by assumption)); (repeat constructor); done)))); all_goals (apply ol_val; exact rfl; first | (apply s_append_e; exact rfl; exact rfl; (focus ((repeat constructor); done)); exact el_38; exact sz_5; exact zb_5; exact rfl; exact by_5; (first | exact (fun _ => rfl) | (intro _; exact hvB.at_ (by omega))); (first | (apply RdN.own; (focus ((repeat constructor); done)); (focus ((repeat (first | exact rfl | constructor)); done))) | (apply RdN.view; exact hall)); (first | exact rfl | exact flatK_ones); (first | omega | (simp; omega) | (simp; done)); (first | omega | (simp; omega) | (simp; done)); intro rk36 sk36 ck36 ok36) | (apply s_append_r; exact rfl; exact rfl; (focus ((repeat constructor); done)); (first | exact rfl | exact (List.append_nil _).symm); exact el_38; exact sz_5; exact zb_5; exact rfl; exact by_5; (first | exact SO.nil _ | assumption | exact so2 | (exact ⟨by simp, by simp, Nat.le_refl _, by simp⟩)); (first | exact (fun _ => rfl) | (intro _; exact hvB.at_ (by omega))); (first | (apply RdN.own; (focus ((repeat constructor); done)); (focus ((repeat (first | exact rfl | constructor)); done))) | (apply RdN.view; exact hall)); (first | exact rfl | exact flatK_ones); (first | omega | (simp; omega) | (simp; done)); (first | omega | (simp; omega) | (simp; done)); intro rk36 sk36 ck36 ok36) | (apply s_append_b; exact rfl; exact rfl; (focus ((repeat constructor); done)); (first | exact rfl | exact (List.append_nil _).symm); exact el_38; exact sz_5; exact zb_5; exact rfl; exact by_5; (first | exact SO.nil _ | assumption | exact so2 | (exact ⟨by simp, by simp, Nat.le_refl _, by simp⟩)); (first | exact (fun _ => rfl) | (intro _; exact hvB.at_ (by omega))); (first | (apply RdN.own; (focus ((repeat constructor); done)); (focus ((repeat (first | exact rfl | constructor)); done))) | (apply RdN.view; exact hall)); (first | exact rfl | exact flatK_ones); (first | omega | (simp; omega) | (simp; done)); (first | omega | (simp; omega) | (simp; done)); intro rk36 sk36 ck36 ok36) | (apply s_append_n; exact rfl; exact rfl; (focus ((repeat constructor); done)); exact el_38; exact sz_5; exact zb_5; exact rfl; exact by_5; (first | exact (fun _ => rfl) | (intro _; exact hvB.at_ (by omega))); (first | (apply RdN.own; (focus ((repeat constructor); done)); (focus ((repeat (first | exact rfl | constructor)); done))) | (apply RdN.view; exact hall)); (first | exact rfl | exact flatK_ones); (first | omega | (simp; omega) | (simp; done)); (first | omega | (simp; omega) | (simp; done)); intro rk36 sk36 ck36 ok36)); all_goals (apply ol_as; exact rfl; exact rfl); all_goals (apply ol_nil))
      | (apply cw_cond_true; exact rfl; (first | exact rfl | assumption))
      | (apply cw_cond_false; exact rfl; (first | exact rfl | assumption))
      | apply cw_skip
      | apply cw_ret
      | apply cw_block
      | apply cw_exit
    refine endsA ⟨rk36, flat (eK .u8) (out ++ [2] ++ bI 4 xs.length ++ xs) ++ sk36, 5⟩ (RVal.tmp rfl RVal.nil) (by rw [hf2]; (repeat (first | exact Pick.nil | (apply Pick.cons; (focus ((repeat (first | exact Spl.here | apply Spl.there)); done))) | exact Pick.refl | exact Pick.skip1 | exact Pick.skip2))) ?_
    refine ⟨rk36, ck36, sk36, out ++ [2] ++ bI 4 xs.length ++ xs, ?_, by omega, by rw [hl2]; rfl, rfl, by rw [hl2, hf2]; exact ok36⟩
    rw [show out ++ [2] ++ bI 4 xs.length ++ xs = out ++ ([2] ++ bI 4 xs.length ++ xs) by simp only [List.append_assoc]]
    exact wrP.all _ _
end Go.Proofs.YtkbbbflojebfgaaDoor

/-
  Items written.
-/
namespace Go.Proofs.YtkbbbflojebfgaaDoor
set_option maxRecDepth 20000
set_option linter.unusedSimpArgs false
set_option linter.unusedVariables false
open Go Go.Fw
structure WSt where
  i : Nat
  r : Option Nat
  c : Nat
  sp : List Value
  o : List Int
theorem encI_list {d : Nat} {h : Hd} {L : List (It d)} (h3 : h.k = 3) : encI (d + 1) (h, L) = ([3] ++ bI 4 h.m) ++ L.flatMap (encI d) := by
  show (if h.k = 3 then 3 :: (bI 4 h.m ++ L.flatMap (encI d)) else encH h) = _
  rw [if_pos h3]
  rfl
theorem okI_list {d : Nat} {h : Hd} {L : List (It d)} (h3 : h.k = 3) : okI (d + 1) (h, L) = (decide (h.n = 0 ∧ h.B.xs.length = 0 ∧ h.m ≤ 1000) && L.all (okI d)) := by
  show (if h.k = 3 then decide (h.n = 0 ∧ h.B.xs.length = 0 ∧ h.m ≤ 1000) && L.all (okI d) else okH h) = _
  rw [if_pos h3]
theorem encH_pos (h : Hd) : 0 < (encH h).length := by unfold encH; split <;> simp
theorem encI_pos : ∀ {d : Nat} (x : It d), 0 < (encI d x).length
  | 0, x => encH_pos x
  | d + 1, x => by
    show 0 < (if x.1.k = 3 then 3 :: (bI 4 x.1.m ++ x.2.flatMap (encI d)) else encH x.1).length
    split
    · simp
    · exact encH_pos _
theorem flatMap_take_succ {α β : Type} (f : α → List β) {L : List α} {i : Nat} (h : i < L.length) : (L.take (i + 1)).flatMap f = (L.take i).flatMap f ++ f L[i] := by rw [List.take_succ_eq_append_getElem h, List.flatMap_append]; simp
end Go.Proofs.YtkbbbflojebfgaaDoor
namespace Go.Proofs.YtkbbbflojebfgaaDoor
set_option maxRecDepth 20000
set_option linter.unusedSimpArgs false
set_option linter.unusedVariables false
open Go Go.Fw
attribute [local irreducible] CW OL OD FX Stp FnC FnV FnA Ret bI bmid encI wrP
set_option maxHeartbeats 1600000
theorem write_spec : ∀ (d : Nat) {M : View} {w : World}, View.le M (View.of w) → ∀ {x : It d}, ItV M d x → okI d x = true → ∀ {r : Option Nat} {A : Option Addr} {cap n : Nat} {out : List Int} {sp : List Value}, (∀ b, r = some b → M b = none) → OB.ok ⟨r, flat (eK .u8) out ++ sp, 5⟩ w → SO r n cap (flat (eK .u8) out) sp 1 → out.length = n → n ≤ 2147483648 →
    FnA Tryd.prog 41 [.slice (base r A) n cap, .agg x.enc.toArray] w ⟨r, flat (eK .u8) out ++ sp, 5⟩ (WRA A out (encI d x)) := by
  intro d
  induction d with
  | zero =>
    intro M w hM x hx hok r A cap n out sp hr ho so hn hn2
    by_cases hl : 16384 < n
    · exact write_long hM hr ho so hn hn2 hl _
    · rw [encI_leaf (.inr rfl)]
      rw [okI_leaf (.inr rfl)] at hok
      exact write_leaf hM hx.head hok hr ho so hn (by omega)
  | succ d ih =>
    intro M w hM x hx hok r A cap n out sp hr ho so hn hn2
    by_cases hl : 16384 < n
    · exact write_long hM hr ho so hn hn2 hl _
    · by_cases h3 : x.hd.k = 3
      · obtain ⟨h, L⟩ := x
        obtain ⟨hv, hlL, sL, hL⟩ := hx
        have h3' : h.k = 3 := h3
        have e := encI_list (d := d) (L := L) h3'
        have eo : okI (d + 1) (h, L) = (decide (h.n = 0 ∧ h.B.xs.length = 0 ∧ h.m ≤ 1000) && L.all (okI d)) := by
          show (if h.k = 3 then decide (h.n = 0 ∧ h.B.xs.length = 0 ∧ h.m ≤ 1000) && L.all (okI d) else okH h) = _
          rw [if_pos h3']
        rw [eo, Bool.and_eq_true, decide_eq_true_eq, List.all_eq_true] at hok
        obtain ⟨⟨hn0, hB0, hm⟩, hall⟩ := hok
        rw [e]
        have hxe : It.enc (d := d + 1) (h, L) = [.int .i64 h.k, .int .i64 h.n, .slice h.B.a h.B.xs.length h.B.c, .slice h.La h.m h.Lc] := rfl
        rw [hxe]
        clear hxe e eo h3
        obtain ⟨k, nn, ⟨xs, Ba, Bb, Bo, Bc⟩, La, Lb, Lo, Lc, m⟩ := h
        dsimp only at hv hlL sL h3' hm ⊢
        subst h3'
        have hu := (u64_cast (m : Int)).symm
        rw [u64_nat (by omega)] at hu
        have hf1 : flat (eK .u8) (out ++ [3]) = flat (eK .u8) out ++ [.int .u8 3] := by rw [flat_append, flat_one]
        have hl1 : (out ++ [3]).length = n + 1 := by rw [List.length_append, hn]; rfl
        have hl2 : (out ++ [3] ++ bI 4 m).length = n + 1 + 4 := by rw [List.length_append, hl1, bI_length]
        refine enterA (M := M) Tryd.func41 rfl rfl rfl rfl hM ho hr ?_
        repeat' first
          | apply cw_seq
          | (refine cw_region_id 0 ?_; (apply ol_val; exact rfl; first | (apply s_boxN; exact rfl; intro bk3) | (apply s_box1; exact rfl; exact rfl; intro bk3)); (apply ol_as; exact rfl; exact rfl); (apply ol_nil))
          | (refine cw_region_id 1 ?_; (apply ol_mv; exact rfl; exact rfl); (apply ol_val; exact rfl; apply stp_pur; apply s_len; exact rfl; exact el_38); (apply ol_val; exact rfl; apply stp_cmp; apply s_gtr; exact rfl; exact rfl; all_goals (intro hc9; try (exfalso; (first | exact hc9 rfl | omega)))); all_goals (apply ol_nil))
          | (refine cw_region_id 3 ?_; (apply ol_mv; exact rfl; exact rfl); (apply ol_fa; exact rfl; exact rfl; exact fd_41_0; (first | exact Nat.zero_add _ | exact Nat.add_zero _ | exact rfl)); (apply ol_ld; exact rfl; exact rfl; exact rfl; (apply RdN.own; (focus ((repeat constructor); done)); (first | exact GetN.cons rfl GetN.nil | (apply getN_ints_app; (first | omega | (simp; omega) | (simp; done))) | (apply getN_ints; (first | omega | (simp; omega) | (simp; done)))))); (apply ol_val; exact rfl; apply stp_pur; first | (apply s_conv; exact rfl; exact rfl; exact ti_5; (focus (apply wrap_u8; omega))) | (apply s_conv; exact rfl; exact rfl; exact ti_5; exact rfl)); (apply ol_val; exact rfl; apply s_buildSl; exact rfl; exact el_38; exact sz_5; exact zb_5; (focus ((repeat constructor); done)); exact rfl; exact rfl; (exact Nat.le_of_ble_eq_true rfl); (focus ((repeat constructor); done)); (focus ((repeat (first | exact rfl | constructor)); done)); intro bk15); (apply ol_val; exact rfl; first | (apply s_append_e; exact rfl; exact rfl; (focus ((repeat constructor); done)); exact el_38; exact sz_5; exact zb_5; exact rfl; exact by_5; (first | exact (fun _ => rfl)); (first | (apply RdN.own; (focus ((repeat constructor); done)); (focus ((repeat (first | exact rfl | constructor)); done)))); (first | exact rfl); (first | omega | (simp; omega) | (simp; done)); (first | omega | (simp; omega) | (simp; done)); intro rk16 sk16 ck16 ok16) | (apply s_append_r; exact rfl; exact rfl; (focus ((repeat constructor); done)); (first | exact rfl | exact (List.append_nil _).symm); exact el_38; exact sz_5; exact zb_5; exact rfl; exact by_5; (first | exact SO.nil _ | assumption | (exact ⟨by simp, by simp, Nat.le_refl _, by simp⟩)); (first | exact (fun _ => rfl)); (first | (apply RdN.own; (focus ((repeat constructor); done)); (focus ((repeat (first | exact rfl | constructor)); done)))); (first | exact rfl); (first | omega | (simp; omega) | (simp; done)); (first | omega | (simp; omega) | (simp; done)); intro rk16 sk16 ck16 ok16) | (apply s_append_b; exact rfl; exact rfl; (focus ((repeat constructor); done)); (first | exact rfl | exact (List.append_nil _).symm); exact el_38; exact sz_5; exact zb_5; exact rfl; exact by_5; (first | exact SO.nil _ | assumption | (exact ⟨by simp, by simp, Nat.le_refl _, by simp⟩)); (first | exact (fun _ => rfl)); (first | (apply RdN.own; (focus ((repeat constructor); done)); (focus ((repeat (first | exact rfl | constructor)); done)))); (first | exact rfl); (first | omega | (simp; omega) | (simp; done)); (first | omega | (simp; omega) | (simp; done)); intro rk16 sk16 ck16 ok16) | (apply s_append_n; exact rfl; exact rfl; (focus ((repeat constructor); done)); exact el_38; exact sz_5; exact zb_5; exact rfl; exact by_5; (first | exact (fun _ => rfl)); (first | (apply RdN.own; (focus ((repeat constructor); done)); (focus ((repeat (first | exact rfl | constructor)); done)))); (first | exact rfl); (first | omega | (simp; omega) | (simp; done)); (first | omega | (simp; omega) | (simp; done)); intro rk16 sk16 ck16 ok16)); (apply ol_as; exact rfl; exact rfl); (apply ol_nil))
          | (refine cw_region_id 4 ?_; (apply ol_fa; exact rfl; exact rfl; exact fd_41_0; (first | exact Nat.zero_add _ | exact Nat.add_zero _ | exact rfl)); (apply ol_ld; exact rfl; exact rfl; exact rfl; (apply RdN.own; (focus ((repeat constructor); done)); (first | exact GetN.cons rfl GetN.nil | (apply getN_ints_app; (first | omega | (simp; omega) | (simp; done))) | (apply getN_ints; (first | omega | (simp; omega) | (simp; done)))))); (apply ol_nil))
          | (apply cw_cond_true; exact rfl; (first | exact rfl | assumption))
          | (apply cw_cond_false; exact rfl; (first | exact rfl | assumption))
          | apply cw_skip
          | apply cw_ret
          | apply cw_exit
        rw [← hf1] at ok16
        refine cw_pick (own' := [⟨rk16, flat (eK .u8) (out ++ [3]) ++ sk16, 5⟩, ⟨some bk3, [.int .i64 3, .int .i64 nn, .slice Ba xs.length Bc, .slice La m Lc], 41⟩]) (by rw [hf1]; (repeat (first | exact Pick.nil | (apply Pick.cons; (focus ((repeat (first | exact Spl.here | apply Spl.there)); done))) | exact Pick.refl | exact Pick.skip1 | exact Pick.skip2))) ?_
        repeat' first
          | apply cw_seq
          | (refine cw_region_id 5 ?_; (apply ol_val; exact rfl; apply stp_cmp; apply s_eql; exact rfl; exact rfl; all_goals (intro hc20; try (exfalso; (first | exact hc20 rfl | omega)))); all_goals (apply ol_as; exact rfl; exact rfl); all_goals (apply ol_nil))
          | (refine cw_region_id 7 ?_; (apply ol_val; exact rfl; apply stp_cmp; apply s_eql; exact rfl; exact rfl; all_goals (intro hc27; try (exfalso; (first | exact hc27 rfl | omega)))); all_goals (apply ol_as; exact rfl; exact rfl); all_goals (apply ol_nil))
          | (refine cw_region_id 9 ?_; (apply ol_mv; exact rfl; exact rfl); (apply ol_fa; exact rfl; exact rfl; exact fd_41_3; (first | exact Nat.zero_add _ | exact Nat.add_zero _ | exact rfl)); (apply ol_ld; exact rfl; exact rfl; exact rfl; (apply RdN.own; (focus ((repeat constructor); done)); exact GetN.cons rfl GetN.nil)); (apply ol_val; exact rfl; apply stp_pur; apply s_len; exact rfl; exact el_39); (apply ol_val; exact rfl; apply stp_pur; first | (apply s_conv; exact rfl; exact rfl; exact ti_73; (focus (apply wrap_u64; omega))) | (apply s_conv; exact rfl; exact rfl; exact ti_73; exact hu) | (apply s_conv; exact rfl; exact rfl; exact ti_73; exact rfl)); (apply ol_val; exact rfl; (apply number_step (size := 4); exact rfl; exact rfl; exact rfl; exact ok16; omega; omega; intro r2 sp2 cap2 so2)); all_goals (apply ol_as; exact rfl; exact rfl); all_goals (apply ol_nil))
          | (refine cw_region_id 10 ?_; (apply ol_fa; exact rfl; exact rfl; exact fd_41_3; (first | exact Nat.zero_add _ | exact Nat.add_zero _ | exact rfl)); (apply ol_ld; exact rfl; exact rfl; exact rfl; (apply RdN.own; (focus ((repeat constructor); done)); exact GetN.cons rfl GetN.nil)); (apply ol_val; exact rfl; apply stp_pur; apply s_len; exact rfl; exact el_39); (apply ol_mv; exact rfl; exact rfl); (apply ol_nil))
          | (apply cw_cond_true; exact rfl; (first | exact rfl | assumption))
          | (apply cw_cond_false; exact rfl; (first | exact rfl | assumption))
          | apply cw_skip
          | apply cw_ret
          | apply cw_block
          | apply cw_exit
        refine cw_loopK (σ := WSt) [44, 45] (by (repeat (first | exact Keep.nil | (apply Keep.cons; exact rfl)))) (fun s => [(0, .slice (base s.r A) s.o.length s.c), (46, .int .i64 s.i)]) (fun _ => M) (fun s => [⟨s.r, flat (eK .u8) s.o ++ s.sp, 5⟩, ⟨some bk3, [.int .i64 3, .int .i64 nn, .slice Ba xs.length Bc, .slice La m Lc], 41⟩]) (fun s => (s.i ≤ m ∧ s.o.length ≤ 2147483648) ∧ wrP out ([3] ++ bI 4 m ++ (L.take s.i).flatMap (encI d)) s.o ∧ SO s.r s.o.length s.c (flat (eK .u8) s.o) s.sp 1) (fun s => m - s.i) ⟨0, r2, cap2, sp2, out ++ [3] ++ bI 4 m⟩ (by dsimp only; rw [hl2]; (repeat (first | exact trivial | refine And.intro rfl ?_))) (View.le.refl _) (by (repeat (first | exact Pick.nil | (apply Pick.cons; (focus ((repeat (first | exact Spl.here | apply Spl.there)); done))) | exact Pick.refl | exact Pick.skip1 | exact Pick.skip2))) ⟨⟨Nat.zero_le _, by dsimp only; omega⟩, by dsimp only; rw [List.take_zero, List.flatMap_nil, List.append_nil, List.append_assoc]; exact wrP.all _ _, by dsimp only; rw [hl2]; exact so2⟩ ?_
        rintro ⟨i, r3, c3, sp3, o3⟩ ⟨⟨hi, ho3⟩, hw3, so3⟩
        dsimp only at hi ho3 hw3 so3
        dsimp only
        by_cases him : i < m
        · have hil : i < L.length := by omega
          have hci := sL.cells i hil
          have hfm := flatMap_take_succ (encI d) hil
          have kw : ∀ (w' : World), View.le M (View.of w') → (∀ b, r3 = some b → M b = none) → OB.ok ⟨r3, flat (eK .u8) o3 ++ sp3, 5⟩ w' → FnA Tryd.prog 41 [.slice (base r3 A) o3.length c3, .agg (It.enc (L[i]'hil)).toArray] w' ⟨r3, flat (eK .u8) o3 ++ sp3, 5⟩ (WRA A o3 (encI d (L[i]'hil))) := fun w' h h1 h2 =>
            ih h (hL _ (List.getElem_mem hil)) (hall _ (List.getElem_mem hil)) h1 h2 so3 rfl ho3
          have hstep : ∀ o4, wrP o3 (encI d (L[i]'hil)) o4 → wrP out ([3] ++ bI 4 m ++ (L.take (i + 1)).flatMap (encI d)) o4 := fun o4 h => by
            rw [hfm, ← List.append_assoc]
            exact hw3.trans h
          clear hfm hL hall
          generalize L[i]'hil = y at *
          unfold It.enc at hci kw
          unfold WRA at kw
          repeat' first
            | apply cw_seq
            | (refine cw_region_id 11 ?_; (apply ol_val; exact rfl; apply stp_cmp; apply s_lss; exact rfl; exact rfl; all_goals (intro hc47; try (exfalso; (first | exact hc47 rfl | omega)))); all_goals (apply ol_nil))
            | (refine cw_region_id 12 ?_; (apply ol_val; exact rfl; apply stp_pur; first | (apply s_indexK; exact rfl; exact rfl; exact el_39; exact sz_41; (first | exact rfl | exact sL.at_ (by omega)); omega) | (apply s_indexO; exact rfl; exact rfl; exact el_39; exact sz_41; (first | exact rfl | exact sL.at_ (by omega)); omega)); (apply ol_ldN; exact rfl; exact rfl; exact rfl; exact sz_41; (first | (apply RdN.own; (focus ((repeat constructor); done)); (focus ((repeat (first | exact rfl | constructor)); done))) | (apply RdN.view; exact hci))); (apply ol_val; exact rfl; apply s_alloc; exact zb_41; (focus ((repeat constructor); done)); intro bk6); (apply ol_eff; apply s_storeN; exact rfl; exact rfl; exact sz_41; exact rfl; exact rfl; (focus ((repeat constructor); done)); (focus ((repeat constructor); done))); (apply ol_nil))
            | (refine cw_region_id 13 ?_; (apply ol_mv; exact rfl; exact rfl); (apply ol_ldN; exact rfl; exact rfl; exact rfl; exact sz_41; (first | (apply RdN.own; (focus ((repeat constructor); done)); (focus ((repeat (first | exact rfl | constructor)); done))) | (apply RdN.view; exact hci))); (apply ol_val; exact rfl; (apply s_callA; exact rfl; exact gf_41; (intro w' hw'; exact kw w' hw'.le (hw'.sep_ (x := ⟨r3, flat (eK .u8) o3 ++ sp3, 5⟩) (by (repeat (first | exact Has.here | apply Has.there)))) (hw'.ok_ (by (repeat (first | exact Has.here | apply Has.there))))); (focus ((repeat (first | exact Spl.here | apply Spl.there)); done)); (intro v y h; obtain ⟨r4, c4, sp4, o4, hw4, hl4, rfl, rfl, so4⟩ := h))); all_goals (apply ol_as; exact rfl; exact rfl); all_goals (apply ol_nil))
            | (refine cw_region_id 14 ?_; (apply ol_val; exact rfl; apply stp_pur; apply s_add64; exact rfl; exact rfl; omega); (apply ol_mv; exact rfl; exact rfl); (apply ol_nil))
            | (apply cw_cond_true; exact rfl; (first | exact rfl | assumption))
            | (apply cw_cond_false; exact rfl; (first | exact rfl | assumption))
            | apply cw_skip
            | apply cw_ret
            | apply cw_block
            | apply cw_exit
          exact ⟨⟨i + 1, r4, c4, sp4, o4⟩, ⟨by (repeat (first | exact trivial | refine And.intro rfl ?_)), View.le.refl _, by (repeat (first | exact Pick.nil | (apply Pick.cons; (focus ((repeat (first | exact Spl.here | apply Spl.there)); done))) | exact Pick.refl | exact Pick.skip1 | exact Pick.skip2)), ⟨⟨him, hl4⟩, hstep o4 hw4, so4⟩, by dsimp only; omega⟩⟩
        · have htk : L.take i = L := List.take_of_length_le (by omega)
          rw [htk] at hw3
          repeat' first
            | apply cw_seq
            | (refine cw_region_id 11 ?_; (apply ol_val; exact rfl; apply stp_cmp; apply s_lss; exact rfl; exact rfl; all_goals (intro hc47; try (exfalso; (first | exact hc47 rfl | omega)))); all_goals (apply ol_nil))
            | (refine cw_region_id 15 ?_; (apply ol_mv; exact rfl; exact rfl); (apply ol_as; exact rfl; exact rfl); (apply ol_nil))
            | (apply cw_cond_true; exact rfl; (first | exact rfl | assumption))
            | (apply cw_cond_false; exact rfl; (first | exact rfl | assumption))
            | apply cw_skip
            | apply cw_ret
            | apply cw_block
            | apply cw_exit
          refine endsA ⟨r3, flat (eK .u8) o3 ++ sp3, 5⟩ (RVal.tmp rfl RVal.nil) (by (repeat (first | exact Pick.nil | (apply Pick.cons; (focus ((repeat (first | exact Spl.here | apply Spl.there)); done))) | exact Pick.refl | exact Pick.skip1 | exact Pick.skip2))) ?_
          exact ⟨r3, c3, sp3, o3, hw3, ho3, rfl, rfl, so3⟩
      · rw [encI_leaf (.inl h3)]
        rw [okI_leaf (.inl h3)] at hok
        exact write_leaf hM hx.head hok hr ho so hn (by omega)
end Go.Proofs.YtkbbbflojebfgaaDoor

/-
  Encode: the program's and the reference's.
-/
namespace Go.Proofs.YtkbbbflojebfgaaDoor
set_option maxRecDepth 20000
set_option linter.unusedSimpArgs false
set_option linter.unusedVariables false
open Go Go.Fw
/-- What Encode says: the error and the bytes. -/
def encP (x : It 8) : Nat × List Int := if okI 8 x = false then (1, []) else if 16384 < (encI 8 x).length then (5, []) else (0, encI 8 x)
def BRs (p : Nat × List Int) (v : Value) (new : List OB) : Prop := ∃ u, v = .tuple #[u, .int .i64 p.1] ∧ RowRes (eK .u8) 1 5 p.2 u new
theorem RowRes.nil8 : RowRes (eK .u8) 1 5 [] (.slice none 0 0) [⟨none, [], 5⟩] := RowRes.zero (eK .u8) 1 5
structure ESt where
  i : Nat
  r : Option Nat
  A : Option Addr
  c : Nat
  sp : List Value
end Go.Proofs.YtkbbbflojebfgaaDoor
namespace Go.Proofs.YtkbbbflojebfgaaDoor
set_option maxRecDepth 20000
set_option linter.unusedSimpArgs false
set_option linter.unusedVariables false
open Go Go.Fw
attribute [local irreducible] CW OL OD FX Stp FnC FnV FnA Ret bI bmid encI wrP okI
set_option maxHeartbeats 1600000
theorem encode_spec {M : View} {w : World} (hM : View.le M (View.of w)) {x : It 8} (hx : ItV M 8 x) :
    FnC Tryd.prog 29 [.agg x.enc.toArray] w (BRs (encP x)) := by
  have kv := fun (w' : World) (h : View.le M (View.of w')) => valid_spec h hx
  have kw := fun (w' : World) (h : View.le M (View.of w')) (hok : okI 8 x = true) => write_spec 8 h hx hok (r := none) (A := none) (cap := 0) (n := 0) (out := []) (sp := []) (fun b hb => by cases hb) rfl (SO.nil 1) rfl (by omega)
  unfold encP
  unfold It.enc at *
  generalize x.hd = h at *
  obtain ⟨k, n, ⟨xs, Ba, Bb, Bo, Bc⟩, La, Lb, Lo, Lc, m⟩ := h
  dsimp only at kv kw ⊢
  refine enterF (M := M) Tryd.func29 rfl rfl rfl rfl hM ?_
  refine cw_none 5 ?_
  refine cw_none 5 ?_
  by_cases hok : okI 8 x = false
  · rw [if_pos hok]
    rw [hok] at kv
    repeat' first
      | apply cw_seq
      | (refine cw_region_id 0 ?_; (apply ol_val; exact rfl; first | (apply s_boxN; exact rfl; intro bk1) | (apply s_box1; exact rfl; exact rfl; intro bk1)); (apply ol_as; exact rfl; exact rfl); (apply ol_as; exact rfl; exact rfl); (apply ol_nil))
      | (refine cw_region_id 1 ?_; (apply ol_ldN; exact rfl; exact rfl; exact rfl; exact sz_41; (apply RdN.own; (focus ((repeat constructor); done)); (focus ((repeat (first | exact rfl | constructor)); done)))); (apply ol_val; exact rfl; apply s_callv; exact rfl; exact gf_40; (intro w' hw'; exact kv w' hw'.le)); (apply ol_val; exact rfl; apply stp_pur; first | (apply s_not_t; exact rfl; (first | exact rfl | assumption)) | (apply s_not_f; exact rfl; (first | exact rfl | assumption)) | (apply s_not; exact rfl)); (apply ol_nil))
      | (refine cw_region_id 2 ?_; (apply ol_as; exact rfl; exact rfl); (apply ol_as; exact rfl; exact rfl); (apply ol_nil))
      | (apply cw_cond_true; exact rfl; (first | exact rfl | assumption))
      | (apply cw_cond_false; exact rfl; (first | exact rfl | assumption))
      | apply cw_skip
      | apply cw_ret
      | apply cw_block
      | apply cw_exit
    refine ends [⟨none, [], 5⟩] (RVal.tmp rfl (RVal.tmp rfl RVal.nil)) (by (repeat (first | exact Pick.nil | (apply Pick.cons; (focus ((repeat (first | exact Spl.here | apply Spl.there)); done))) | exact Pick.refl | exact Pick.skip1 | exact Pick.skip2))) ?_
    exact ⟨_, rfl, RowRes.nil8⟩
  · rw [if_neg hok]
    have hok1 : okI 8 x = true := by simpa using hok
    rw [hok1] at kv
    have kw' := fun (w' : World) (h : View.le M (View.of w')) => kw w' h hok1
    clear kw
    generalize encI 8 x = E at *
    unfold WRA at kw'
    have hfin : ∀ o4, wrP [] E o4 → (if 16384 < E.length then ((5, []) : Nat × List Int) else (0, E)) = if 16384 < o4.length then (5, []) else (0, o4) := fun o4 h => by
      unfold wrP at h
      simp only [List.length_nil, Nat.zero_add, List.nil_append] at h
      by_cases hl : 16384 < E.length
      · rw [if_pos hl, if_pos (h.2 hl)]
      · rw [if_neg hl, h.1 (by omega), if_neg hl]
    repeat' first
      | apply cw_seq
      | (refine cw_region_id 0 ?_; (apply ol_val; exact rfl; first | (apply s_boxN; exact rfl; intro bk1) | (apply s_box1; exact rfl; exact rfl; intro bk1)); (apply ol_as; exact rfl; exact rfl); (apply ol_as; exact rfl; exact rfl); (apply ol_nil))
      | (refine cw_region_id 1 ?_; (apply ol_ldN; exact rfl; exact rfl; exact rfl; exact sz_41; (apply RdN.own; (focus ((repeat constructor); done)); (focus ((repeat (first | exact rfl | constructor)); done)))); (apply ol_val; exact rfl; apply s_callv; exact rfl; exact gf_40; (intro w' hw'; exact kv w' hw'.le)); (apply ol_val; exact rfl; apply stp_pur; first | (apply s_not_t; exact rfl; (first | exact rfl | assumption)) | (apply s_not_f; exact rfl; (first | exact rfl | assumption)) | (apply s_not; exact rfl)); (apply ol_nil))
      | (refine cw_region_id 3 ?_; (apply ol_ldN; exact rfl; exact rfl; exact rfl; exact sz_41; (apply RdN.own; (focus ((repeat constructor); done)); (focus ((repeat (first | exact rfl | constructor)); done)))); (apply ol_val; exact rfl; (apply s_callA (x := ⟨none, [], 5⟩); exact rfl; exact gf_41; (intro w' hw'; exact kw' w' hw'.le); (focus ((repeat (first | exact Spl.here | apply Spl.there)); done)); (intro v y h; obtain ⟨r4, c4, sp4, o4, hw4, hl4, rfl, rfl, so4⟩ := h))); all_goals (apply ol_as; exact rfl; exact rfl); all_goals (apply ol_nil))
      | (apply cw_cond_true; exact rfl; (first | exact rfl | assumption))
      | (apply cw_cond_false; exact rfl; (first | exact rfl | assumption))
      | apply cw_skip
      | apply cw_ret
      | apply cw_block
      | apply cw_exit
    rw [hfin o4 hw4]
    clear hfin hw4
    by_cases hl : 16384 < o4.length
    · rw [if_pos hl]
      repeat' first
        | apply cw_seq
        | (refine cw_region_id 4 ?_; (apply ol_mv; exact rfl; exact rfl); (apply ol_val; exact rfl; apply stp_pur; apply s_len; exact rfl; exact el_38); (apply ol_val; exact rfl; apply stp_cmp; apply s_gtr; exact rfl; exact rfl; all_goals (intro hc12; try (exfalso; (first | exact hc12 rfl | omega)))); all_goals (apply ol_nil))
        | (refine cw_region_id 5 ?_; (apply ol_as; exact rfl; exact rfl); (apply ol_as; exact rfl; exact rfl); (apply ol_nil))
        | (apply cw_cond_true; exact rfl; (first | exact rfl | assumption))
        | (apply cw_cond_false; exact rfl; (first | exact rfl | assumption))
        | apply cw_skip
        | apply cw_ret
        | apply cw_block
        | apply cw_exit
      refine ends [⟨none, [], 5⟩] (RVal.tmp rfl (RVal.tmp rfl RVal.nil)) (by (repeat (first | exact Pick.nil | (apply Pick.cons; (focus ((repeat (first | exact Spl.here | apply Spl.there)); done))) | exact Pick.refl | exact Pick.skip1 | exact Pick.skip2))) ?_
      exact ⟨_, rfl, RowRes.nil8⟩
    · rw [if_neg hl]
      repeat' first
        | apply cw_seq
        | (refine cw_region_id 4 ?_; (apply ol_mv; exact rfl; exact rfl); (apply ol_val; exact rfl; apply stp_pur; apply s_len; exact rfl; exact el_38); (apply ol_val; exact rfl; apply stp_cmp; apply s_gtr; exact rfl; exact rfl; all_goals (intro hc12; try (exfalso; (first | exact hc12 rfl | omega)))); all_goals (apply ol_nil))
        | (refine cw_region_id 6 ?_; (apply ol_mv; exact rfl; exact rfl); (apply ol_as; exact rfl; exact rfl); (apply ol_as; exact rfl; exact rfl); (apply ol_nil))
        | (apply cw_cond_true; exact rfl; (first | exact rfl | assumption))
        | (apply cw_cond_false; exact rfl; (first | exact rfl | assumption))
        | apply cw_skip
        | apply cw_ret
        | apply cw_block
        | apply cw_exit
      refine ends [⟨r4, flat (eK .u8) o4 ++ sp4, 5⟩] (RVal.tmp rfl (RVal.tmp rfl RVal.nil)) (by (repeat (first | exact Pick.nil | (apply Pick.cons; (focus ((repeat (first | exact Spl.here | apply Spl.there)); done))) | exact Pick.refl | exact Pick.skip1 | exact Pick.skip2))) ?_
      exact ⟨_, rfl, r4, none, c4, sp4, rfl, rfl, so4⟩
end Go.Proofs.YtkbbbflojebfgaaDoor

/-
  The reference's Encode: integers and bytes.
-/
namespace Go.Proofs.YtkbbbflojebfgaaDoor
set_option maxRecDepth 20000
set_option linter.unusedSimpArgs false
set_option linter.unusedVariables false
open Go Go.Fw
attribute [local irreducible] CW OL OD FX Stp FnC FnV FnA Ret bI bmid encI wrP okI
set_option maxHeartbeats 1600000
theorem rencode_leaf {M : View} {w : World} (hM : View.le M (View.of w)) {d : Nat} {x : It d} (hv : HdV M x.hd) (hk : okH x.hd = true) :
    FnC Tryd.prog 24 [.agg x.enc.toArray] w (RowRes (eK .u8) 1 5 (encH x.hd)) := by
  have hkk : x.hd.k = 1 ∨ x.hd.k = 2 := by unfold okH at hk; simp at hk; rcases hk with h | h <;> simp [h.1]
  have e1 := encH_1 (h := x.hd)
  have e2 := encH_2 (h := x.hd)
  unfold It.enc
  generalize x.hd = h at *
  obtain ⟨k, nn, ⟨xs, Ba, Bb, Bo, Bc⟩, La, Lb, Lo, Lc, m⟩ := h
  dsimp only at hkk e1 e2 ⊢
  obtain ⟨hvB, hvb, hvl, _⟩ := hv
  dsimp only at hvB hvb hvl
  refine enterF (M := M) Tryd.func24 rfl rfl rfl rfl hM ?_
  rcases hkk with rfl | rfl
  · rw [e1 rfl]
    have hu := (u64_cast nn).symm
    have kn := fun (w' : World) => rnumberB_spec w' (N := u64 nn) (size := 8) (u64_lt nn) (by omega)
    have hbl := bI_length 8 (u64 nn)
    unfold RowRes at kn
    rw [hbl] at kn
    generalize bI 8 (u64 nn) = X at *
    have hf : flat (eK .u8) ([1] ++ X) = [.int .u8 1] ++ flat (eK .u8) X := flat_append _ _ _
    have hl : ([1] ++ X).length = 1 + 8 := by rw [List.length_append, hbl]; rfl
    repeat' first
      | apply cw_seq
      | (refine cw_region_id 0 ?_; (apply ol_val; exact rfl; first | (apply s_boxN; exact rfl; intro bk1) | (apply s_box1; exact rfl; exact rfl; intro bk1)); (apply ol_as; exact rfl; exact rfl); (apply ol_nil))
      | (refine cw_region_id 1 ?_; (apply ol_fa; exact rfl; exact rfl; exact fd_41_0; (first | exact Nat.zero_add _ | exact Nat.add_zero _ | exact rfl)); (apply ol_ld; exact rfl; exact rfl; exact rfl; (apply RdN.own; (focus ((repeat constructor); done)); (first | exact GetN.cons rfl GetN.nil | (apply getN_ints_app; (first | omega | (simp; omega) | (simp; done))) | (apply getN_ints; (first | omega | (simp; omega) | (simp; done)))))); (apply ol_nil))
      | (refine cw_region_id 2 ?_; (apply ol_val; exact rfl; apply stp_cmp; apply s_eql; exact rfl; exact rfl; all_goals (intro hc8; try (exfalso; (first | exact hc8 rfl | omega)))); all_goals (apply ol_as; exact rfl; exact rfl); all_goals (apply ol_nil))
      | (refine cw_region_id 3 ?_; (apply ol_val; exact rfl; apply s_buildSl; exact rfl; exact el_38; exact sz_5; exact zb_5; (focus ((repeat constructor); done)); exact rfl; exact rfl; (exact Nat.le_of_ble_eq_true rfl); (focus ((repeat constructor); done)); (focus ((repeat (first | exact rfl | constructor)); done)); intro bk9); (apply ol_fa; exact rfl; exact rfl; exact fd_41_1; (first | exact Nat.zero_add _ | exact Nat.add_zero _ | exact rfl)); (apply ol_ld; exact rfl; exact rfl; exact rfl; (apply RdN.own; (focus ((repeat constructor); done)); (first | exact GetN.cons rfl GetN.nil | (apply getN_ints_app; (first | omega | (simp; omega) | (simp; done))) | (apply getN_ints; (first | omega | (simp; omega) | (simp; done)))))); (apply ol_val; exact rfl; apply stp_pur; first | (apply s_conv; exact rfl; exact rfl; exact ti_73; (focus (apply wrap_u64; omega))) | (apply s_conv; exact rfl; exact rfl; exact ti_73; exact hu) | (apply s_conv; exact rfl; exact rfl; exact ti_73; exact rfl)); (apply ol_val; exact rfl; apply s_call; exact rfl; exact gf_37; (intro w' hw'; exact kn w'); ((intro v new h; obtain ⟨r1, A1, c1, s1, rfl, rfl, so1⟩ := h; obtain ⟨q1, rfl⟩ : ∃ q, r1 = some q := ⟨_, some_ref so1 (by omega)⟩))); (apply ol_val; exact rfl; first | (apply s_append_e; exact rfl; exact rfl; (focus ((repeat constructor); done)); exact el_38; exact sz_5; exact zb_5; exact rfl; exact by_5; (first | exact (fun _ => rfl) | (intro _; exact (show base (some q1) A1 = _ from rfl))); (first | (apply RdN.own; (focus ((repeat constructor); done)); (focus ((repeat (first | exact rfl | constructor)); done))) | (apply RdN.own; (repeat (first | exact Has.here | apply Has.there)); exact getNK_n hbl)); (first | exact rfl | exact flatK_ones); (first | omega | (simp; omega) | (simp; done)); (first | omega | (simp; omega) | (simp; done)); intro rk14 sk14 ck14 ok14) | (apply s_append_r; exact rfl; exact rfl; (focus ((repeat constructor); done)); (first | exact rfl | exact (List.append_nil _).symm); exact el_38; exact sz_5; exact zb_5; exact rfl; exact by_5; (first | exact SO.nil _ | assumption | (exact ⟨by simp, by simp, Nat.le_refl _, by simp⟩)); (first | exact (fun _ => rfl) | (intro _; exact (show base (some q1) A1 = _ from rfl))); (first | (apply RdN.own; (focus ((repeat constructor); done)); (focus ((repeat (first | exact rfl | constructor)); done))) | (apply RdN.own; (repeat (first | exact Has.here | apply Has.there)); exact getNK_n hbl)); (first | exact rfl | exact flatK_ones); (first | omega | (simp; omega) | (simp; done)); (first | omega | (simp; omega) | (simp; done)); intro rk14 sk14 ck14 ok14) | (apply s_append_b; exact rfl; exact rfl; (focus ((repeat constructor); done)); (first | exact rfl | exact (List.append_nil _).symm); exact el_38; exact sz_5; exact zb_5; exact rfl; exact by_5; (first | exact SO.nil _ | assumption | (exact ⟨by simp, by simp, Nat.le_refl _, by simp⟩)); (first | exact (fun _ => rfl) | (intro _; exact (show base (some q1) A1 = _ from rfl))); (first | (apply RdN.own; (focus ((repeat constructor); done)); (focus ((repeat (first | exact rfl | constructor)); done))) | (apply RdN.own; (repeat (first | exact Has.here | apply Has.there)); exact getNK_n hbl)); (first | exact rfl | exact flatK_ones); (first | omega | (simp; omega) | (simp; done)); (first | omega | (simp; omega) | (simp; done)); intro rk14 sk14 ck14 ok14) | (apply s_append_n; exact rfl; exact rfl; (focus ((repeat constructor); done)); exact el_38; exact sz_5; exact zb_5; exact rfl; exact by_5; (first | exact (fun _ => rfl) | (intro _; exact (show base (some q1) A1 = _ from rfl))); (first | (apply RdN.own; (focus ((repeat constructor); done)); (focus ((repeat (first | exact rfl | constructor)); done))) | (apply RdN.own; (repeat (first | exact Has.here | apply Has.there)); exact getNK_n hbl)); (first | exact rfl | exact flatK_ones); (first | omega | (simp; omega) | (simp; done)); (first | omega | (simp; omega) | (simp; done)); intro rk14 sk14 ck14 ok14)); (apply ol_as; exact rfl; exact rfl); (apply ol_nil))
      | (apply cw_cond_true; exact rfl; (first | exact rfl | assumption))
      | (apply cw_cond_false; exact rfl; (first | exact rfl | assumption))
      | apply cw_skip
      | apply cw_ret
      | apply cw_block
      | apply cw_exit
    refine ends [⟨rk14, flat (eK .u8) ([1] ++ X) ++ sk14, 5⟩] (RVal.tmp rfl RVal.nil) (by rw [hf]; (repeat (first | exact Pick.nil | (apply Pick.cons; (focus ((repeat (first | exact Spl.here | apply Spl.there)); done))) | exact Pick.refl | exact Pick.skip1 | exact Pick.skip2))) ?_
    exact ⟨rk14, none, ck14, sk14, by rw [hl]; rfl, rfl, by rw [hl, hf]; exact ok14⟩
  · rw [e2 rfl]
    have hu := (u64_cast (xs.length : Int)).symm
    rw [u64_nat (by omega)] at hu
    have kn := fun (w' : World) => rnumberB_spec w' (N := xs.length) (size := 4) (by omega) (by omega)
    have hbl := bI_length 4 xs.length
    unfold RowRes at kn
    rw [hbl] at kn
    generalize bI 4 xs.length = X at *
    have hf : flat (eK .u8) ([2] ++ X ++ xs) = [.int .u8 2] ++ flat (eK .u8) X ++ flat (eK .u8) xs := by rw [flat_append, flat_append]; rfl
    have hl : ([2] ++ X ++ xs).length = 1 + 4 + xs.length := by rw [List.length_append, List.length_append, hbl]; rfl
    have hall := SlA.all (eK_length .u8) hvB
    repeat' first
      | apply cw_seq
      | (refine cw_region_id 0 ?_; (apply ol_val; exact rfl; first | (apply s_boxN; exact rfl; intro bk1) | (apply s_box1; exact rfl; exact rfl; intro bk1)); (apply ol_as; exact rfl; exact rfl); (apply ol_nil))
      | (refine cw_region_id 1 ?_; (apply ol_fa; exact rfl; exact rfl; exact fd_41_0; (first | exact Nat.zero_add _ | exact Nat.add_zero _ | exact rfl)); (apply ol_ld; exact rfl; exact rfl; exact rfl; (apply RdN.own; (focus ((repeat constructor); done)); (first | exact GetN.cons rfl GetN.nil | (apply getN_ints_app; (first | omega | (simp; omega) | (simp; done))) | (apply getN_ints; (first | omega | (simp; omega) | (simp; done)))))); (apply ol_nil))
      | (refine cw_region_id 2 ?_; (apply ol_val; exact rfl; apply stp_cmp; apply s_eql; exact rfl; exact rfl; all_goals (intro hc8; try (exfalso; (first | exact hc8 rfl | omega)))); all_goals (apply ol_as; exact rfl; exact rfl); all_goals (apply ol_nil))
      | (refine cw_region_id 4 ?_; (apply ol_val; exact rfl; apply stp_cmp; apply s_eql; exact rfl; exact rfl; all_goals (intro hc16; try (exfalso; (first | exact hc16 rfl | omega)))); all_goals (apply ol_as; exact rfl; exact rfl); all_goals (apply ol_nil))
      | (refine cw_draw (id := 5) 11 (.mv 1 (.mv 2 (.mv 3 (.mv 4 (.mv 7 (.mv 8 (.br 0 (.fx 5 (.fx 6 (.fx 9 (.mv 10 (PT.nil))))) 5 (.fx 0 (.fx 6 (.fx 9 (.mv 10 (PT.nil)))))))))))) mixed (by kernel_rfl) ?_; (apply od_mv; exact rfl; exact rfl; apply s_fieldAddr'; exact rfl; exact fd_41_2; (first | exact Nat.zero_add _ | exact Nat.add_zero _ | exact rfl)); (apply od_mv; exact rfl; exact rfl; apply s_load1; exact rfl; exact rfl; (apply RdN.own; (focus ((repeat constructor); done)); exact GetN.cons rfl GetN.nil)); (apply od_mv; exact rfl; exact rfl; apply s_len; exact rfl; exact el_38); (apply od_mv; exact rfl; exact rfl; first | (apply s_conv; exact rfl; exact rfl; exact ti_73; (focus (apply wrap_u64; omega))) | (apply s_conv; exact rfl; exact rfl; exact ti_73; exact hu) | (apply s_conv; exact rfl; exact rfl; exact ti_73; exact rfl)); (apply od_mv; exact rfl; exact rfl; apply s_fieldAddr'; exact rfl; exact fd_41_2; (first | exact Nat.zero_add _ | exact Nat.add_zero _ | exact rfl)); (apply od_mv; exact rfl; exact rfl; apply s_load1; exact rfl; exact rfl; (apply RdN.own; (focus ((repeat constructor); done)); exact GetN.cons rfl GetN.nil)); (apply od_br; (first | exact Wk.refl _ _ | (focus (apply Wk.mk; (first | exact View.le.refl _ | assumption | exact View.le.trans (by assumption) (by assumption)); (repeat constructor); done)))); all_goals (first | (refine fx_at 0 ?_; (apply fx_val; exact rfl; exact rfl; apply s_buildSl; exact rfl; exact el_38; exact sz_5; exact zb_5; (focus ((repeat constructor); done)); exact rfl; exact rfl; (exact Nat.le_of_ble_eq_true rfl); (focus ((repeat constructor); done)); (focus ((repeat (first | exact rfl | constructor)); done)); intro bk17); (apply od_fx; (first | exact Wk.refl _ _ | (focus (apply Wk.mk; (first | exact View.le.refl _ | assumption | exact View.le.trans (by assumption) (by assumption)); (repeat constructor); done))); (apply fx_val; exact rfl; exact rfl; apply s_call; exact rfl; exact gf_37; (intro w' hw'; exact kn w'); ((intro v new h; obtain ⟨r1, A1, c1, s1, rfl, rfl, so1⟩ := h; obtain ⟨q1, rfl⟩ : ∃ q, r1 = some q := ⟨_, some_ref so1 (by omega)⟩)))); (apply od_fx; (first | exact Wk.refl _ _ | (focus (apply Wk.mk; (first | exact View.le.refl _ | assumption | exact View.le.trans (by assumption) (by assumption)); (repeat constructor); done))); (apply fx_val; exact rfl; exact rfl; first | (apply s_append_e; exact rfl; exact rfl; (focus ((repeat constructor); done)); exact el_38; exact sz_5; exact zb_5; exact rfl; exact by_5; (first | exact (fun _ => rfl) | (intro _; (first | exact (show base (some q1) A1 = _ from rfl) | exact hvB.at_ (by omega)))); (first | (apply RdN.own; (focus ((repeat constructor); done)); (focus ((repeat (first | exact rfl | constructor)); done))) | (first | (apply RdN.own; (repeat (first | exact Has.here | apply Has.there)); exact getNK_n hbl) | (apply RdN.view; exact hall))); (first | exact rfl | exact flatK_ones); (first | omega | (simp; omega) | (simp; done)); (first | omega | (simp; omega) | (simp; done)); intro rk23 sk23 ck23 ok23) | (apply s_append_r; exact rfl; exact rfl; (focus ((repeat constructor); done)); (first | exact rfl | exact (List.append_nil _).symm); exact el_38; exact sz_5; exact zb_5; exact rfl; exact by_5; (first | exact SO.nil _ | assumption | (exact ⟨by simp, by simp, Nat.le_refl _, by simp⟩)); (first | exact (fun _ => rfl) | (intro _; (first | exact (show base (some q1) A1 = _ from rfl) | exact hvB.at_ (by omega)))); (first | (apply RdN.own; (focus ((repeat constructor); done)); (focus ((repeat (first | exact rfl | constructor)); done))) | (first | (apply RdN.own; (repeat (first | exact Has.here | apply Has.there)); exact getNK_n hbl) | (apply RdN.view; exact hall))); (first | exact rfl | exact flatK_ones); (first | omega | (simp; omega) | (simp; done)); (first | omega | (simp; omega) | (simp; done)); intro rk23 sk23 ck23 ok23) | (apply s_append_b; exact rfl; exact rfl; (focus ((repeat constructor); done)); (first | exact rfl | exact (List.append_nil _).symm); exact el_38; exact sz_5; exact zb_5; exact rfl; exact by_5; (first | exact SO.nil _ | assumption | (exact ⟨by simp, by simp, Nat.le_refl _, by simp⟩)); (first | exact (fun _ => rfl) | (intro _; (first | exact (show base (some q1) A1 = _ from rfl) | exact hvB.at_ (by omega)))); (first | (apply RdN.own; (focus ((repeat constructor); done)); (focus ((repeat (first | exact rfl | constructor)); done))) | (first | (apply RdN.own; (repeat (first | exact Has.here | apply Has.there)); exact getNK_n hbl) | (apply RdN.view; exact hall))); (first | exact rfl | exact flatK_ones); (first | omega | (simp; omega) | (simp; done)); (first | omega | (simp; omega) | (simp; done)); intro rk23 sk23 ck23 ok23) | (apply s_append_n; exact rfl; exact rfl; (focus ((repeat constructor); done)); exact el_38; exact sz_5; exact zb_5; exact rfl; exact by_5; (first | exact (fun _ => rfl) | (intro _; (first | exact (show base (some q1) A1 = _ from rfl) | exact hvB.at_ (by omega)))); (first | (apply RdN.own; (focus ((repeat constructor); done)); (focus ((repeat (first | exact rfl | constructor)); done))) | (first | (apply RdN.own; (repeat (first | exact Has.here | apply Has.there)); exact getNK_n hbl) | (apply RdN.view; exact hall))); (first | exact rfl | exact flatK_ones); (first | omega | (simp; omega) | (simp; done)); (first | omega | (simp; omega) | (simp; done)); intro rk23 sk23 ck23 ok23))); (apply od_fx; (first | exact Wk.refl _ _ | (focus (apply Wk.mk; (first | exact View.le.refl _ | assumption | exact View.le.trans (by assumption) (by assumption)); (repeat constructor); done))); (apply fx_val; exact rfl; exact rfl; first | (apply s_append_e; exact rfl; exact rfl; (focus ((repeat constructor); done)); exact el_38; exact sz_5; exact zb_5; exact rfl; exact by_5; (first | exact (fun _ => rfl) | (intro _; (first | exact (show base (some q1) A1 = _ from rfl) | exact hvB.at_ (by omega)))); (first | (apply RdN.own; (focus ((repeat constructor); done)); (focus ((repeat (first | exact rfl | constructor)); done))) | (first | (apply RdN.own; (repeat (first | exact Has.here | apply Has.there)); exact getNK_n hbl) | (apply RdN.view; exact hall))); (first | exact rfl | exact flatK_ones); (first | omega | (simp; omega) | (simp; done)); (first | omega | (simp; omega) | (simp; done)); intro rk26 sk26 ck26 ok26) | (apply s_append_r; exact rfl; exact rfl; (focus ((repeat constructor); done)); (first | exact rfl | exact (List.append_nil _).symm); exact el_38; exact sz_5; exact zb_5; exact rfl; exact by_5; (first | exact SO.nil _ | assumption | (exact ⟨by simp, by simp, Nat.le_refl _, by simp⟩)); (first | exact (fun _ => rfl) | (intro _; (first | exact (show base (some q1) A1 = _ from rfl) | exact hvB.at_ (by omega)))); (first | (apply RdN.own; (focus ((repeat constructor); done)); (focus ((repeat (first | exact rfl | constructor)); done))) | (first | (apply RdN.own; (repeat (first | exact Has.here | apply Has.there)); exact getNK_n hbl) | (apply RdN.view; exact hall))); (first | exact rfl | exact flatK_ones); (first | omega | (simp; omega) | (simp; done)); (first | omega | (simp; omega) | (simp; done)); intro rk26 sk26 ck26 ok26) | (apply s_append_b; exact rfl; exact rfl; (focus ((repeat constructor); done)); (first | exact rfl | exact (List.append_nil _).symm); exact el_38; exact sz_5; exact zb_5; exact rfl; exact by_5; (first | exact SO.nil _ | assumption | (exact ⟨by simp, by simp, Nat.le_refl _, by simp⟩)); (first | exact (fun _ => rfl) | (intro _; (first | exact (show base (some q1) A1 = _ from rfl) | exact hvB.at_ (by omega)))); (first | (apply RdN.own; (focus ((repeat constructor); done)); (focus ((repeat (first | exact rfl | constructor)); done))) | (first | (apply RdN.own; (repeat (first | exact Has.here | apply Has.there)); exact getNK_n hbl) | (apply RdN.view; exact hall))); (first | exact rfl | exact flatK_ones); (first | omega | (simp; omega) | (simp; done)); (first | omega | (simp; omega) | (simp; done)); intro rk26 sk26 ck26 ok26) | (apply s_append_n; exact rfl; exact rfl; (focus ((repeat constructor); done)); exact el_38; exact sz_5; exact zb_5; exact rfl; exact by_5; (first | exact (fun _ => rfl) | (intro _; (first | exact (show base (some q1) A1 = _ from rfl) | exact hvB.at_ (by omega)))); (first | (apply RdN.own; (focus ((repeat constructor); done)); (focus ((repeat (first | exact rfl | constructor)); done))) | (first | (apply RdN.own; (repeat (first | exact Has.here | apply Has.there)); exact getNK_n hbl) | (apply RdN.view; exact hall))); (first | exact rfl | exact flatK_ones); (first | omega | (simp; omega) | (simp; done)); (first | omega | (simp; omega) | (simp; done)); intro rk26 sk26 ck26 ok26))); (apply od_mv; exact rfl; exact rfl; apply s_assign; exact rfl); (apply od_nil; (first | exact Wk.refl _ _ | (focus (apply Wk.mk; (first | exact View.le.refl _ | assumption | exact View.le.trans (by assumption) (by assumption)); (repeat constructor); done)))); (apply ol_nil)) | (refine fx_at 5 ?_; (apply fx_val; exact rfl; exact rfl; apply s_call; exact rfl; exact gf_37; (intro w' hw'; exact kn w'); ((intro v new h; obtain ⟨r1, A1, c1, s1, rfl, rfl, so1⟩ := h; obtain ⟨q1, rfl⟩ : ∃ q, r1 = some q := ⟨_, some_ref so1 (by omega)⟩))); (apply od_fx; (first | exact Wk.refl _ _ | (focus (apply Wk.mk; (first | exact View.le.refl _ | assumption | exact View.le.trans (by assumption) (by assumption)); (repeat constructor); done))); (apply fx_val; exact rfl; exact rfl; apply s_buildSl; exact rfl; exact el_38; exact sz_5; exact zb_5; (focus ((repeat constructor); done)); exact rfl; exact rfl; (exact Nat.le_of_ble_eq_true rfl); (focus ((repeat constructor); done)); (focus ((repeat (first | exact rfl | constructor)); done)); intro bk17)); (apply od_fx; (first | exact Wk.refl _ _ | (focus (apply Wk.mk; (first | exact View.le.refl _ | assumption | exact View.le.trans (by assumption) (by assumption)); (repeat constructor); done))); (apply fx_val; exact rfl; exact rfl; first | (apply s_append_e; exact rfl; exact rfl; (focus ((repeat constructor); done)); exact el_38; exact sz_5; exact zb_5; exact rfl; exact by_5; (first | exact (fun _ => rfl) | (intro _; (first | exact (show base (some q1) A1 = _ from rfl) | exact hvB.at_ (by omega)))); (first | (apply RdN.own; (focus ((repeat constructor); done)); (focus ((repeat (first | exact rfl | constructor)); done))) | (first | (apply RdN.own; (repeat (first | exact Has.here | apply Has.there)); exact getNK_n hbl) | (apply RdN.view; exact hall))); (first | exact rfl | exact flatK_ones); (first | omega | (simp; omega) | (simp; done)); (first | omega | (simp; omega) | (simp; done)); intro rk23 sk23 ck23 ok23) | (apply s_append_r; exact rfl; exact rfl; (focus ((repeat constructor); done)); (first | exact rfl | exact (List.append_nil _).symm); exact el_38; exact sz_5; exact zb_5; exact rfl; exact by_5; (first | exact SO.nil _ | assumption | (exact ⟨by simp, by simp, Nat.le_refl _, by simp⟩)); (first | exact (fun _ => rfl) | (intro _; (first | exact (show base (some q1) A1 = _ from rfl) | exact hvB.at_ (by omega)))); (first | (apply RdN.own; (focus ((repeat constructor); done)); (focus ((repeat (first | exact rfl | constructor)); done))) | (first | (apply RdN.own; (repeat (first | exact Has.here | apply Has.there)); exact getNK_n hbl) | (apply RdN.view; exact hall))); (first | exact rfl | exact flatK_ones); (first | omega | (simp; omega) | (simp; done)); (first | omega | (simp; omega) | (simp; done)); intro rk23 sk23 ck23 ok23) | (apply s_append_b; exact rfl; exact rfl; (focus ((repeat constructor); done)); (first | exact rfl | exact (List.append_nil _).symm); exact el_38; exact sz_5; exact zb_5; exact rfl; exact by_5; (first | exact SO.nil _ | assumption | (exact ⟨by simp, by simp, Nat.le_refl _, by simp⟩)); (first | exact (fun _ => rfl) | (intro _; (first | exact (show base (some q1) A1 = _ from rfl) | exact hvB.at_ (by omega)))); (first | (apply RdN.own; (focus ((repeat constructor); done)); (focus ((repeat (first | exact rfl | constructor)); done))) | (first | (apply RdN.own; (repeat (first | exact Has.here | apply Has.there)); exact getNK_n hbl) | (apply RdN.view; exact hall))); (first | exact rfl | exact flatK_ones); (first | omega | (simp; omega) | (simp; done)); (first | omega | (simp; omega) | (simp; done)); intro rk23 sk23 ck23 ok23) | (apply s_append_n; exact rfl; exact rfl; (focus ((repeat constructor); done)); exact el_38; exact sz_5; exact zb_5; exact rfl; exact by_5; (first | exact (fun _ => rfl) | (intro _; (first | exact (show base (some q1) A1 = _ from rfl) | exact hvB.at_ (by omega)))); (first | (apply RdN.own; (focus ((repeat constructor); done)); (focus ((repeat (first | exact rfl | constructor)); done))) | (first | (apply RdN.own; (repeat (first | exact Has.here | apply Has.there)); exact getNK_n hbl) | (apply RdN.view; exact hall))); (first | exact rfl | exact flatK_ones); (first | omega | (simp; omega) | (simp; done)); (first | omega | (simp; omega) | (simp; done)); intro rk23 sk23 ck23 ok23))); (apply od_fx; (first | exact Wk.refl _ _ | (focus (apply Wk.mk; (first | exact View.le.refl _ | assumption | exact View.le.trans (by assumption) (by assumption)); (repeat constructor); done))); (apply fx_val; exact rfl; exact rfl; first | (apply s_append_e; exact rfl; exact rfl; (focus ((repeat constructor); done)); exact el_38; exact sz_5; exact zb_5; exact rfl; exact by_5; (first | exact (fun _ => rfl) | (intro _; (first | exact (show base (some q1) A1 = _ from rfl) | exact hvB.at_ (by omega)))); (first | (apply RdN.own; (focus ((repeat constructor); done)); (focus ((repeat (first | exact rfl | constructor)); done))) | (first | (apply RdN.own; (repeat (first | exact Has.here | apply Has.there)); exact getNK_n hbl) | (apply RdN.view; exact hall))); (first | exact rfl | exact flatK_ones); (first | omega | (simp; omega) | (simp; done)); (first | omega | (simp; omega) | (simp; done)); intro rk26 sk26 ck26 ok26) | (apply s_append_r; exact rfl; exact rfl; (focus ((repeat constructor); done)); (first | exact rfl | exact (List.append_nil _).symm); exact el_38; exact sz_5; exact zb_5; exact rfl; exact by_5; (first | exact SO.nil _ | assumption | (exact ⟨by simp, by simp, Nat.le_refl _, by simp⟩)); (first | exact (fun _ => rfl) | (intro _; (first | exact (show base (some q1) A1 = _ from rfl) | exact hvB.at_ (by omega)))); (first | (apply RdN.own; (focus ((repeat constructor); done)); (focus ((repeat (first | exact rfl | constructor)); done))) | (first | (apply RdN.own; (repeat (first | exact Has.here | apply Has.there)); exact getNK_n hbl) | (apply RdN.view; exact hall))); (first | exact rfl | exact flatK_ones); (first | omega | (simp; omega) | (simp; done)); (first | omega | (simp; omega) | (simp; done)); intro rk26 sk26 ck26 ok26) | (apply s_append_b; exact rfl; exact rfl; (focus ((repeat constructor); done)); (first | exact rfl | exact (List.append_nil _).symm); exact el_38; exact sz_5; exact zb_5; exact rfl; exact by_5; (first | exact SO.nil _ | assumption | (exact ⟨by simp, by simp, Nat.le_refl _, by simp⟩)); (first | exact (fun _ => rfl) | (intro _; (first | exact (show base (some q1) A1 = _ from rfl) | exact hvB.at_ (by omega)))); (first | (apply RdN.own; (focus ((repeat constructor); done)); (focus ((repeat (first | exact rfl | constructor)); done))) | (first | (apply RdN.own; (repeat (first | exact Has.here | apply Has.there)); exact getNK_n hbl) | (apply RdN.view; exact hall))); (first | exact rfl | exact flatK_ones); (first | omega | (simp; omega) | (simp; done)); (first | omega | (simp; omega) | (simp; done)); intro rk26 sk26 ck26 ok26) | (apply s_append_n; exact rfl; exact rfl; (focus ((repeat constructor); done)); exact el_38; exact sz_5; exact zb_5; exact rfl; exact by_5; (first | exact (fun _ => rfl) | (intro _; (first | exact (show base (some q1) A1 = _ from rfl) | exact hvB.at_ (by omega)))); (first | (apply RdN.own; (focus ((repeat constructor); done)); (focus ((repeat (first | exact rfl | constructor)); done))) | (first | (apply RdN.own; (repeat (first | exact Has.here | apply Has.there)); exact getNK_n hbl) | (apply RdN.view; exact hall))); (first | exact rfl | exact flatK_ones); (first | omega | (simp; omega) | (simp; done)); (first | omega | (simp; omega) | (simp; done)); intro rk26 sk26 ck26 ok26))); (apply od_mv; exact rfl; exact rfl; apply s_assign; exact rfl); (apply od_nil; (first | exact Wk.refl _ _ | (focus (apply Wk.mk; (first | exact View.le.refl _ | assumption | exact View.le.trans (by assumption) (by assumption)); (repeat constructor); done)))); (apply ol_nil))))
      | (refine cw_drawW (id := 5) (own0 := [⟨some bk1, [.int .i64 2, .int .i64 nn, .slice Ba xs.length Bc, .slice La m Lc], 41⟩]) 11 (.mv 1 (.mv 2 (.mv 3 (.mv 4 (.mv 7 (.mv 8 (.br 0 (.fx 5 (.fx 6 (.fx 9 (.mv 10 (PT.nil))))) 5 (.fx 0 (.fx 6 (.fx 9 (.mv 10 (PT.nil)))))))))))) mixed (by kernel_rfl) (by (first | exact Wk.refl _ _ | (focus (apply Wk.mk; (first | exact View.le.refl _ | assumption | exact View.le.trans (by assumption) (by assumption)); (repeat constructor); done)))) ?_; (apply od_mv; exact rfl; exact rfl; apply s_fieldAddr'; exact rfl; exact fd_41_2; (first | exact Nat.zero_add _ | exact Nat.add_zero _ | exact rfl)); (apply od_mv; exact rfl; exact rfl; apply s_load1; exact rfl; exact rfl; (apply RdN.own; (focus ((repeat constructor); done)); exact GetN.cons rfl GetN.nil)); (apply od_mv; exact rfl; exact rfl; apply s_len; exact rfl; exact el_38); (apply od_mv; exact rfl; exact rfl; first | (apply s_conv; exact rfl; exact rfl; exact ti_73; (focus (apply wrap_u64; omega))) | (apply s_conv; exact rfl; exact rfl; exact ti_73; exact hu) | (apply s_conv; exact rfl; exact rfl; exact ti_73; exact rfl)); (apply od_mv; exact rfl; exact rfl; apply s_fieldAddr'; exact rfl; exact fd_41_2; (first | exact Nat.zero_add _ | exact Nat.add_zero _ | exact rfl)); (apply od_mv; exact rfl; exact rfl; apply s_load1; exact rfl; exact rfl; (apply RdN.own; (focus ((repeat constructor); done)); exact GetN.cons rfl GetN.nil)); (apply od_br; (first | exact Wk.refl _ _ | (focus (apply Wk.mk; (first | exact View.le.refl _ | assumption | exact View.le.trans (by assumption) (by assumption)); (repeat constructor); done)))); all_goals (first | (refine fx_at 0 ?_; (apply fx_val; exact rfl; exact rfl; apply s_buildSl; exact rfl; exact el_38; exact sz_5; exact zb_5; (focus ((repeat constructor); done)); exact rfl; exact rfl; (exact Nat.le_of_ble_eq_true rfl); (focus ((repeat constructor); done)); (focus ((repeat (first | exact rfl | constructor)); done)); intro bk17); (apply od_fx; (first | exact Wk.refl _ _ | (focus (apply Wk.mk; (first | exact View.le.refl _ | assumption | exact View.le.trans (by assumption) (by assumption)); (repeat constructor); done))); (apply fx_val; exact rfl; exact rfl; apply s_call; exact rfl; exact gf_37; (intro w' hw'; exact kn w'); ((intro v new h; obtain ⟨r1, A1, c1, s1, rfl, rfl, so1⟩ := h; obtain ⟨q1, rfl⟩ : ∃ q, r1 = some q := ⟨_, some_ref so1 (by omega)⟩)))); (apply od_fx; (first | exact Wk.refl _ _ | (focus (apply Wk.mk; (first | exact View.le.refl _ | assumption | exact View.le.trans (by assumption) (by assumption)); (repeat constructor); done))); (apply fx_val; exact rfl; exact rfl; first | (apply s_append_e; exact rfl; exact rfl; (focus ((repeat constructor); done)); exact el_38; exact sz_5; exact zb_5; exact rfl; exact by_5; (first | exact (fun _ => rfl) | (intro _; (first | exact (show base (some q1) A1 = _ from rfl) | exact hvB.at_ (by omega)))); (first | (apply RdN.own; (focus ((repeat constructor); done)); (focus ((repeat (first | exact rfl | constructor)); done))) | (first | (apply RdN.own; (repeat (first | exact Has.here | apply Has.there)); exact getNK_n hbl) | (apply RdN.view; exact hall))); (first | exact rfl | exact flatK_ones); (first | omega | (simp; omega) | (simp; done)); (first | omega | (simp; omega) | (simp; done)); intro rk23 sk23 ck23 ok23) | (apply s_append_r; exact rfl; exact rfl; (focus ((repeat constructor); done)); (first | exact rfl | exact (List.append_nil _).symm); exact el_38; exact sz_5; exact zb_5; exact rfl; exact by_5; (first | exact SO.nil _ | assumption | (exact ⟨by simp, by simp, Nat.le_refl _, by simp⟩)); (first | exact (fun _ => rfl) | (intro _; (first | exact (show base (some q1) A1 = _ from rfl) | exact hvB.at_ (by omega)))); (first | (apply RdN.own; (focus ((repeat constructor); done)); (focus ((repeat (first | exact rfl | constructor)); done))) | (first | (apply RdN.own; (repeat (first | exact Has.here | apply Has.there)); exact getNK_n hbl) | (apply RdN.view; exact hall))); (first | exact rfl | exact flatK_ones); (first | omega | (simp; omega) | (simp; done)); (first | omega | (simp; omega) | (simp; done)); intro rk23 sk23 ck23 ok23) | (apply s_append_b; exact rfl; exact rfl; (focus ((repeat constructor); done)); (first | exact rfl | exact (List.append_nil _).symm); exact el_38; exact sz_5; exact zb_5; exact rfl; exact by_5; (first | exact SO.nil _ | assumption | (exact ⟨by simp, by simp, Nat.le_refl _, by simp⟩)); (first | exact (fun _ => rfl) | (intro _; (first | exact (show base (some q1) A1 = _ from rfl) | exact hvB.at_ (by omega)))); (first | (apply RdN.own; (focus ((repeat constructor); done)); (focus ((repeat (first | exact rfl | constructor)); done))) | (first | (apply RdN.own; (repeat (first | exact Has.here | apply Has.there)); exact getNK_n hbl) | (apply RdN.view; exact hall))); (first | exact rfl | exact flatK_ones); (first | omega | (simp; omega) | (simp; done)); (first | omega | (simp; omega) | (simp; done)); intro rk23 sk23 ck23 ok23) | (apply s_append_n; exact rfl; exact rfl; (focus ((repeat constructor); done)); exact el_38; exact sz_5; exact zb_5; exact rfl; exact by_5; (first | exact (fun _ => rfl) | (intro _; (first | exact (show base (some q1) A1 = _ from rfl) | exact hvB.at_ (by omega)))); (first | (apply RdN.own; (focus ((repeat constructor); done)); (focus ((repeat (first | exact rfl | constructor)); done))) | (first | (apply RdN.own; (repeat (first | exact Has.here | apply Has.there)); exact getNK_n hbl) | (apply RdN.view; exact hall))); (first | exact rfl | exact flatK_ones); (first | omega | (simp; omega) | (simp; done)); (first | omega | (simp; omega) | (simp; done)); intro rk23 sk23 ck23 ok23))); (apply od_fx; (first | exact Wk.refl _ _ | (focus (apply Wk.mk; (first | exact View.le.refl _ | assumption | exact View.le.trans (by assumption) (by assumption)); (repeat constructor); done))); (apply fx_val; exact rfl; exact rfl; first | (apply s_append_e; exact rfl; exact rfl; (focus ((repeat constructor); done)); exact el_38; exact sz_5; exact zb_5; exact rfl; exact by_5; (first | exact (fun _ => rfl) | (intro _; (first | exact (show base (some q1) A1 = _ from rfl) | exact hvB.at_ (by omega)))); (first | (apply RdN.own; (focus ((repeat constructor); done)); (focus ((repeat (first | exact rfl | constructor)); done))) | (first | (apply RdN.own; (repeat (first | exact Has.here | apply Has.there)); exact getNK_n hbl) | (apply RdN.view; exact hall))); (first | exact rfl | exact flatK_ones); (first | omega | (simp; omega) | (simp; done)); (first | omega | (simp; omega) | (simp; done)); intro rk26 sk26 ck26 ok26) | (apply s_append_r; exact rfl; exact rfl; (focus ((repeat constructor); done)); (first | exact rfl | exact (List.append_nil _).symm); exact el_38; exact sz_5; exact zb_5; exact rfl; exact by_5; (first | exact SO.nil _ | assumption | (exact ⟨by simp, by simp, Nat.le_refl _, by simp⟩)); (first | exact (fun _ => rfl) | (intro _; (first | exact (show base (some q1) A1 = _ from rfl) | exact hvB.at_ (by omega)))); (first | (apply RdN.own; (focus ((repeat constructor); done)); (focus ((repeat (first | exact rfl | constructor)); done))) | (first | (apply RdN.own; (repeat (first | exact Has.here | apply Has.there)); exact getNK_n hbl) | (apply RdN.view; exact hall))); (first | exact rfl | exact flatK_ones); (first | omega | (simp; omega) | (simp; done)); (first | omega | (simp; omega) | (simp; done)); intro rk26 sk26 ck26 ok26) | (apply s_append_b; exact rfl; exact rfl; (focus ((repeat constructor); done)); (first | exact rfl | exact (List.append_nil _).symm); exact el_38; exact sz_5; exact zb_5; exact rfl; exact by_5; (first | exact SO.nil _ | assumption | (exact ⟨by simp, by simp, Nat.le_refl _, by simp⟩)); (first | exact (fun _ => rfl) | (intro _; (first | exact (show base (some q1) A1 = _ from rfl) | exact hvB.at_ (by omega)))); (first | (apply RdN.own; (focus ((repeat constructor); done)); (focus ((repeat (first | exact rfl | constructor)); done))) | (first | (apply RdN.own; (repeat (first | exact Has.here | apply Has.there)); exact getNK_n hbl) | (apply RdN.view; exact hall))); (first | exact rfl | exact flatK_ones); (first | omega | (simp; omega) | (simp; done)); (first | omega | (simp; omega) | (simp; done)); intro rk26 sk26 ck26 ok26) | (apply s_append_n; exact rfl; exact rfl; (focus ((repeat constructor); done)); exact el_38; exact sz_5; exact zb_5; exact rfl; exact by_5; (first | exact (fun _ => rfl) | (intro _; (first | exact (show base (some q1) A1 = _ from rfl) | exact hvB.at_ (by omega)))); (first | (apply RdN.own; (focus ((repeat constructor); done)); (focus ((repeat (first | exact rfl | constructor)); done))) | (first | (apply RdN.own; (repeat (first | exact Has.here | apply Has.there)); exact getNK_n hbl) | (apply RdN.view; exact hall))); (first | exact rfl | exact flatK_ones); (first | omega | (simp; omega) | (simp; done)); (first | omega | (simp; omega) | (simp; done)); intro rk26 sk26 ck26 ok26))); (apply od_mv; exact rfl; exact rfl; apply s_assign; exact rfl); (apply od_nil; (first | exact Wk.refl _ _ | (focus (apply Wk.mk; (first | exact View.le.refl _ | assumption | exact View.le.trans (by assumption) (by assumption)); (repeat constructor); done)))); (apply ol_nil)) | (refine fx_at 5 ?_; (apply fx_val; exact rfl; exact rfl; apply s_call; exact rfl; exact gf_37; (intro w' hw'; exact kn w'); ((intro v new h; obtain ⟨r1, A1, c1, s1, rfl, rfl, so1⟩ := h; obtain ⟨q1, rfl⟩ : ∃ q, r1 = some q := ⟨_, some_ref so1 (by omega)⟩))); (apply od_fx; (first | exact Wk.refl _ _ | (focus (apply Wk.mk; (first | exact View.le.refl _ | assumption | exact View.le.trans (by assumption) (by assumption)); (repeat constructor); done))); (apply fx_val; exact rfl; exact rfl; apply s_buildSl; exact rfl; exact el_38; exact sz_5; exact zb_5; (focus ((repeat constructor); done)); exact rfl; exact rfl; (exact Nat.le_of_ble_eq_true rfl); (focus ((repeat constructor); done)); (focus ((repeat (first | exact rfl | constructor)); done)); intro bk17)); (apply od_fx; (first | exact Wk.refl _ _ | (focus (apply Wk.mk; (first | exact View.le.refl _ | assumption | exact View.le.trans (by assumption) (by assumption)); (repeat constructor); done))); (apply fx_val; exact rfl; exact rfl; first | (apply s_append_e; exact rfl; exact rfl; (focus ((repeat constructor); done)); exact el_38; exact sz_5; exact zb_5; exact rfl; exact by_5; (first | exact (fun _ => rfl) | (intro _; (first | exact (show base (some q1) A1 = _ from rfl) | exact hvB.at_ (by omega)))); (first | (apply RdN.own; (focus ((repeat constructor); done)); (focus ((repeat (first | exact rfl | constructor)); done))) | (first | (apply RdN.own; (repeat (first | exact Has.here | apply Has.there)); exact getNK_n hbl) | (apply RdN.view; exact hall))); (first | exact rfl | exact flatK_ones); (first | omega | (simp; omega) | (simp; done)); (first | omega | (simp; omega) | (simp; done)); intro rk23 sk23 ck23 ok23) | (apply s_append_r; exact rfl; exact rfl; (focus ((repeat constructor); done)); (first | exact rfl | exact (List.append_nil _).symm); exact el_38; exact sz_5; exact zb_5; exact rfl; exact by_5; (first | exact SO.nil _ | assumption | (exact ⟨by simp, by simp, Nat.le_refl _, by simp⟩)); (first | exact (fun _ => rfl) | (intro _; (first | exact (show base (some q1) A1 = _ from rfl) | exact hvB.at_ (by omega)))); (first | (apply RdN.own; (focus ((repeat constructor); done)); (focus ((repeat (first | exact rfl | constructor)); done))) | (first | (apply RdN.own; (repeat (first | exact Has.here | apply Has.there)); exact getNK_n hbl) | (apply RdN.view; exact hall))); (first | exact rfl | exact flatK_ones); (first | omega | (simp; omega) | (simp; done)); (first | omega | (simp; omega) | (simp; done)); intro rk23 sk23 ck23 ok23) | (apply s_append_b; exact rfl; exact rfl; (focus ((repeat constructor); done)); (first | exact rfl | exact (List.append_nil _).symm); exact el_38; exact sz_5; exact zb_5; exact rfl; exact by_5; (first | exact SO.nil _ | assumption | (exact ⟨by simp, by simp, Nat.le_refl _, by simp⟩)); (first | exact (fun _ => rfl) | (intro _; (first | exact (show base (some q1) A1 = _ from rfl) | exact hvB.at_ (by omega)))); (first | (apply RdN.own; (focus ((repeat constructor); done)); (focus ((repeat (first | exact rfl | constructor)); done))) | (first | (apply RdN.own; (repeat (first | exact Has.here | apply Has.there)); exact getNK_n hbl) | (apply RdN.view; exact hall))); (first | exact rfl | exact flatK_ones); (first | omega | (simp; omega) | (simp; done)); (first | omega | (simp; omega) | (simp; done)); intro rk23 sk23 ck23 ok23) | (apply s_append_n; exact rfl; exact rfl; (focus ((repeat constructor); done)); exact el_38; exact sz_5; exact zb_5; exact rfl; exact by_5; (first | exact (fun _ => rfl) | (intro _; (first | exact (show base (some q1) A1 = _ from rfl) | exact hvB.at_ (by omega)))); (first | (apply RdN.own; (focus ((repeat constructor); done)); (focus ((repeat (first | exact rfl | constructor)); done))) | (first | (apply RdN.own; (repeat (first | exact Has.here | apply Has.there)); exact getNK_n hbl) | (apply RdN.view; exact hall))); (first | exact rfl | exact flatK_ones); (first | omega | (simp; omega) | (simp; done)); (first | omega | (simp; omega) | (simp; done)); intro rk23 sk23 ck23 ok23))); (apply od_fx; (first | exact Wk.refl _ _ | (focus (apply Wk.mk; (first | exact View.le.refl _ | assumption | exact View.le.trans (by assumption) (by assumption)); (repeat constructor); done))); (apply fx_val; exact rfl; exact rfl; first | (apply s_append_e; exact rfl; exact rfl; (focus ((repeat constructor); done)); exact el_38; exact sz_5; exact zb_5; exact rfl; exact by_5; (first | exact (fun _ => rfl) | (intro _; (first | exact (show base (some q1) A1 = _ from rfl) | exact hvB.at_ (by omega)))); (first | (apply RdN.own; (focus ((repeat constructor); done)); (focus ((repeat (first | exact rfl | constructor)); done))) | (first | (apply RdN.own; (repeat (first | exact Has.here | apply Has.there)); exact getNK_n hbl) | (apply RdN.view; exact hall))); (first | exact rfl | exact flatK_ones); (first | omega | (simp; omega) | (simp; done)); (first | omega | (simp; omega) | (simp; done)); intro rk26 sk26 ck26 ok26) | (apply s_append_r; exact rfl; exact rfl; (focus ((repeat constructor); done)); (first | exact rfl | exact (List.append_nil _).symm); exact el_38; exact sz_5; exact zb_5; exact rfl; exact by_5; (first | exact SO.nil _ | assumption | (exact ⟨by simp, by simp, Nat.le_refl _, by simp⟩)); (first | exact (fun _ => rfl) | (intro _; (first | exact (show base (some q1) A1 = _ from rfl) | exact hvB.at_ (by omega)))); (first | (apply RdN.own; (focus ((repeat constructor); done)); (focus ((repeat (first | exact rfl | constructor)); done))) | (first | (apply RdN.own; (repeat (first | exact Has.here | apply Has.there)); exact getNK_n hbl) | (apply RdN.view; exact hall))); (first | exact rfl | exact flatK_ones); (first | omega | (simp; omega) | (simp; done)); (first | omega | (simp; omega) | (simp; done)); intro rk26 sk26 ck26 ok26) | (apply s_append_b; exact rfl; exact rfl; (focus ((repeat constructor); done)); (first | exact rfl | exact (List.append_nil _).symm); exact el_38; exact sz_5; exact zb_5; exact rfl; exact by_5; (first | exact SO.nil _ | assumption | (exact ⟨by simp, by simp, Nat.le_refl _, by simp⟩)); (first | exact (fun _ => rfl) | (intro _; (first | exact (show base (some q1) A1 = _ from rfl) | exact hvB.at_ (by omega)))); (first | (apply RdN.own; (focus ((repeat constructor); done)); (focus ((repeat (first | exact rfl | constructor)); done))) | (first | (apply RdN.own; (repeat (first | exact Has.here | apply Has.there)); exact getNK_n hbl) | (apply RdN.view; exact hall))); (first | exact rfl | exact flatK_ones); (first | omega | (simp; omega) | (simp; done)); (first | omega | (simp; omega) | (simp; done)); intro rk26 sk26 ck26 ok26) | (apply s_append_n; exact rfl; exact rfl; (focus ((repeat constructor); done)); exact el_38; exact sz_5; exact zb_5; exact rfl; exact by_5; (first | exact (fun _ => rfl) | (intro _; (first | exact (show base (some q1) A1 = _ from rfl) | exact hvB.at_ (by omega)))); (first | (apply RdN.own; (focus ((repeat constructor); done)); (focus ((repeat (first | exact rfl | constructor)); done))) | (first | (apply RdN.own; (repeat (first | exact Has.here | apply Has.there)); exact getNK_n hbl) | (apply RdN.view; exact hall))); (first | exact rfl | exact flatK_ones); (first | omega | (simp; omega) | (simp; done)); (first | omega | (simp; omega) | (simp; done)); intro rk26 sk26 ck26 ok26))); (apply od_mv; exact rfl; exact rfl; apply s_assign; exact rfl); (apply od_nil; (first | exact Wk.refl _ _ | (focus (apply Wk.mk; (first | exact View.le.refl _ | assumption | exact View.le.trans (by assumption) (by assumption)); (repeat constructor); done)))); (apply ol_nil))))
      | (apply cw_cond_true; exact rfl; (first | exact rfl | assumption))
      | (apply cw_cond_false; exact rfl; (first | exact rfl | assumption))
      | apply cw_skip
      | apply cw_ret
      | apply cw_block
      | apply cw_exit
    all_goals
      refine ends [⟨rk26, flat (eK .u8) ([2] ++ X ++ xs) ++ sk26, 5⟩] (RVal.tmp rfl RVal.nil) (by rw [hf]; (repeat (first | exact Pick.nil | (apply Pick.cons; (focus ((repeat (first | exact Spl.here | apply Spl.there)); done))) | exact Pick.refl | exact Pick.skip1 | exact Pick.skip2))) ?_
      exact ⟨rk26, none, ck26, sk26, by rw [hl]; rfl, rfl, by rw [hl, hf]; exact ok26⟩
end Go.Proofs.YtkbbbflojebfgaaDoor

/-
  The reference's Encode.
-/
namespace Go.Proofs.YtkbbbflojebfgaaDoor
set_option maxRecDepth 20000
set_option linter.unusedSimpArgs false
set_option linter.unusedVariables false
open Go Go.Fw
attribute [local irreducible] CW OL OD FX Stp FnC FnV FnA Ret bI bmid encI wrP okI
set_option maxHeartbeats 1600000
theorem rencode_spec : ∀ (d : Nat) {M : View} {w : World}, View.le M (View.of w) → ∀ {x : It d}, ItV M d x → okI d x = true → (encI d x).length ≤ 1073741824 →
    FnC Tryd.prog 24 [.agg x.enc.toArray] w (RowRes (eK .u8) 1 5 (encI d x)) := by
  intro d
  induction d with
  | zero =>
    intro M w hM x hx hok hlen
    rw [encI_leaf (.inr rfl)]
    rw [okI_leaf (.inr rfl)] at hok
    exact rencode_leaf hM hx.head hok
  | succ d ih =>
    intro M w hM x hx hok hlen
    by_cases h3 : x.hd.k = 3
    · obtain ⟨h, L⟩ := x
      obtain ⟨hv, hlL, sL, hL⟩ := hx
      have h3' : h.k = 3 := h3
      have e := encI_list (d := d) (L := L) h3'
      have eo := okI_list (d := d) (L := L) h3'
      rw [eo, Bool.and_eq_true, decide_eq_true_eq, List.all_eq_true] at hok
      obtain ⟨⟨hn0, hB0, hm⟩, hall⟩ := hok
      rw [e] at hlen ⊢
      have hxe : It.enc (d := d + 1) (h, L) = [.int .i64 h.k, .int .i64 h.n, .slice h.B.a h.B.xs.length h.B.c, .slice h.La h.m h.Lc] := rfl
      rw [hxe]
      clear hxe e eo h3
      obtain ⟨k, nn, ⟨xs, Ba, Bb, Bo, Bc⟩, La, Lb, Lo, Lc, m⟩ := h
      dsimp only at hv hlL sL h3' hm hlen ⊢
      subst h3'
      have hu := (u64_cast (m : Int)).symm
      rw [u64_nat (by omega)] at hu
      have kn := fun (w' : World) => rnumberB_spec w' (N := m) (size := 4) (by omega) (by omega)
      have hbl := bI_length 4 m
      unfold RowRes at kn
      rw [hbl] at kn
      generalize bI 4 m = X at *
      have hf : flat (eK .u8) ([3] ++ X) = [.int .u8 3] ++ flat (eK .u8) X := flat_append _ _ _
      have hl : ([3] ++ X).length = 1 + 4 := by rw [List.length_append, hbl]; rfl
      refine enterF (M := M) Tryd.func24 rfl rfl rfl rfl hM ?_
      repeat' first
        | apply cw_seq
        | (refine cw_region_id 0 ?_; (apply ol_val; exact rfl; first | (apply s_boxN; exact rfl; intro bk1) | (apply s_box1; exact rfl; exact rfl; intro bk1)); (apply ol_as; exact rfl; exact rfl); (apply ol_nil))
        | (refine cw_region_id 1 ?_; (apply ol_fa; exact rfl; exact rfl; exact fd_41_0; (first | exact Nat.zero_add _ | exact Nat.add_zero _ | exact rfl)); (apply ol_ld; exact rfl; exact rfl; exact rfl; (apply RdN.own; (focus ((repeat constructor); done)); (first | exact GetN.cons rfl GetN.nil | (apply getN_ints_app; (first | omega | (simp; omega) | (simp; done))) | (apply getN_ints; (first | omega | (simp; omega) | (simp; done)))))); (apply ol_nil))
        | (refine cw_region_id 2 ?_; (apply ol_val; exact rfl; apply stp_cmp; apply s_eql; exact rfl; exact rfl; all_goals (intro hc8; try (exfalso; (first | exact hc8 rfl | omega)))); all_goals (apply ol_as; exact rfl; exact rfl); all_goals (apply ol_nil))
        | (refine cw_region_id 4 ?_; (apply ol_val; exact rfl; apply stp_cmp; apply s_eql; exact rfl; exact rfl; all_goals (intro hc16; try (exfalso; (first | exact hc16 rfl | omega)))); all_goals (apply ol_as; exact rfl; exact rfl); all_goals (apply ol_nil))
        | (refine cw_region_id 6 ?_; (apply ol_val; exact rfl; apply s_buildSl; exact rfl; exact el_38; exact sz_5; exact zb_5; (focus ((repeat constructor); done)); exact rfl; exact rfl; (exact Nat.le_of_ble_eq_true rfl); (focus ((repeat constructor); done)); (focus ((repeat (first | exact rfl | constructor)); done)); intro bk27); (apply ol_fa; exact rfl; exact rfl; exact fd_41_3; (first | exact Nat.zero_add _ | exact Nat.add_zero _ | exact rfl)); (apply ol_ld; exact rfl; exact rfl; exact rfl; (apply RdN.own; (focus ((repeat constructor); done)); exact GetN.cons rfl GetN.nil)); (apply ol_val; exact rfl; apply stp_pur; apply s_len; exact rfl; exact el_39); (apply ol_val; exact rfl; apply stp_pur; first | (apply s_conv; exact rfl; exact rfl; exact ti_73; (focus (apply wrap_u64; omega))) | (apply s_conv; exact rfl; exact rfl; exact ti_73; exact hu) | (apply s_conv; exact rfl; exact rfl; exact ti_73; exact rfl)); (apply ol_val; exact rfl; apply s_call; exact rfl; exact gf_37; (intro w' hw'; exact kn w'); ((intro v new h; obtain ⟨r1, A1, c1, s1, rfl, rfl, so1⟩ := h; obtain ⟨q1, rfl⟩ : ∃ q, r1 = some q := ⟨_, some_ref so1 (by omega)⟩))); (apply ol_val; exact rfl; first | (apply s_append_e; exact rfl; exact rfl; (focus ((repeat constructor); done)); exact el_38; exact sz_5; exact zb_5; exact rfl; exact by_5; (first | exact (fun _ => rfl) | (intro _; exact (show base (some q1) A1 = _ from rfl))); (first | (apply RdN.own; (focus ((repeat constructor); done)); (focus ((repeat (first | exact rfl | constructor)); done))) | (apply RdN.own; (repeat (first | exact Has.here | apply Has.there)); exact getNK_n hbl)); (first | exact rfl | exact flatK_ones); (first | omega | (simp; omega) | (simp; done)); (first | omega | (simp; omega) | (simp; done)); intro rk33 sk33 ck33 ok33) | (apply s_append_r; exact rfl; exact rfl; (focus ((repeat constructor); done)); (first | exact rfl | exact (List.append_nil _).symm); exact el_38; exact sz_5; exact zb_5; exact rfl; exact by_5; (first | exact SO.nil _ | assumption | (exact ⟨by simp, by simp, Nat.le_refl _, by simp⟩)); (first | exact (fun _ => rfl) | (intro _; exact (show base (some q1) A1 = _ from rfl))); (first | (apply RdN.own; (focus ((repeat constructor); done)); (focus ((repeat (first | exact rfl | constructor)); done))) | (apply RdN.own; (repeat (first | exact Has.here | apply Has.there)); exact getNK_n hbl)); (first | exact rfl | exact flatK_ones); (first | omega | (simp; omega) | (simp; done)); (first | omega | (simp; omega) | (simp; done)); intro rk33 sk33 ck33 ok33) | (apply s_append_b; exact rfl; exact rfl; (focus ((repeat constructor); done)); (first | exact rfl | exact (List.append_nil _).symm); exact el_38; exact sz_5; exact zb_5; exact rfl; exact by_5; (first | exact SO.nil _ | assumption | (exact ⟨by simp, by simp, Nat.le_refl _, by simp⟩)); (first | exact (fun _ => rfl) | (intro _; exact (show base (some q1) A1 = _ from rfl))); (first | (apply RdN.own; (focus ((repeat constructor); done)); (focus ((repeat (first | exact rfl | constructor)); done))) | (apply RdN.own; (repeat (first | exact Has.here | apply Has.there)); exact getNK_n hbl)); (first | exact rfl | exact flatK_ones); (first | omega | (simp; omega) | (simp; done)); (first | omega | (simp; omega) | (simp; done)); intro rk33 sk33 ck33 ok33) | (apply s_append_n; exact rfl; exact rfl; (focus ((repeat constructor); done)); exact el_38; exact sz_5; exact zb_5; exact rfl; exact by_5; (first | exact (fun _ => rfl) | (intro _; exact (show base (some q1) A1 = _ from rfl))); (first | (apply RdN.own; (focus ((repeat constructor); done)); (focus ((repeat (first | exact rfl | constructor)); done))) | (apply RdN.own; (repeat (first | exact Has.here | apply Has.there)); exact getNK_n hbl)); (first | exact rfl | exact flatK_ones); (first | omega | (simp; omega) | (simp; done)); (first | omega | (simp; omega) | (simp; done)); intro rk33 sk33 ck33 ok33)); (apply ol_as; exact rfl; exact rfl); (apply ol_nil))
        | (refine cw_region_id 7 ?_; (apply ol_as; exact rfl; exact rfl); (apply ol_nil))
        | (apply cw_cond_true; exact rfl; (first | exact rfl | assumption))
        | (apply cw_cond_false; exact rfl; (first | exact rfl | assumption))
        | apply cw_skip
        | apply cw_ret
        | apply cw_block
        | apply cw_exit
      refine cw_loopK (σ := NSt) [1] (by (repeat (first | exact Keep.nil | (apply Keep.cons; exact rfl)))) (fun s => [(3, .slice (base s.r none) ([3] ++ X ++ (L.take s.j).flatMap (encI d)).length s.c), (4, .int .i64 s.j)]) (fun _ => M) (fun s => [⟨s.r, flat (eK .u8) ([3] ++ X ++ (L.take s.j).flatMap (encI d)) ++ s.sp, 5⟩, ⟨some bk1, [.int .i64 3, .int .i64 nn, .slice Ba xs.length Bc, .slice La m Lc], 41⟩]) (fun s => s.j ≤ m ∧ SO s.r ([3] ++ X ++ (L.take s.j).flatMap (encI d)).length s.c (flat (eK .u8) ([3] ++ X ++ (L.take s.j).flatMap (encI d))) s.sp 1) (fun s => m - s.j) ⟨0, rk33, ck33, sk33⟩ (by dsimp only; rw [List.take_zero, List.flatMap_nil, List.append_nil, hl]; (repeat (first | exact trivial | refine And.intro rfl ?_))) (View.le.refl _) (by dsimp only; rw [List.take_zero, List.flatMap_nil, List.append_nil, hf]; (repeat (first | exact Pick.nil | (apply Pick.cons; (focus ((repeat (first | exact Spl.here | apply Spl.there)); done))) | exact Pick.refl | exact Pick.skip1 | exact Pick.skip2))) ⟨Nat.zero_le _, by dsimp only; rw [List.take_zero, List.flatMap_nil, List.append_nil, hl, hf]; exact ok33⟩ ?_
      rintro ⟨j, r, c, sp⟩ ⟨hj, so⟩
      dsimp only at hj so
      dsimp only
      by_cases hjm : j < m
      · have hjl : j < L.length := by omega
        have hcj := sL.cells j hjl
        have hfm := flatMap_take_succ (encI d) hjl
        have hle : ((L.take (j + 1)).flatMap (encI d)).length ≤ (L.flatMap (encI d)).length := by
          have : L.flatMap (encI d) = (L.take (j + 1)).flatMap (encI d) ++ (L.drop (j + 1)).flatMap (encI d) := by rw [← List.flatMap_append, List.take_append_drop]
          rw [this, List.length_append]
          omega
        rw [List.length_append] at hlen
        rw [hfm, List.length_append] at hle
        have ki := fun (w' : World) (h : View.le M (View.of w')) => ih h (hL _ (List.getElem_mem hjl)) (hall _ (List.getElem_mem hjl)) (by omega)
        have hst : [3] ++ X ++ (L.take (j + 1)).flatMap (encI d) = ([3] ++ X ++ (L.take j).flatMap (encI d)) ++ encI d (L[j]'hjl) := by rw [hfm]; simp only [List.append_assoc]
        have hfl : flat (eK .u8) ([3] ++ X ++ (L.take (j + 1)).flatMap (encI d)) = flat (eK .u8) ([3] ++ X ++ (L.take j).flatMap (encI d)) ++ flat (eK .u8) (encI d (L[j]'hjl)) := by rw [hst, flat_append]
        have hll : ([3] ++ X ++ (L.take (j + 1)).flatMap (encI d)).length = ([3] ++ X ++ (L.take j).flatMap (encI d)).length + (encI d (L[j]'hjl)).length := by rw [hst, List.length_append]
        have hb1 : ([3] ++ X ++ (L.take j).flatMap (encI d)).length ≤ 1073741824 := by rw [List.length_append]; omega
        have hb2 : (encI d (L[j]'hjl)).length ≤ 1073741824 := by omega
        have hEp := encI_pos (L[j]'hjl)
        clear hst hfm hle hlen hL hall
        generalize encI d (L[j]'hjl) = E at *
        generalize L[j]'hjl = y at *
        generalize [3] ++ X ++ (L.take j).flatMap (encI d) = O at *
        unfold It.enc at hcj ki
        unfold RowRes at ki
        repeat' first
          | apply cw_seq
          | (refine cw_region_id 8 ?_; (apply ol_mv; exact rfl; exact rfl); (apply ol_fa; exact rfl; exact rfl; exact fd_41_3; (first | exact Nat.zero_add _ | exact Nat.add_zero _ | exact rfl)); (apply ol_ld; exact rfl; exact rfl; exact rfl; (first | (apply RdN.own; (focus ((repeat constructor); done)); exact GetN.cons rfl GetN.nil) | (apply RdN.view; exact hcj))); (apply ol_val; exact rfl; apply stp_pur; apply s_len; exact rfl; exact el_39); (apply ol_val; exact rfl; apply stp_cmp; apply s_lss; exact rfl; exact rfl; all_goals (intro hc38; try (exfalso; (first | exact hc38 rfl | omega)))); all_goals (apply ol_nil))
          | (refine cw_region_id 10 ?_; (apply ol_mv; exact rfl; exact rfl); (apply ol_fa; exact rfl; exact rfl; exact fd_41_3; (first | exact Nat.zero_add _ | exact Nat.add_zero _ | exact rfl)); (apply ol_ld; exact rfl; exact rfl; exact rfl; (first | (apply RdN.own; (focus ((repeat constructor); done)); exact GetN.cons rfl GetN.nil) | (apply RdN.view; exact hcj))); (apply ol_mv; exact rfl; exact rfl); (apply ol_val; exact rfl; apply stp_pur; first | (apply s_indexK; exact rfl; exact rfl; exact el_39; exact sz_41; (first | exact rfl | (first | exact sL.at_ (by omega) | exact (show base (some q9) A9 = _ from rfl))); omega) | (apply s_indexO; exact rfl; exact rfl; exact el_39; exact sz_41; (first | exact rfl | (first | exact sL.at_ (by omega) | exact (show base (some q9) A9 = _ from rfl))); omega)); (apply ol_ldN; exact rfl; exact rfl; exact rfl; exact sz_41; (first | (apply RdN.own; (focus ((repeat constructor); done)); (focus ((repeat (first | exact rfl | constructor)); done))) | (apply RdN.view; exact hcj))); (apply ol_val; exact rfl; apply s_call; exact rfl; exact gf_24; (intro w' hw'; exact ki w' hw'.le); ((intro v new h; obtain ⟨r9, A9, c9, s9, rfl, rfl, so9⟩ := h; obtain ⟨q9, rfl⟩ : ∃ q, r9 = some q := ⟨_, some_ref so9 (by omega)⟩))); (apply ol_val; exact rfl; first | (apply s_append_e; exact rfl; exact rfl; (focus ((repeat constructor); done)); exact el_38; exact sz_5; exact zb_5; exact rfl; exact by_5; (first | exact (fun _ => rfl) | (intro _; (first | exact sL.at_ (by omega) | exact (show base (some q9) A9 = _ from rfl)))); (first | (apply RdN.own; (focus ((repeat constructor); done)); (focus ((repeat (first | exact rfl | constructor)); done))) | (apply RdN.own; (repeat (first | exact Has.here | apply Has.there)); exact getNK_n (Nat.mul_one _).symm)); (first | exact rfl | exact flatK_ones); (first | omega | (simp; omega) | (simp; done)); (first | omega | (simp; omega) | (simp; done)); intro rk48 sk48 ck48 ok48) | (apply s_append_r; exact rfl; exact rfl; (focus ((repeat constructor); done)); (first | exact rfl | exact (List.append_nil _).symm); exact el_38; exact sz_5; exact zb_5; exact rfl; exact by_5; (first | exact SO.nil _ | assumption | (exact ⟨by simp, by simp, Nat.le_refl _, by simp⟩)); (first | exact (fun _ => rfl) | (intro _; (first | exact sL.at_ (by omega) | exact (show base (some q9) A9 = _ from rfl)))); (first | (apply RdN.own; (focus ((repeat constructor); done)); (focus ((repeat (first | exact rfl | constructor)); done))) | (apply RdN.own; (repeat (first | exact Has.here | apply Has.there)); exact getNK_n (Nat.mul_one _).symm)); (first | exact rfl | exact flatK_ones); (first | omega | (simp; omega) | (simp; done)); (first | omega | (simp; omega) | (simp; done)); intro rk48 sk48 ck48 ok48) | (apply s_append_b; exact rfl; exact rfl; (focus ((repeat constructor); done)); (first | exact rfl | exact (List.append_nil _).symm); exact el_38; exact sz_5; exact zb_5; exact rfl; exact by_5; (first | exact SO.nil _ | assumption | (exact ⟨by simp, by simp, Nat.le_refl _, by simp⟩)); (first | exact (fun _ => rfl) | (intro _; (first | exact sL.at_ (by omega) | exact (show base (some q9) A9 = _ from rfl)))); (first | (apply RdN.own; (focus ((repeat constructor); done)); (focus ((repeat (first | exact rfl | constructor)); done))) | (apply RdN.own; (repeat (first | exact Has.here | apply Has.there)); exact getNK_n (Nat.mul_one _).symm)); (first | exact rfl | exact flatK_ones); (first | omega | (simp; omega) | (simp; done)); (first | omega | (simp; omega) | (simp; done)); intro rk48 sk48 ck48 ok48) | (apply s_append_n; exact rfl; exact rfl; (focus ((repeat constructor); done)); exact el_38; exact sz_5; exact zb_5; exact rfl; exact by_5; (first | exact (fun _ => rfl) | (intro _; (first | exact sL.at_ (by omega) | exact (show base (some q9) A9 = _ from rfl)))); (first | (apply RdN.own; (focus ((repeat constructor); done)); (focus ((repeat (first | exact rfl | constructor)); done))) | (apply RdN.own; (repeat (first | exact Has.here | apply Has.there)); exact getNK_n (Nat.mul_one _).symm)); (first | exact rfl | exact flatK_ones); (first | omega | (simp; omega) | (simp; done)); (first | omega | (simp; omega) | (simp; done)); intro rk48 sk48 ck48 ok48)); (apply ol_as; exact rfl; exact rfl); (apply ol_nil))
          | (refine cw_region_id 9 ?_; (apply ol_mv; exact rfl; exact rfl); (apply ol_val; exact rfl; apply stp_pur; apply s_add64; exact rfl; exact rfl; omega); (apply ol_as; exact rfl; exact rfl); (apply ol_nil))
          | (apply cw_cond_true; exact rfl; (first | exact rfl | assumption))
          | (apply cw_cond_false; exact rfl; (first | exact rfl | assumption))
          | apply cw_skip
          | apply cw_ret
          | apply cw_block
          | apply cw_exit
        refine ⟨⟨j + 1, rk48, ck48, sk48⟩, ⟨?_, View.le.refl _, ?_, ⟨hjm, ?_⟩, by dsimp only; omega⟩⟩
        · dsimp only
          rw [hll]
          (repeat (first | exact trivial | refine And.intro rfl ?_))
        · dsimp only
          rw [hfl]
          (repeat (first | exact Pick.nil | (apply Pick.cons; (focus ((repeat (first | exact Spl.here | apply Spl.there)); done))) | exact Pick.refl | exact Pick.skip1 | exact Pick.skip2))
        · dsimp only
          rw [hll, hfl]
          exact ok48
      · have htk : L.take j = L := List.take_of_length_le (by omega)
        rw [htk] at so ⊢
        repeat' first
          | apply cw_seq
          | (refine cw_region_id 8 ?_; (apply ol_mv; exact rfl; exact rfl); (apply ol_fa; exact rfl; exact rfl; exact fd_41_3; (first | exact Nat.zero_add _ | exact Nat.add_zero _ | exact rfl)); (apply ol_ld; exact rfl; exact rfl; exact rfl; (apply RdN.own; (focus ((repeat constructor); done)); exact GetN.cons rfl GetN.nil)); (apply ol_val; exact rfl; apply stp_pur; apply s_len; exact rfl; exact el_39); (apply ol_val; exact rfl; apply stp_cmp; apply s_lss; exact rfl; exact rfl; all_goals (intro hc38; try (exfalso; (first | exact hc38 rfl | omega)))); all_goals (apply ol_nil))
          | (refine cw_region_id 11 ?_; (apply ol_mv; exact rfl; exact rfl); (apply ol_as; exact rfl; exact rfl); (apply ol_nil))
          | (apply cw_cond_true; exact rfl; (first | exact rfl | assumption))
          | (apply cw_cond_false; exact rfl; (first | exact rfl | assumption))
          | apply cw_skip
          | apply cw_ret
          | apply cw_block
          | apply cw_exit
        refine ends [⟨r, flat (eK .u8) ([3] ++ X ++ L.flatMap (encI d)) ++ sp, 5⟩] (RVal.tmp rfl RVal.nil) (by (repeat (first | exact Pick.nil | (apply Pick.cons; (focus ((repeat (first | exact Spl.here | apply Spl.there)); done))) | exact Pick.refl | exact Pick.skip1 | exact Pick.skip2))) ?_
        exact ⟨r, none, c, sp, rfl, rfl, so⟩
    · rw [encI_leaf (.inl h3)]
      rw [okI_leaf (.inl h3)] at hok
      exact rencode_leaf hM hx.head hok
end Go.Proofs.YtkbbbflojebfgaaDoor
