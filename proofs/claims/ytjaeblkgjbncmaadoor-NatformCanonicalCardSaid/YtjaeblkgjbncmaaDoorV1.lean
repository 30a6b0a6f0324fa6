/-
  The laws NatformParses and NatformBytes.
-/
import Derived.Test.YtjaeblkgjbncmaaDoorWC
namespace Go.Proofs.YtjaeblkgjbncmaaDoor
set_option maxRecDepth 20000
set_option linter.unusedSimpArgs false
set_option linter.unusedVariables false
open Go Go.Fw
theorem rdP_nd (b : Nat) (l : List Int) : nd W (rdP b l).2 ≤ 64 := by
  unfold rdP
  split
  · rw [nd_zero]; decide
  · split
    · rw [nd_zero]; decide
    · split
      · rw [nd_zero]; decide
      · split
        · rw [nd_zero]; decide
        · dsimp only; omega
theorem fbP_nd (l : List Int) : nd W (fbP l).2 ≤ 64 := by
  unfold fbP
  split
  · rw [nd_zero]; decide
  · split
    · rw [nd_zero]; decide
    · dsimp only; omega
theorem byP_b (k N : Nat) (s : Int) : ∀ x ∈ (byP k N s).2, 0 ≤ x ∧ x ≤ 255 := by
  unfold byP
  split
  · intro x hx; cases hx
  · split
    · intro x hx; cases hx
    · split
      · intro x hx; cases hx
      · exact bI_b _ _
/-- Two rows of ours with the words of one number. -/
theorem same_own {w : World} {n : Nat} (hn : nd W n ≤ 64) {r r' : Option Nat} {A A' : Option Addr} {c c' : Nat} {sp sp' : List Value} (h1 : OB.ok ⟨r, flat (eK .u32) (wI (nd W n) n) ++ sp, 51⟩ w) (so1 : SO r (nd W n) c (flat (eK .u32) (wI (nd W n) n)) sp 1) (h2 : OB.ok ⟨r', flat (eK .u32) (wI (nd W n) n) ++ sp', 51⟩ w) (so2 : SO r' (nd W n) c' (flat (eK .u32) (wI (nd W n) n)) sp' 1) :
    FnC Tryd.prog 14 [.agg [.slice (base r A) (nd W n) c].toArray, .agg [.slice (base r' A') (nd W n) c'].toArray] w (fun v _ => v = .bool true) := by
  have := same_spec (View.le.refl _) (c := c) (c' := c') (nd_lt (by decide) n) (nd_lt (by decide) n) (by omega) (by omega) (SlA.ownW (A := A) h1 so1) (SlA.ownW (A := A') h2 so2)
  rwa [decide_eq_true (show nd W n = nd W n ∧ n = n from ⟨rfl, rfl⟩)] at this
/-- Two rows of ours with the same bytes. -/
theorem equal_own {w : World} {l : List Int} (hl : ∀ x ∈ l, 0 ≤ x ∧ x ≤ 255) {r r' : Option Nat} {A A' : Option Addr} {c c' : Nat} {sp sp' : List Value} (h1 : OB.ok ⟨r, flat (eK .u8) l ++ sp, 5⟩ w) (so1 : SO r l.length c (flat (eK .u8) l) sp 1) (h2 : OB.ok ⟨r', flat (eK .u8) l ++ sp', 5⟩ w) (so2 : SO r' l.length c' (flat (eK .u8) l) sp' 1) :
    FnC Tryd.prog 22 [.slice (base r A) l.length c, .slice (base r' A') l.length c'] w (fun v _ => v = .bool true) := by
  have := equal_spec (View.le.refl _) (c := c) (c' := c') (l := l) (l' := l) rfl rfl hl hl (SlA.own (A := A) (eK_length .u8) h1 (fun h => so1.emp h)) (SlA.own (A := A') (eK_length .u8) h2 (fun h => so2.emp h))
  rwa [decide_eq_true rfl] at this
end Go.Proofs.YtjaeblkgjbncmaaDoor
namespace Go.Proofs.YtjaeblkgjbncmaaDoor
set_option maxRecDepth 20000
set_option linter.unusedSimpArgs false
set_option linter.unusedVariables false
open Go Go.Fw
attribute [local irreducible] CW OL OD FX Stp FnC FnV Ret wI vd strOf upT txt fixT rdP fbP byP
set_option maxHeartbeats 800000
theorem law_parses {M : View} {w : World} (hM : View.le M (View.of w)) (hL : LT M) {l : List Int} (hl : ∀ x ∈ l, 0 ≤ x ∧ x ≤ 255) :
    FnC Tryd.prog 6 [.string (strOf l)] w (fun v _ => v = .bool true) := by
  refine enterF (M := M) Tryd.func6 rfl rfl rfl rfl hM ?_
  have ka := fun (w' : World) (h : View.le M (View.of w')) => awake_spec h hL
  have hsz := strOf_size l
  by_cases h1 : 1100 < l.length
  ·
    repeat' first
      | apply cw_seq
      | (refine cw_region_id 0 ?_; (apply ol_as; exact rfl; exact rfl); (apply ol_nil))
      | (refine cw_region_id 1 ?_; (apply ol_val; exact rfl; apply s_callv; exact rfl; exact gf_9; (intro w' hw'; exact ka w' hw'.le)); (apply ol_val; exact rfl; apply stp_pur; first | (apply s_not_t; exact rfl; (first | exact rfl | assumption)) | (apply s_not_f; exact rfl; (first | exact rfl | assumption)) | (apply s_not; exact rfl)); (apply ol_nil))
      | (refine cw_region_id 3 ?_; (apply ol_mv; exact rfl; exact rfl); (apply ol_val; exact rfl; apply stp_pur; apply s_len_string; exact rfl; exact rfl; exact rfl); (apply ol_val; exact rfl; apply stp_cmp; apply s_gtr; exact rfl; exact rfl; all_goals (intro hc15; try (exfalso; (first | exact hc15 rfl | omega)))); all_goals (apply ol_nil))
      | (refine cw_region_id 4 ?_; (apply ol_as; exact rfl; exact rfl); (apply ol_nil))
      | (apply cw_cond_true; exact rfl; (first | exact rfl | assumption))
      | (apply cw_cond_false; exact rfl; (first | exact rfl | assumption))
      | apply cw_skip
      | apply cw_ret
      | apply cw_block
      | apply cw_exit
    refine ends [] (RVal.tmp rfl RVal.nil) Pick.nil ?_
    rfl
  · have k1 := fun (w' : World) => parse_spec w' hl
    have k2 := fun (w' : World) => parseHex_spec w' hl
    have k3 := fun (w' : World) => rparse_spec w' (b := 10) (.inl rfl) hl
    have k4 := fun (w' : World) => rparse_spec w' (b := 16) (.inr rfl) hl
    have n10 := rdP_nd 10 l
    have n16 := rdP_nd 16 l
    unfold NRs WR at k1 k2 k3 k4
    generalize rdP 10 l = p at *
    generalize rdP 16 l = q at *
    repeat' first
      | apply cw_seq
      | (refine cw_region_id 0 ?_; (apply ol_as; exact rfl; exact rfl); (apply ol_nil))
      | (refine cw_region_id 1 ?_; (apply ol_val; exact rfl; apply s_callv; exact rfl; exact gf_9; (intro w' hw'; exact ka w' hw'.le)); (apply ol_val; exact rfl; apply stp_pur; first | (apply s_not_t; exact rfl; (first | exact rfl | assumption)) | (apply s_not_f; exact rfl; (first | exact rfl | assumption)) | (apply s_not; exact rfl)); (apply ol_nil))
      | (refine cw_region_id 3 ?_; (apply ol_mv; exact rfl; exact rfl); (apply ol_val; exact rfl; apply stp_pur; apply s_len_string; exact rfl; exact rfl; exact rfl); (apply ol_val; exact rfl; apply stp_cmp; apply s_gtr; exact rfl; exact rfl; all_goals (intro hc15; try (exfalso; (first | exact hc15 rfl | omega)))); all_goals (apply ol_nil))
      | (refine cw_region_id 5 ?_; (apply ol_mv; exact rfl; exact rfl); (apply ol_val; exact rfl; apply s_call; exact rfl; exact gf_10; (intro w' hw'; exact k1 w'); ((intro v new h; obtain ⟨_, rfl, r1, A1, cap1, sp1, rfl, rfl, so1⟩ := h))); (apply ol_mv; exact rfl; exact rfl); (apply ol_ex; exact rfl; exact rfl; exact rfl); (apply ol_ex; exact rfl; exact rfl; exact rfl); (apply ol_val; exact rfl; apply s_alloc; exact zb_25; (focus ((repeat constructor); done)); intro bk3); (apply ol_eff; apply s_storeN; exact rfl; exact rfl; exact sz_25; exact rfl; exact rfl; (focus ((repeat constructor); done)); (focus ((repeat constructor); done))); (apply ol_as; exact rfl; exact rfl); (apply ol_nil))
      | (refine cw_region_id 6 ?_; (apply ol_mv; exact rfl; exact rfl); (apply ol_val; exact rfl; (apply s_call; exact rfl; exact gf_19; (intro w' hw'; first | exact k3 w' | exact k4 w'); (intro v new h; obtain ⟨_, rfl, r2, A2, cap2, sp2, rfl, rfl, so2⟩ := h))); all_goals (apply ol_mv; exact rfl; exact rfl); all_goals (apply ol_ex; exact rfl; exact rfl; exact rfl); all_goals (apply ol_ex; exact rfl; exact rfl; exact rfl); all_goals (apply ol_val; exact rfl; apply s_alloc; exact zb_25; (focus ((repeat constructor); done)); intro bk5); all_goals (apply ol_eff; apply s_storeN; exact rfl; exact rfl; exact sz_25; exact rfl; exact rfl; (focus ((repeat constructor); done)); (focus ((repeat constructor); done))); all_goals (apply ol_as; exact rfl; exact rfl); all_goals (apply ol_nil))
      | (refine cw_region_id 7 ?_; (apply ol_mv; exact rfl; exact rfl); (apply ol_val; exact rfl; apply s_call; exact rfl; exact gf_12; (intro w' hw'; exact k2 w'); ((intro v new h; obtain ⟨_, rfl, r3, A3, cap3, sp3, rfl, rfl, so3⟩ := h))); (apply ol_mv; exact rfl; exact rfl); (apply ol_ex; exact rfl; exact rfl; exact rfl); (apply ol_ex; exact rfl; exact rfl; exact rfl); (apply ol_val; exact rfl; apply s_alloc; exact zb_25; (focus ((repeat constructor); done)); intro bk7); (apply ol_eff; apply s_storeN; exact rfl; exact rfl; exact sz_25; exact rfl; exact rfl; (focus ((repeat constructor); done)); (focus ((repeat constructor); done))); (apply ol_as; exact rfl; exact rfl); (apply ol_nil))
      | (refine cw_region_id 8 ?_; (apply ol_mv; exact rfl; exact rfl); (apply ol_val; exact rfl; (apply s_call; exact rfl; exact gf_19; (intro w' hw'; first | exact k3 w' | exact k4 w'); (intro v new h; obtain ⟨_, rfl, r2, A2, cap2, sp2, rfl, rfl, so2⟩ := h))); all_goals (apply ol_mv; exact rfl; exact rfl); all_goals (apply ol_ex; exact rfl; exact rfl; exact rfl); all_goals (apply ol_ex; exact rfl; exact rfl; exact rfl); all_goals (apply ol_val; exact rfl; apply s_alloc; exact zb_25; (focus ((repeat constructor); done)); intro bk9); all_goals (apply ol_eff; apply s_storeN; exact rfl; exact rfl; exact sz_25; exact rfl; exact rfl; (focus ((repeat constructor); done)); (focus ((repeat constructor); done))); all_goals (apply ol_as; exact rfl; exact rfl); all_goals (apply ol_nil))
      | (refine cw_region_id 9 ?_; (apply ol_ldN; exact rfl; exact rfl; exact rfl; exact sz_25; (apply RdN.own; (focus ((repeat constructor); done)); (focus ((repeat (first | exact rfl | constructor)); done)))); (apply ol_ldN; exact rfl; exact rfl; exact rfl; exact sz_25; (apply RdN.own; (focus ((repeat constructor); done)); (focus ((repeat (first | exact rfl | constructor)); done)))); (apply ol_val; exact rfl; apply s_callv; exact rfl; exact gf_14; (intro w' hw'; (first | exact same_own n10 (hw'.ok_ (by (repeat (first | exact Has.here | apply Has.there)))) (by assumption) (hw'.ok_ (by (repeat (first | exact Has.here | apply Has.there)))) (by assumption) | exact same_own n16 (hw'.ok_ (by (repeat (first | exact Has.here | apply Has.there)))) (by assumption) (hw'.ok_ (by (repeat (first | exact Has.here | apply Has.there)))) (by assumption)))); (apply ol_mv; exact rfl; exact rfl); (first | (apply ol_gskip; exact rfl; exact rfl; (first | exact rfl | assumption); exact rfl) | (apply ol_gval; exact rfl; exact rfl; exact rfl; (first | exact rfl | assumption); apply stp_pur; apply s_move; exact rfl)); (first | (apply ol_gskip; exact rfl; exact rfl; (first | exact rfl | assumption); exact rfl) | (apply ol_gval; exact rfl; exact rfl; exact rfl; (first | exact rfl | assumption); apply stp_pur; apply s_move; exact rfl)); (first | (apply ol_gskip; exact rfl; exact rfl; (first | exact rfl | assumption); exact rfl) | (apply ol_gval; exact rfl; exact rfl; exact rfl; (first | exact rfl | assumption); apply stp_cmp; apply s_eql; exact rfl; exact rfl; all_goals (intro hc42; try (exfalso; (first | exact hc42 rfl | omega))))); all_goals (apply ol_val; exact rfl; apply stp_pur; first | (apply s_pick_t; exact rfl; (first | exact rfl | assumption); exact rfl) | (apply s_pick_f; exact rfl; (first | exact rfl | assumption); exact rfl)); all_goals (apply ol_mv; exact rfl; exact rfl); all_goals (first | (apply ol_gskip; exact rfl; exact rfl; (first | exact rfl | assumption); exact rfl) | (apply ol_gval; exact rfl; exact rfl; exact rfl; (first | exact rfl | assumption); apply stp_pur; apply s_loadN; exact rfl; exact rfl; exact sz_25; (apply RdN.own; (focus ((repeat constructor); done)); (focus ((repeat (first | exact rfl | constructor)); done))))); all_goals (first | (apply ol_gskip; exact rfl; exact rfl; (first | exact rfl | assumption); exact rfl) | (apply ol_gval; exact rfl; exact rfl; exact rfl; (first | exact rfl | assumption); apply stp_pur; apply s_loadN; exact rfl; exact rfl; exact sz_25; (apply RdN.own; (focus ((repeat constructor); done)); (focus ((repeat (first | exact rfl | constructor)); done))))); all_goals (first | (apply ol_gskip; exact rfl; exact rfl; (first | exact rfl | assumption); exact rfl) | (apply ol_gval; exact rfl; exact rfl; exact rfl; (first | exact rfl | assumption); apply s_callv; exact rfl; exact gf_14; (intro w' hw'; (first | exact same_own n10 (hw'.ok_ (by (repeat (first | exact Has.here | apply Has.there)))) (by assumption) (hw'.ok_ (by (repeat (first | exact Has.here | apply Has.there)))) (by assumption) | exact same_own n16 (hw'.ok_ (by (repeat (first | exact Has.here | apply Has.there)))) (by assumption) (hw'.ok_ (by (repeat (first | exact Has.here | apply Has.there)))) (by assumption))))); all_goals (apply ol_val; exact rfl; apply stp_pur; first | (apply s_pick_t; exact rfl; (first | exact rfl | assumption); exact rfl) | (apply s_pick_f; exact rfl; (first | exact rfl | assumption); exact rfl)); all_goals (apply ol_mv; exact rfl; exact rfl); all_goals (first | (apply ol_gskip; exact rfl; exact rfl; (first | exact rfl | assumption); exact rfl) | (apply ol_gval; exact rfl; exact rfl; exact rfl; (first | exact rfl | assumption); apply stp_pur; apply s_move; exact rfl)); all_goals (first | (apply ol_gskip; exact rfl; exact rfl; (first | exact rfl | assumption); exact rfl) | (apply ol_gval; exact rfl; exact rfl; exact rfl; (first | exact rfl | assumption); apply stp_pur; apply s_move; exact rfl)); all_goals (first | (apply ol_gskip; exact rfl; exact rfl; (first | exact rfl | assumption); exact rfl) | (apply ol_gval; exact rfl; exact rfl; exact rfl; (first | exact rfl | assumption); apply stp_cmp; apply s_eql; exact rfl; exact rfl; all_goals (intro hc52; try (exfalso; (first | exact hc52 rfl | omega))))); all_goals (apply ol_val; exact rfl; apply stp_pur; first | (apply s_pick_t; exact rfl; (first | exact rfl | assumption); exact rfl) | (apply s_pick_f; exact rfl; (first | exact rfl | assumption); exact rfl)); all_goals (apply ol_as; exact rfl; exact rfl); all_goals (apply ol_nil))
      | (apply cw_cond_true; exact rfl; (first | exact rfl | assumption))
      | (apply cw_cond_false; exact rfl; (first | exact rfl | assumption))
      | apply cw_skip
      | apply cw_ret
      | apply cw_block
      | apply cw_exit
    refine ends [] (RVal.tmp rfl RVal.nil) Pick.nil ?_
    rfl
end Go.Proofs.YtjaeblkgjbncmaaDoor
