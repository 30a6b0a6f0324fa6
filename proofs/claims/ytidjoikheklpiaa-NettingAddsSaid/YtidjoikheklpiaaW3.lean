/-
  The walks of claims, positions and sums.
-/
import Derived.Test.YtidjoikheklpiaaW2
namespace Go.Proofs.Ytidjoikheklpiaa
set_option maxRecDepth 20000
set_option linter.unusedSimpArgs false
set_option linter.unusedVariables false
open Go Go.Fw
attribute [local irreducible] CW OL OD FX Stp FnC Ret
set_option maxHeartbeats 8000000

theorem any_not {α : Type} (q : α → Bool) (l : List α) : l.any (fun x => !q x) = !l.all q := by
  induction l with
  | nil => rfl
  | cons x l ih => simp only [List.any_cons, List.all_cons, ih, Bool.not_and]

theorem claims_spec {M : View} {w : World} (hM : View.le M (View.of w)) {l : List C3} {n : Int} {m : Nat} (hm : l.length = m) {r : Bool} (hr : claimsB n l = r) {a : Option Addr} {b o c : Nat} (s : SlA M C3.enc 3 a l b o) (hl : l.length ≤ 4611686018427387904) :
    FnC Try.prog 42 [.int .i64 n, .slice a m c] w (fun v _ => v = .bool r) := by
  subst hm hr
  refine enterF (M := M) Try.func42 rfl rfl rfl rfl hM ?_
  by_cases hn : 1 ≤ n ∧ n ≤ 8
  · have hB : decide (1 ≤ n ∧ n ≤ 8) = true := decide_eq_true hn
    by_cases hL : l.length ≤ 1000
    · have hc : claimsB n l = l.all (okC n 1099511627776) := by simp [claimsB, hn.1, hn.2, hL]
      rw [hc]
      cases hall : l.all (okC n 1099511627776) with
      | true =>
        have hany : l.any (fun x => !okC n 1099511627776 x) = false := by rw [any_not, hall]; rfl
        repeat' first
          | apply cw_seq
          | (refine cw_region_id 0 ?_; (apply ol_val; exact rfl; first | (apply s_boxN; exact rfl; intro bk2) | (apply s_box1; exact rfl; exact rfl; intro bk2)); (apply ol_as; exact rfl; exact rfl); (apply ol_nil))
          | (refine cw_region_id 1 ?_; (apply ol_ld; exact rfl; exact rfl; exact rfl; (apply RdN.own; (focus ((repeat constructor); done)); (first | exact GetN.cons rfl GetN.nil | (apply getN_ints_app; (first | omega | (simp; omega) | (simp; done))) | (apply getN_ints; (first | omega | (simp; omega) | (simp; done)))))); (apply ol_val; exact rfl; apply s_callv; exact rfl; exact gf_47; (intro w' hw'; exact banks_spec _ _)); (apply ol_mv; exact rfl; exact rfl); (first | (apply ol_gskip; exact rfl; exact rfl; (first | exact rfl | assumption); exact rfl) | (apply ol_gval; exact rfl; exact rfl; exact rfl; (first | exact rfl | assumption); apply stp_pur; apply s_move; exact rfl)); (first | (apply ol_gskip; exact rfl; exact rfl; (first | exact rfl | assumption); exact rfl) | (apply ol_gval; exact rfl; exact rfl; exact rfl; (first | exact rfl | assumption); apply stp_pur; apply s_len; exact rfl; exact el_45)); (first | (apply ol_gskip; exact rfl; exact rfl; (first | exact rfl | assumption); exact rfl) | (apply ol_gval; exact rfl; exact rfl; exact rfl; (first | exact rfl | assumption); apply stp_cmp; apply s_leq; exact rfl; exact rfl; all_goals (intro hc10; try (exfalso; (first | exact hc10 rfl | omega))))); all_goals (apply ol_val; exact rfl; apply stp_pur; first | (apply s_pick_t; exact rfl; (first | exact rfl | assumption); exact rfl) | (apply s_pick_f; exact rfl; (first | exact rfl | assumption); exact rfl)); all_goals (apply ol_mv; exact rfl; exact rfl); all_goals (first | (apply ol_gskip; exact rfl; exact rfl; (first | exact rfl | assumption); exact rfl) | (apply ol_gval; exact rfl; exact rfl; exact rfl; (first | exact rfl | assumption); apply stp_pur; apply s_move; exact rfl)); all_goals (first | (apply ol_gskip; exact rfl; exact rfl; (first | exact rfl | assumption); exact rfl) | (apply ol_gval; exact rfl; exact rfl; exact rfl; (first | exact rfl | assumption); apply stp_pur; apply s_makeFunc; exact rfl; exact rfl)); all_goals (first | (apply ol_gskip; exact rfl; exact rfl; (first | exact rfl | assumption); exact rfl) | (apply ol_gval; exact rfl; exact rfl; exact rfl; (first | exact rfl | assumption); apply s_callv; exact rfl; exact gf_48; (intro w' hw'; exact anyCl_spec (View.le.refl (View.of w')) (cap := [_]) rfl (fun w'' x h => bad2_spec h x (OB.cell (hw'.ok_ (by (repeat (first | exact Has.here | apply Has.there)))) rfl)) hany rfl (s.mono hw'.le) hl))); all_goals (first | (apply ol_gskip; exact rfl; exact rfl; (first | exact rfl | assumption); exact rfl) | (apply ol_gval; exact rfl; exact rfl; exact rfl; (first | exact rfl | assumption); apply stp_pur; first | (apply s_not_t; exact rfl; (first | exact rfl | assumption)) | (apply s_not_f; exact rfl; (first | exact rfl | assumption)) | (apply s_not; exact rfl))); all_goals (apply ol_val; exact rfl; apply stp_pur; first | (apply s_pick_t; exact rfl; (first | exact rfl | assumption); exact rfl) | (apply s_pick_f; exact rfl; (first | exact rfl | assumption); exact rfl)); all_goals (apply ol_as; exact rfl; exact rfl); all_goals (apply ol_nil))
          | (apply cw_cond_true; exact rfl; (first | exact rfl | assumption))
          | (apply cw_cond_false; exact rfl; (first | exact rfl | assumption))
          | apply cw_skip
          | apply cw_ret
          | apply cw_block
          | apply cw_exit
        refine ends [] (RVal.tmp rfl RVal.nil) Pick.nil ?_
        rfl
      | false =>
        have hany : l.any (fun x => !okC n 1099511627776 x) = true := by rw [any_not, hall]; rfl
        repeat' first
          | apply cw_seq
          | (refine cw_region_id 0 ?_; (apply ol_val; exact rfl; first | (apply s_boxN; exact rfl; intro bk2) | (apply s_box1; exact rfl; exact rfl; intro bk2)); (apply ol_as; exact rfl; exact rfl); (apply ol_nil))
          | (refine cw_region_id 1 ?_; (apply ol_ld; exact rfl; exact rfl; exact rfl; (apply RdN.own; (focus ((repeat constructor); done)); (first | exact GetN.cons rfl GetN.nil | (apply getN_ints_app; (first | omega | (simp; omega) | (simp; done))) | (apply getN_ints; (first | omega | (simp; omega) | (simp; done)))))); (apply ol_val; exact rfl; apply s_callv; exact rfl; exact gf_47; (intro w' hw'; exact banks_spec _ _)); (apply ol_mv; exact rfl; exact rfl); (first | (apply ol_gskip; exact rfl; exact rfl; (first | exact rfl | assumption); exact rfl) | (apply ol_gval; exact rfl; exact rfl; exact rfl; (first | exact rfl | assumption); apply stp_pur; apply s_move; exact rfl)); (first | (apply ol_gskip; exact rfl; exact rfl; (first | exact rfl | assumption); exact rfl) | (apply ol_gval; exact rfl; exact rfl; exact rfl; (first | exact rfl | assumption); apply stp_pur; apply s_len; exact rfl; exact el_45)); (first | (apply ol_gskip; exact rfl; exact rfl; (first | exact rfl | assumption); exact rfl) | (apply ol_gval; exact rfl; exact rfl; exact rfl; (first | exact rfl | assumption); apply stp_cmp; apply s_leq; exact rfl; exact rfl; all_goals (intro hc10; try (exfalso; (first | exact hc10 rfl | omega))))); all_goals (apply ol_val; exact rfl; apply stp_pur; first | (apply s_pick_t; exact rfl; (first | exact rfl | assumption); exact rfl) | (apply s_pick_f; exact rfl; (first | exact rfl | assumption); exact rfl)); all_goals (apply ol_mv; exact rfl; exact rfl); all_goals (first | (apply ol_gskip; exact rfl; exact rfl; (first | exact rfl | assumption); exact rfl) | (apply ol_gval; exact rfl; exact rfl; exact rfl; (first | exact rfl | assumption); apply stp_pur; apply s_move; exact rfl)); all_goals (first | (apply ol_gskip; exact rfl; exact rfl; (first | exact rfl | assumption); exact rfl) | (apply ol_gval; exact rfl; exact rfl; exact rfl; (first | exact rfl | assumption); apply stp_pur; apply s_makeFunc; exact rfl; exact rfl)); all_goals (first | (apply ol_gskip; exact rfl; exact rfl; (first | exact rfl | assumption); exact rfl) | (apply ol_gval; exact rfl; exact rfl; exact rfl; (first | exact rfl | assumption); apply s_callv; exact rfl; exact gf_48; (intro w' hw'; exact anyCl_spec (View.le.refl (View.of w')) (cap := [_]) rfl (fun w'' x h => bad2_spec h x (OB.cell (hw'.ok_ (by (repeat (first | exact Has.here | apply Has.there)))) rfl)) hany rfl (s.mono hw'.le) hl))); all_goals (first | (apply ol_gskip; exact rfl; exact rfl; (first | exact rfl | assumption); exact rfl) | (apply ol_gval; exact rfl; exact rfl; exact rfl; (first | exact rfl | assumption); apply stp_pur; first | (apply s_not_t; exact rfl; (first | exact rfl | assumption)) | (apply s_not_f; exact rfl; (first | exact rfl | assumption)) | (apply s_not; exact rfl))); all_goals (apply ol_val; exact rfl; apply stp_pur; first | (apply s_pick_t; exact rfl; (first | exact rfl | assumption); exact rfl) | (apply s_pick_f; exact rfl; (first | exact rfl | assumption); exact rfl)); all_goals (apply ol_as; exact rfl; exact rfl); all_goals (apply ol_nil))
          | (apply cw_cond_true; exact rfl; (first | exact rfl | assumption))
          | (apply cw_cond_false; exact rfl; (first | exact rfl | assumption))
          | apply cw_skip
          | apply cw_ret
          | apply cw_block
          | apply cw_exit
        refine ends [] (RVal.tmp rfl RVal.nil) Pick.nil ?_
        rfl
    · have hc : claimsB n l = false := by simp [claimsB, hL]
      rw [hc]
      repeat' first
        | apply cw_seq
        | (refine cw_region_id 0 ?_; (apply ol_val; exact rfl; first | (apply s_boxN; exact rfl; intro bk2) | (apply s_box1; exact rfl; exact rfl; intro bk2)); (apply ol_as; exact rfl; exact rfl); (apply ol_nil))
        | (refine cw_region_id 1 ?_; (apply ol_ld; exact rfl; exact rfl; exact rfl; (apply RdN.own; (focus ((repeat constructor); done)); (first | exact GetN.cons rfl GetN.nil | (apply getN_ints_app; (first | omega | (simp; omega) | (simp; done))) | (apply getN_ints; (first | omega | (simp; omega) | (simp; done)))))); (apply ol_val; exact rfl; apply s_callv; exact rfl; exact gf_47; (intro w' hw'; exact banks_spec _ _)); (apply ol_mv; exact rfl; exact rfl); (first | (apply ol_gskip; exact rfl; exact rfl; (first | exact rfl | assumption); exact rfl) | (apply ol_gval; exact rfl; exact rfl; exact rfl; (first | exact rfl | assumption); apply stp_pur; apply s_move; exact rfl)); (first | (apply ol_gskip; exact rfl; exact rfl; (first | exact rfl | assumption); exact rfl) | (apply ol_gval; exact rfl; exact rfl; exact rfl; (first | exact rfl | assumption); apply stp_pur; apply s_len; exact rfl; exact el_45)); (first | (apply ol_gskip; exact rfl; exact rfl; (first | exact rfl | assumption); exact rfl) | (apply ol_gval; exact rfl; exact rfl; exact rfl; (first | exact rfl | assumption); apply stp_cmp; apply s_leq; exact rfl; exact rfl; all_goals (intro hc10; try (exfalso; (first | exact hc10 rfl | omega))))); all_goals (apply ol_val; exact rfl; apply stp_pur; first | (apply s_pick_t; exact rfl; (first | exact rfl | assumption); exact rfl) | (apply s_pick_f; exact rfl; (first | exact rfl | assumption); exact rfl)); all_goals (apply ol_mv; exact rfl; exact rfl); all_goals (first | (apply ol_gskip; exact rfl; exact rfl; (first | exact rfl | assumption); exact rfl) | (apply ol_gval; exact rfl; exact rfl; exact rfl; (first | exact rfl | assumption); apply stp_pur; apply s_move; exact rfl)); all_goals (first | (apply ol_gskip; exact rfl; exact rfl; (first | exact rfl | assumption); exact rfl) | (apply ol_gval; exact rfl; exact rfl; exact rfl; (first | exact rfl | assumption); apply stp_pur; apply s_makeFunc; exact rfl; exact rfl)); all_goals (apply ol_gskip; exact rfl; exact rfl; (first | exact rfl | assumption); exact rfl); all_goals (first | (apply ol_gskip; exact rfl; exact rfl; (first | exact rfl | assumption); exact rfl) | (apply ol_gval; exact rfl; exact rfl; exact rfl; (first | exact rfl | assumption); apply stp_pur; first | (apply s_not_t; exact rfl; (first | exact rfl | assumption)) | (apply s_not_f; exact rfl; (first | exact rfl | assumption)) | (apply s_not; exact rfl))); all_goals (apply ol_val; exact rfl; apply stp_pur; first | (apply s_pick_t; exact rfl; (first | exact rfl | assumption); exact rfl) | (apply s_pick_f; exact rfl; (first | exact rfl | assumption); exact rfl)); all_goals (apply ol_as; exact rfl; exact rfl); all_goals (apply ol_nil))
        | (apply cw_cond_true; exact rfl; (first | exact rfl | assumption))
        | (apply cw_cond_false; exact rfl; (first | exact rfl | assumption))
        | apply cw_skip
        | apply cw_ret
        | apply cw_block
        | apply cw_exit
      all_goals (refine ends [] (RVal.tmp rfl RVal.nil) Pick.nil ?_; rfl)
  · have hB : decide (1 ≤ n ∧ n ≤ 8) = false := decide_eq_false hn
    have hc : claimsB n l = false := by
      unfold claimsB
      rw [decide_eq_false (by omega)]
      rfl
    rw [hc]
    repeat' first
      | apply cw_seq
      | (refine cw_region_id 0 ?_; (apply ol_val; exact rfl; first | (apply s_boxN; exact rfl; intro bk2) | (apply s_box1; exact rfl; exact rfl; intro bk2)); (apply ol_as; exact rfl; exact rfl); (apply ol_nil))
      | (refine cw_region_id 1 ?_; (apply ol_ld; exact rfl; exact rfl; exact rfl; (apply RdN.own; (focus ((repeat constructor); done)); (first | exact GetN.cons rfl GetN.nil | (apply getN_ints_app; (first | omega | (simp; omega) | (simp; done))) | (apply getN_ints; (first | omega | (simp; omega) | (simp; done)))))); (apply ol_val; exact rfl; apply s_callv; exact rfl; exact gf_47; (intro w' hw'; exact banks_spec _ _)); (apply ol_mv; exact rfl; exact rfl); (first | (apply ol_gskip; exact rfl; exact rfl; (first | exact rfl | assumption); exact rfl) | (apply ol_gval; exact rfl; exact rfl; exact rfl; (first | exact rfl | assumption); apply stp_pur; apply s_move; exact rfl)); (first | (apply ol_gskip; exact rfl; exact rfl; (first | exact rfl | assumption); exact rfl) | (apply ol_gval; exact rfl; exact rfl; exact rfl; (first | exact rfl | assumption); apply stp_pur; apply s_len; exact rfl; exact el_45)); (first | (apply ol_gskip; exact rfl; exact rfl; (first | exact rfl | assumption); exact rfl) | (apply ol_gval; exact rfl; exact rfl; exact rfl; (first | exact rfl | assumption); apply stp_cmp; apply s_leq; exact rfl; exact rfl; all_goals (intro hc10; try (exfalso; (first | exact hc10 rfl | omega))))); all_goals (apply ol_val; exact rfl; apply stp_pur; first | (apply s_pick_t; exact rfl; (first | exact rfl | assumption); exact rfl) | (apply s_pick_f; exact rfl; (first | exact rfl | assumption); exact rfl)); all_goals (apply ol_mv; exact rfl; exact rfl); all_goals (first | (apply ol_gskip; exact rfl; exact rfl; (first | exact rfl | assumption); exact rfl) | (apply ol_gval; exact rfl; exact rfl; exact rfl; (first | exact rfl | assumption); apply stp_pur; apply s_move; exact rfl)); all_goals (first | (apply ol_gskip; exact rfl; exact rfl; (first | exact rfl | assumption); exact rfl) | (apply ol_gval; exact rfl; exact rfl; exact rfl; (first | exact rfl | assumption); apply stp_pur; apply s_makeFunc; exact rfl; exact rfl)); all_goals (apply ol_gskip; exact rfl; exact rfl; (first | exact rfl | assumption); exact rfl); all_goals (first | (apply ol_gskip; exact rfl; exact rfl; (first | exact rfl | assumption); exact rfl) | (apply ol_gval; exact rfl; exact rfl; exact rfl; (first | exact rfl | assumption); apply stp_pur; first | (apply s_not_t; exact rfl; (first | exact rfl | assumption)) | (apply s_not_f; exact rfl; (first | exact rfl | assumption)) | (apply s_not; exact rfl))); all_goals (apply ol_val; exact rfl; apply stp_pur; first | (apply s_pick_t; exact rfl; (first | exact rfl | assumption); exact rfl) | (apply s_pick_f; exact rfl; (first | exact rfl | assumption); exact rfl)); all_goals (apply ol_as; exact rfl; exact rfl); all_goals (apply ol_nil))
      | (apply cw_cond_true; exact rfl; (first | exact rfl | assumption))
      | (apply cw_cond_false; exact rfl; (first | exact rfl | assumption))
      | apply cw_skip
      | apply cw_ret
      | apply cw_block
      | apply cw_exit
    all_goals (refine ends [] (RVal.tmp rfl RVal.nil) Pick.nil ?_; rfl)

theorem refClaims_spec {M : View} {w : World} (hM : View.le M (View.of w)) {l : List C3} {n : Int} {m : Nat} (hm : l.length = m) {r : Bool} (hr : claimsB n l = r) {a : Option Addr} {b o c : Nat} (s : SlA M C3.enc 3 a l b o) (hl : l.length ≤ 4611686018427387904) :
    FnC Try.prog 26 [.int .i64 n, .slice a m c] w (fun v _ => v = .bool r) := by
  subst hm hr
  refine enterF (M := M) Try.func26 rfl rfl rfl rfl hM ?_
  by_cases hn : 1 ≤ n ∧ n ≤ 8 ∧ l.length ≤ 1000
  ·
    repeat' first
      | apply cw_seq
      | (refine cw_region_id 0 ?_; (apply ol_as; exact rfl; exact rfl); (apply ol_nil))
      | (refine cw_region_id 1 ?_; (apply ol_mv; exact rfl; exact rfl); (apply ol_val; exact rfl; apply stp_cmp; apply s_lss; exact rfl; exact rfl; all_goals (intro hc7; try (exfalso; (first | exact hc7 rfl | omega)))); all_goals (apply ol_mv; exact rfl; exact rfl); all_goals (first | (apply ol_gskip; exact rfl; exact rfl; (first | exact rfl | assumption); exact rfl) | (apply ol_gval; exact rfl; exact rfl; exact rfl; (first | exact rfl | assumption); apply stp_pur; apply s_move; exact rfl)); all_goals (first | (apply ol_gskip; exact rfl; exact rfl; (first | exact rfl | assumption); exact rfl) | (apply ol_gval; exact rfl; exact rfl; exact rfl; (first | exact rfl | assumption); apply stp_cmp; apply s_gtr; exact rfl; exact rfl; all_goals (intro hc10; try (exfalso; (first | exact hc10 rfl | omega))))); all_goals (apply ol_val; exact rfl; apply stp_pur; first | (apply s_pick_t; exact rfl; (first | exact rfl | assumption); exact rfl) | (apply s_pick_f; exact rfl; (first | exact rfl | assumption); exact rfl)); all_goals (apply ol_mv; exact rfl; exact rfl); all_goals (first | (apply ol_gskip; exact rfl; exact rfl; (first | exact rfl | assumption); exact rfl) | (apply ol_gval; exact rfl; exact rfl; exact rfl; (first | exact rfl | assumption); apply stp_pur; apply s_move; exact rfl)); all_goals (first | (apply ol_gskip; exact rfl; exact rfl; (first | exact rfl | assumption); exact rfl) | (apply ol_gval; exact rfl; exact rfl; exact rfl; (first | exact rfl | assumption); apply stp_pur; apply s_len; exact rfl; exact el_45)); all_goals (first | (apply ol_gskip; exact rfl; exact rfl; (first | exact rfl | assumption); exact rfl) | (apply ol_gval; exact rfl; exact rfl; exact rfl; (first | exact rfl | assumption); apply stp_cmp; apply s_gtr; exact rfl; exact rfl; all_goals (intro hc15; try (exfalso; (first | exact hc15 rfl | omega))))); all_goals (apply ol_val; exact rfl; apply stp_pur; first | (apply s_pick_t; exact rfl; (first | exact rfl | assumption); exact rfl) | (apply s_pick_f; exact rfl; (first | exact rfl | assumption); exact rfl)); all_goals (apply ol_nil))
      | (refine cw_region_id 2 ?_; (apply ol_as; exact rfl; exact rfl); (apply ol_nil))
      | (refine cw_region_id 3 ?_; (apply ol_as; exact rfl; exact rfl); (apply ol_nil))
      | (apply cw_cond_true; exact rfl; (first | exact rfl | assumption))
      | (apply cw_cond_false; exact rfl; (first | exact rfl | assumption))
      | apply cw_skip
      | apply cw_ret
      | apply cw_block
      | apply cw_exit
    refine cw_loopK (σ := Nat) [0, 1] (by (repeat (first | exact Keep.nil | (apply Keep.cons; exact rfl)))) (fun k => [(5, .int .i64 k)]) (fun _ => M) (fun _ => []) (fun k => k ≤ l.length ∧ (l.take k).all (okC n 1099511627776) = true) (fun k => l.length - k) 0 (by (repeat (first | exact trivial | refine And.intro rfl ?_))) (View.le.refl _) Pick.nil ⟨by omega, by simp⟩ ?_
    intro k ⟨hk, ht⟩
    by_cases hk' : k < l.length
    · cases hx : okC n 1099511627776 l[k] with
      | true =>
        repeat' first
          | apply cw_seq
          | (refine cw_region_id 4 ?_; (apply ol_mv; exact rfl; exact rfl); (apply ol_mv; exact rfl; exact rfl); (apply ol_val; exact rfl; apply stp_pur; apply s_len; exact rfl; exact el_45); (apply ol_val; exact rfl; apply stp_cmp; apply s_lss; exact rfl; exact rfl; all_goals (intro hc20; try (exfalso; (first | exact hc20 rfl | omega)))); all_goals (apply ol_nil))
          | (refine cw_region_id 6 ?_; (apply ol_mv; exact rfl; exact rfl); (apply ol_mv; exact rfl; exact rfl); (apply ol_mv; exact rfl; exact rfl); (apply ol_val; exact rfl; apply stp_pur; first | (apply s_indexK; exact rfl; exact rfl; exact el_45; exact sz_57; (first | exact rfl | exact s.at_ (by omega)); omega) | (apply s_indexO; exact rfl; exact rfl; exact el_45; exact sz_57; (first | exact rfl | exact s.at_ (by omega)); omega)); (apply ol_ldN; exact rfl; exact rfl; exact rfl; exact sz_57; (first | (apply RdN.own; (focus ((repeat constructor); done)); (focus ((repeat (first | exact rfl | constructor)); done))) | (apply RdN.view; exact s.cells k hk'))); (apply ol_val; exact rfl; apply s_callv; exact rfl; exact gf_43; (intro w' hw'; exact refClaim_spec _ l[k] _)); (apply ol_val; exact rfl; apply stp_pur; first | (apply s_not_t; exact rfl; (first | exact rfl | assumption)) | (apply s_not_f; exact rfl; (first | exact rfl | assumption)) | (apply s_not; exact rfl)); (apply ol_nil))
          | (refine cw_region_id 7 ?_; (apply ol_as; exact rfl; exact rfl); (apply ol_nil))
          | (refine cw_region_id 5 ?_; (apply ol_mv; exact rfl; exact rfl); (apply ol_val; exact rfl; apply stp_pur; apply s_add64; exact rfl; exact rfl; omega); (apply ol_as; exact rfl; exact rfl); (apply ol_nil))
          | (refine cw_region_id 8 ?_; (apply ol_as; exact rfl; exact rfl); (apply ol_nil))
          | (apply cw_cond_true; exact rfl; (first | exact rfl | assumption))
          | (apply cw_cond_false; exact rfl; (first | exact rfl | assumption))
          | apply cw_skip
          | apply cw_ret
          | apply cw_block
          | apply cw_exit
        exact ⟨k + 1, ⟨by (repeat (first | exact trivial | refine And.intro rfl ?_)), View.le.refl _, Pick.nil, ⟨hk', all_step hk' ht hx⟩, by omega⟩⟩
      | false =>
        have hf : claimsB n l = false := by simp [claimsB, not_all_at hk' hx]
        rw [hf]
        repeat' first
          | apply cw_seq
          | (refine cw_region_id 4 ?_; (apply ol_mv; exact rfl; exact rfl); (apply ol_mv; exact rfl; exact rfl); (apply ol_val; exact rfl; apply stp_pur; apply s_len; exact rfl; exact el_45); (apply ol_val; exact rfl; apply stp_cmp; apply s_lss; exact rfl; exact rfl; all_goals (intro hc20; try (exfalso; (first | exact hc20 rfl | omega)))); all_goals (apply ol_nil))
          | (refine cw_region_id 6 ?_; (apply ol_mv; exact rfl; exact rfl); (apply ol_mv; exact rfl; exact rfl); (apply ol_mv; exact rfl; exact rfl); (apply ol_val; exact rfl; apply stp_pur; first | (apply s_indexK; exact rfl; exact rfl; exact el_45; exact sz_57; (first | exact rfl | exact s.at_ (by omega)); omega) | (apply s_indexO; exact rfl; exact rfl; exact el_45; exact sz_57; (first | exact rfl | exact s.at_ (by omega)); omega)); (apply ol_ldN; exact rfl; exact rfl; exact rfl; exact sz_57; (first | (apply RdN.own; (focus ((repeat constructor); done)); (focus ((repeat (first | exact rfl | constructor)); done))) | (apply RdN.view; exact s.cells k hk'))); (apply ol_val; exact rfl; apply s_callv; exact rfl; exact gf_43; (intro w' hw'; exact refClaim_spec _ l[k] _)); (apply ol_val; exact rfl; apply stp_pur; first | (apply s_not_t; exact rfl; (first | exact rfl | assumption)) | (apply s_not_f; exact rfl; (first | exact rfl | assumption)) | (apply s_not; exact rfl)); (apply ol_nil))
          | (refine cw_region_id 7 ?_; (apply ol_as; exact rfl; exact rfl); (apply ol_nil))
          | (refine cw_region_id 5 ?_; (apply ol_mv; exact rfl; exact rfl); (apply ol_val; exact rfl; apply stp_pur; apply s_add64; exact rfl; exact rfl; omega); (apply ol_as; exact rfl; exact rfl); (apply ol_nil))
          | (refine cw_region_id 8 ?_; (apply ol_as; exact rfl; exact rfl); (apply ol_nil))
          | (apply cw_cond_true; exact rfl; (first | exact rfl | assumption))
          | (apply cw_cond_false; exact rfl; (first | exact rfl | assumption))
          | apply cw_skip
          | apply cw_ret
          | apply cw_block
          | apply cw_exit
        refine ends [] (RVal.tmp rfl RVal.nil) Pick.nil ?_
        rfl
    · have : k = l.length := by omega
      subst this
      rw [List.take_length] at ht
      have hP : claimsB n l = true := by
        unfold claimsB
        rw [decide_eq_true hn, ht]
        rfl
      rw [hP]
      repeat' first
        | apply cw_seq
        | (refine cw_region_id 4 ?_; (apply ol_mv; exact rfl; exact rfl); (apply ol_mv; exact rfl; exact rfl); (apply ol_val; exact rfl; apply stp_pur; apply s_len; exact rfl; exact el_45); (apply ol_val; exact rfl; apply stp_cmp; apply s_lss; exact rfl; exact rfl; all_goals (intro hc20; try (exfalso; (first | exact hc20 rfl | omega)))); all_goals (apply ol_nil))
        | (refine cw_region_id 6 ?_; (apply ol_mv; exact rfl; exact rfl); (apply ol_mv; exact rfl; exact rfl); (apply ol_mv; exact rfl; exact rfl); (apply ol_val; exact rfl; apply stp_pur; first | (apply s_indexK; exact rfl; exact rfl; exact el_45; exact sz_57; (first | exact rfl); omega) | (apply s_indexO; exact rfl; exact rfl; exact el_45; exact sz_57; (first | exact rfl); omega)); (apply ol_ldN; exact rfl; exact rfl; exact rfl; exact sz_57; (apply RdN.own; (focus ((repeat constructor); done)); (focus ((repeat (first | exact rfl | constructor)); done)))))
        | (refine cw_region_id 7 ?_; (apply ol_as; exact rfl; exact rfl); (apply ol_nil))
        | (refine cw_region_id 5 ?_; (apply ol_mv; exact rfl; exact rfl); (apply ol_val; exact rfl; apply stp_pur; apply s_add64; exact rfl; exact rfl; omega); (apply ol_as; exact rfl; exact rfl); (apply ol_nil))
        | (refine cw_region_id 8 ?_; (apply ol_as; exact rfl; exact rfl); (apply ol_nil))
        | (apply cw_cond_true; exact rfl; (first | exact rfl | assumption))
        | (apply cw_cond_false; exact rfl; (first | exact rfl | assumption))
        | apply cw_skip
        | apply cw_ret
        | apply cw_block
        | apply cw_exit
      refine ends [] (RVal.tmp rfl RVal.nil) Pick.nil ?_
      rfl
  · have hP : claimsB n l = false := by
      unfold claimsB
      rw [decide_eq_false hn]
      rfl
    rw [hP]
    repeat' first
      | apply cw_seq
      | (refine cw_region_id 0 ?_; (apply ol_as; exact rfl; exact rfl); (apply ol_nil))
      | (refine cw_region_id 1 ?_; (apply ol_mv; exact rfl; exact rfl); (apply ol_val; exact rfl; apply stp_cmp; apply s_lss; exact rfl; exact rfl; all_goals (intro hc7; try (exfalso; (first | exact hc7 rfl | omega)))); all_goals (apply ol_mv; exact rfl; exact rfl); all_goals (first | (apply ol_gskip; exact rfl; exact rfl; (first | exact rfl | assumption); exact rfl) | (apply ol_gval; exact rfl; exact rfl; exact rfl; (first | exact rfl | assumption); apply stp_pur; apply s_move; exact rfl)); all_goals (first | (apply ol_gskip; exact rfl; exact rfl; (first | exact rfl | assumption); exact rfl) | (apply ol_gval; exact rfl; exact rfl; exact rfl; (first | exact rfl | assumption); apply stp_cmp; apply s_gtr; exact rfl; exact rfl; all_goals (intro hc10; try (exfalso; (first | exact hc10 rfl | omega))))); all_goals (apply ol_val; exact rfl; apply stp_pur; first | (apply s_pick_t; exact rfl; (first | exact rfl | assumption); exact rfl) | (apply s_pick_f; exact rfl; (first | exact rfl | assumption); exact rfl)); all_goals (apply ol_mv; exact rfl; exact rfl); all_goals (first | (apply ol_gskip; exact rfl; exact rfl; (first | exact rfl | assumption); exact rfl) | (apply ol_gval; exact rfl; exact rfl; exact rfl; (first | exact rfl | assumption); apply stp_pur; apply s_move; exact rfl)); all_goals (first | (apply ol_gskip; exact rfl; exact rfl; (first | exact rfl | assumption); exact rfl) | (apply ol_gval; exact rfl; exact rfl; exact rfl; (first | exact rfl | assumption); apply stp_pur; apply s_len; exact rfl; exact el_45)); all_goals (first | (apply ol_gskip; exact rfl; exact rfl; (first | exact rfl | assumption); exact rfl) | (apply ol_gval; exact rfl; exact rfl; exact rfl; (first | exact rfl | assumption); apply stp_cmp; apply s_gtr; exact rfl; exact rfl; all_goals (intro hc15; try (exfalso; (first | exact hc15 rfl | omega))))); all_goals (apply ol_val; exact rfl; apply stp_pur; first | (apply s_pick_t; exact rfl; (first | exact rfl | assumption); exact rfl) | (apply s_pick_f; exact rfl; (first | exact rfl | assumption); exact rfl)); all_goals (apply ol_nil))
      | (refine cw_region_id 2 ?_; (apply ol_as; exact rfl; exact rfl); (apply ol_nil))
      | (refine cw_region_id 3 ?_; (apply ol_as; exact rfl; exact rfl); (apply ol_nil))
      | (apply cw_cond_true; exact rfl; (first | exact rfl | assumption))
      | (apply cw_cond_false; exact rfl; (first | exact rfl | assumption))
      | apply cw_skip
      | apply cw_ret
      | apply cw_block
      | apply cw_exit
    all_goals (refine ends [] (RVal.tmp rfl RVal.nil) Pick.nil ?_; rfl)

/-- A row and a number. -/
def Row2 {α : Type} (enc : α → List Value) (sz T : Nat) (xs : List α) (e : Value) (v : Value) (new : List OB) : Prop :=
  ∃ r A cap sp, v = .tuple #[.slice (base r A) xs.length cap, e] ∧ new = [⟨r, flat enc xs ++ sp, T⟩] ∧ SO r xs.length cap (flat enc xs) sp sz
theorem Row2.zero {α : Type} (enc : α → List Value) (sz T : Nat) (e : Value) : Row2 enc sz T [] e (.tuple #[.slice none 0 0, e]) [⟨none, [], T⟩] := ⟨none, none, 0, [], rfl, rfl, SO.nil sz⟩
/-- A row of ints. -/
def RowI (xs : List Int) (v : Value) (new : List OB) : Prop :=
  ∃ r A cap sp, v = .slice (base r A) xs.length cap ∧ new = [⟨r, ints xs ++ sp, 3⟩] ∧ SO r xs.length cap (ints xs) sp 1
def RowI2 (xs : List Int) (e : Value) (v : Value) (new : List OB) : Prop :=
  ∃ r A cap sp, v = .tuple #[.slice (base r A) xs.length cap, e] ∧ new = [⟨r, ints xs ++ sp, 3⟩] ∧ SO r xs.length cap (ints xs) sp 1
theorem RowI2.zero (e : Value) : RowI2 [] e (.tuple #[.slice none 0 0, e]) [⟨none, [], 3⟩] := ⟨none, none, 0, [], rfl, rfl, SO.nil 1⟩

theorem positions_spec {M : View} {w : World} (hM : View.le M (View.of w)) {l : List C3} {n : Int} {m : Nat} (hm : l.length = m) {xs : List Int} {e : Int} (hr : (if claimsB n l = true then (posAll n.toNat l, (0 : Int)) else ([], 1)) = (xs, e)) {a : Option Addr} {b o c : Nat} (s : SlA M C3.enc 3 a l b o) (hl : l.length ≤ 4611686018427387904) :
    FnC Try.prog 22 [.int .i64 n, .slice a m c] w (RowI2 xs (.int .i64 e)) := by
  subst hm
  refine enterF (M := M) Try.func22 rfl rfl rfl rfl hM ?_
  refine cw_none 3 ?_
  cases hc : claimsB n l with
  | false =>
    rw [hc] at hr
    obtain ⟨rfl, rfl⟩ := Prod.mk.inj hr
    repeat' first
      | apply cw_seq
      | (refine cw_region_id 0 ?_; (apply ol_as; exact rfl; exact rfl); (apply ol_as; exact rfl; exact rfl); (apply ol_nil))
      | (refine cw_region_id 1 ?_; (apply ol_mv; exact rfl; exact rfl); (apply ol_mv; exact rfl; exact rfl); (apply ol_val; exact rfl; apply s_callv; exact rfl; exact gf_42; (intro w' hw'; exact claims_spec (View.le.refl (View.of w')) rfl hc (s.mono hw'.le) hl)); (apply ol_val; exact rfl; apply stp_pur; first | (apply s_not_t; exact rfl; (first | exact rfl | assumption)) | (apply s_not_f; exact rfl; (first | exact rfl | assumption)) | (apply s_not; exact rfl)); (apply ol_nil))
      | (refine cw_region_id 2 ?_; (apply ol_as; exact rfl; exact rfl); (apply ol_as; exact rfl; exact rfl); (apply ol_nil))
      | (refine cw_region_id 3 ?_; (apply ol_mv; exact rfl; exact rfl); (apply ol_val; exact rfl; apply s_makeB; exact rfl; exact rfl; exact el_22; exact sz_3; exact zb_3; exact rfl; exact by_3; omega; omega; omega; intro bk14); (apply ol_as; exact rfl; exact rfl); (apply ol_nil))
      | (refine cw_region_id 4 ?_; (apply ol_mv; exact rfl; exact rfl); (apply ol_val; exact rfl; apply stp_pur; apply s_len; exact rfl; exact el_45); (apply ol_mv; exact rfl; exact rfl); (apply ol_nil))
      | (apply cw_cond_true; exact rfl; (first | exact rfl | assumption))
      | (apply cw_cond_false; exact rfl; (first | exact rfl | assumption))
      | apply cw_skip
      | apply cw_ret
      | apply cw_block
      | apply cw_exit
    refine ends [⟨none, [], 3⟩] (RVal.tmp rfl (RVal.tmp rfl RVal.nil)) (by (repeat (first | exact Pick.nil | (apply Pick.cons; (focus ((repeat (first | exact Spl.here | apply Spl.there)); done))) | exact Pick.refl))) ?_
    exact RowI2.zero _
  | true =>
    rw [hc, if_pos rfl] at hr
    obtain ⟨rfl, rfl⟩ := Prod.mk.inj hr
    obtain ⟨g1, g2, g3, g4⟩ := claimsB_spec hc
    obtain ⟨N, rfl⟩ := Int.eq_ofNat_of_zero_le (show 0 ≤ n by omega)
    repeat' first
      | apply cw_seq
      | (refine cw_region_id 0 ?_; (apply ol_as; exact rfl; exact rfl); (apply ol_as; exact rfl; exact rfl); (apply ol_nil))
      | (refine cw_region_id 1 ?_; (apply ol_mv; exact rfl; exact rfl); (apply ol_mv; exact rfl; exact rfl); (apply ol_val; exact rfl; apply s_callv; exact rfl; exact gf_42; (intro w' hw'; exact claims_spec (View.le.refl (View.of w')) rfl hc (s.mono hw'.le) hl)); (apply ol_val; exact rfl; apply stp_pur; first | (apply s_not_t; exact rfl; (first | exact rfl | assumption)) | (apply s_not_f; exact rfl; (first | exact rfl | assumption)) | (apply s_not; exact rfl)); (apply ol_nil))
      | (refine cw_region_id 2 ?_; (apply ol_as; exact rfl; exact rfl); (apply ol_as; exact rfl; exact rfl); (apply ol_nil))
      | (refine cw_region_id 3 ?_; (apply ol_mv; exact rfl; exact rfl); (apply ol_val; exact rfl; apply s_makeB; exact rfl; exact rfl; exact el_22; exact sz_3; exact zb_3; exact rfl; exact by_3; omega; omega; omega; intro bk14); (apply ol_as; exact rfl; exact rfl); (apply ol_nil))
      | (refine cw_region_id 4 ?_; (apply ol_mv; exact rfl; exact rfl); (apply ol_val; exact rfl; apply stp_pur; apply s_len; exact rfl; exact el_45); (apply ol_mv; exact rfl; exact rfl); (apply ol_nil))
      | (apply cw_cond_true; exact rfl; (first | exact rfl | assumption))
      | (apply cw_cond_false; exact rfl; (first | exact rfl | assumption))
      | apply cw_skip
      | apply cw_ret
      | apply cw_block
      | apply cw_exit
    have h0 : List.replicate N (Value.int .i64 0) = ints (posAll N []) := by
      apply List.ext_getElem
      · simp [posAll_length]
      · intro i h1 h2
        simp [ints, posAll, posOf]
    refine cw_loopK (σ := Nat) [6, 15, 16] (by (repeat (first | exact Keep.nil | (apply Keep.cons; exact rfl)))) (fun k => [(17, .int .i64 k)]) (fun _ => M) (fun k => [⟨some bk14, ints (posAll N (l.take k)), 3⟩]) (fun k => k ≤ l.length) (fun k => l.length - k) 0 (by (repeat (first | exact trivial | refine And.intro rfl ?_))) (View.le.refl _) (by rw [h0]; (repeat (first | exact Pick.nil | (apply Pick.cons; (focus ((repeat (first | exact Spl.here | apply Spl.there)); done))) | exact Pick.refl))) (by omega) ?_
    intro k hk
    by_cases hk' : k < l.length
    · have hok := g4 l[k] (List.getElem_mem _)
      have hx := okC_spec hok
      have hst : posAll N (l.take (k + 1)) = book (posAll N (l.take k)) l[k] := by rw [List.take_succ_eq_append_getElem hk', book_posAll hok]
      have hsm : ∀ i : Nat, i < N → -(1099511627776 * 1000) ≤ (posAll N (l.take k)).getD i 0 ∧ (posAll N (l.take k)).getD i 0 ≤ 1099511627776 * 1000 := fun i hi => by
        rw [posAll_get hi]
        have := posOf_small (l := l.take k) (fun x hx => g4 x (List.mem_of_mem_take hx)) (i : Int)
        rw [List.length_take] at this
        omega
      have sc := s.cells k hk'
      generalize l[k] = c0 at *
      have hlen := posAll_length N (l.take k)
      generalize hP : posAll N (l.take k) = P at *
      have q1 := hsm c0.f.toNat (by omega)
      have q2 := hsm c0.t.toNat (by omega)
      have q3 : (P.set c0.f.toNat (P.getD c0.f.toNat 0 - c0.a)).getD c0.t.toNat 0 = P.getD c0.t.toNat 0 := by
        rw [getD_set, if_neg (by omega)]
      repeat' first
        | apply cw_seq
        | (refine cw_region_id 5 ?_; (apply ol_val; exact rfl; apply stp_cmp; apply s_lss; exact rfl; exact rfl; all_goals (intro hc18; try (exfalso; (first | exact hc18 rfl | omega)))); all_goals (apply ol_nil))
        | (refine cw_region_id 6 ?_; (apply ol_val; exact rfl; apply stp_pur; first | (apply s_indexK; exact rfl; exact rfl; exact el_45; exact sz_57; (first | exact rfl | exact s.at_ (by omega)); omega) | (apply s_indexO; exact rfl; exact rfl; exact el_45; exact sz_57; (first | exact rfl | exact s.at_ (by omega)); omega)); (apply ol_ldN; exact rfl; exact rfl; exact rfl; exact sz_57; (first | (apply RdN.own; (focus ((repeat constructor); done)); (focus ((repeat (first | exact rfl | constructor)); done))) | (apply RdN.view; exact sc))); (apply ol_val; exact rfl; apply s_alloc; exact zb_57; (focus ((repeat constructor); done)); intro bk8); (apply ol_eff; apply s_storeN; exact rfl; exact rfl; exact sz_57; exact rfl; exact rfl; (focus ((repeat constructor); done)); (focus ((repeat constructor); done))); (apply ol_nil))
        | (refine cw_draw (id := 7) 9 (.mv 0 (.mv 1 (.mv 2 (.mv 3 (.mv 4 (.mv 5 (.mv 6 (.mv 7 (.mv 8 (PT.nil)))))))))) mixed (by kernel_rfl) ?_; (apply od_mv; exact rfl; exact rfl; apply s_move; exact rfl); (apply od_mv; exact rfl; exact rfl; apply s_fieldAddr'; exact rfl; exact fd_57_0; (first | exact Nat.zero_add _ | exact Nat.add_zero _ | exact rfl)); (apply od_mv; exact rfl; exact rfl; apply s_load1; exact rfl; exact rfl; (first | (apply RdN.own; (focus ((repeat constructor); done)); (first | exact GetN.cons rfl GetN.nil | (apply getN_ints_app; (first | omega | (simp; omega) | (simp; done))) | (apply getN_ints; (first | omega | (simp; omega) | (simp; done))))) | (apply RdN.view; exact sc))); (apply od_mv; exact rfl; exact rfl; first | (apply s_indexK; exact rfl; exact rfl; exact el_22; exact sz_3; (first | exact rfl | exact s.at_ (by omega)); omega) | (apply s_indexO; exact rfl; exact rfl; exact el_22; exact sz_3; (first | exact rfl | exact s.at_ (by omega)); omega)); (apply od_mv; exact rfl; exact rfl; apply s_load1; exact rfl; exact rfl; (first | (apply RdN.own; (focus ((repeat constructor); done)); (first | exact GetN.cons rfl GetN.nil | (apply getN_ints_app; (first | omega | (simp; omega) | (simp; done))) | (apply getN_ints; (first | omega | (simp; omega) | (simp; done))))) | (apply RdN.view; exact sc))); (apply od_mv; exact rfl; exact rfl; apply s_fieldAddr'; exact rfl; exact fd_57_2; (first | exact Nat.zero_add _ | exact Nat.add_zero _ | exact rfl)); (apply od_mv; exact rfl; exact rfl; apply s_load1; exact rfl; exact rfl; (first | (apply RdN.own; (focus ((repeat constructor); done)); (first | exact GetN.cons rfl GetN.nil | (apply getN_ints_app; (first | omega | (simp; omega) | (simp; done))) | (apply getN_ints; (first | omega | (simp; omega) | (simp; done))))) | (apply RdN.view; exact sc))); (apply od_mv; exact rfl; exact rfl; apply s_sub64; exact rfl; exact rfl; omega); (apply od_mv; exact rfl; exact rfl; first | (apply s_indexK; exact rfl; exact rfl; exact el_22; exact sz_3; (first | exact rfl | exact s.at_ (by omega)); omega) | (apply s_indexO; exact rfl; exact rfl; exact el_22; exact sz_3; (first | exact rfl | exact s.at_ (by omega)); omega)); (apply od_nil; (first | exact Wk.refl _ _ | (focus (apply Wk.mk; exact View.le.refl _; (repeat constructor); done)))); (apply ol_eff; apply s_store1; exact rfl; exact rfl; exact sz_3; exact rfl; (focus ((repeat constructor); done)); (first | (focus ((repeat constructor); done)) | (apply setAt_ints_app; (first | omega | (simp; omega) | (simp; done))) | (apply setAt_ints; (first | omega | (simp; omega) | (simp; done))) | (apply SetAt.set; (first | omega | (simp; omega) | (simp; done))))); (apply ol_nil))
        | (refine cw_draw (id := 8) 9 (.mv 0 (.mv 1 (.mv 2 (.mv 3 (.mv 4 (.mv 5 (.mv 6 (.mv 7 (.mv 8 (PT.nil)))))))))) mixed (by kernel_rfl) ?_; (apply od_mv; exact rfl; exact rfl; apply s_move; exact rfl); (apply od_mv; exact rfl; exact rfl; apply s_fieldAddr'; exact rfl; exact fd_57_1; (first | exact Nat.zero_add _ | exact Nat.add_zero _ | exact rfl)); (apply od_mv; exact rfl; exact rfl; apply s_load1; exact rfl; exact rfl; (first | (apply RdN.own; (focus ((repeat constructor); done)); (first | exact GetN.cons rfl GetN.nil | (apply getN_ints_app; (first | omega | (simp; omega) | (simp; done))) | (apply getN_ints; (first | omega | (simp; omega) | (simp; done))))) | (apply RdN.view; exact sc))); (apply od_mv; exact rfl; exact rfl; first | (apply s_indexK; exact rfl; exact rfl; exact el_22; exact sz_3; (first | exact rfl | exact s.at_ (by omega)); omega) | (apply s_indexO; exact rfl; exact rfl; exact el_22; exact sz_3; (first | exact rfl | exact s.at_ (by omega)); omega)); (apply od_mv; exact rfl; exact rfl; apply s_load1; exact rfl; exact rfl; (first | (apply RdN.own; (focus ((repeat constructor); done)); (first | exact GetN.cons rfl GetN.nil | (apply getN_ints_app; (first | omega | (simp; omega) | (simp; done))) | (apply getN_ints; (first | omega | (simp; omega) | (simp; done))))) | (apply RdN.view; exact sc))); (apply od_mv; exact rfl; exact rfl; apply s_fieldAddr'; exact rfl; exact fd_57_2; (first | exact Nat.zero_add _ | exact Nat.add_zero _ | exact rfl)); (apply od_mv; exact rfl; exact rfl; apply s_load1; exact rfl; exact rfl; (first | (apply RdN.own; (focus ((repeat constructor); done)); (first | exact GetN.cons rfl GetN.nil | (apply getN_ints_app; (first | omega | (simp; omega) | (simp; done))) | (apply getN_ints; (first | omega | (simp; omega) | (simp; done))))) | (apply RdN.view; exact sc))); (apply od_mv; exact rfl; exact rfl; apply s_add64; exact rfl; exact rfl; omega); (apply od_mv; exact rfl; exact rfl; first | (apply s_indexK; exact rfl; exact rfl; exact el_22; exact sz_3; (first | exact rfl | exact s.at_ (by omega)); omega) | (apply s_indexO; exact rfl; exact rfl; exact el_22; exact sz_3; (first | exact rfl | exact s.at_ (by omega)); omega)); (apply od_nil; (first | exact Wk.refl _ _ | (focus (apply Wk.mk; exact View.le.refl _; (repeat constructor); done)))); (apply ol_eff; apply s_store1; exact rfl; exact rfl; exact sz_3; exact rfl; (focus ((repeat constructor); done)); (first | (focus ((repeat constructor); done)) | (apply setAt_ints_app; (first | omega | (simp; omega) | (simp; done))) | (apply setAt_ints; (first | omega | (simp; omega) | (simp; done))) | (apply SetAt.set; (first | omega | (simp; omega) | (simp; done))))); (apply ol_nil))
        | (refine cw_region_id 9 ?_; (apply ol_val; exact rfl; apply stp_pur; apply s_add64; exact rfl; exact rfl; omega); (apply ol_mv; exact rfl; exact rfl); (apply ol_nil))
        | (refine cw_region_id 10 ?_; (apply ol_mv; exact rfl; exact rfl); (apply ol_as; exact rfl; exact rfl); (apply ol_as; exact rfl; exact rfl); (apply ol_nil))
        | (apply cw_cond_true; exact rfl; (first | exact rfl | assumption))
        | (apply cw_cond_false; exact rfl; (first | exact rfl | assumption))
        | apply cw_skip
        | apply cw_ret
        | apply cw_block
        | apply cw_exit
      refine ⟨k + 1, ⟨by (repeat (first | exact trivial | refine And.intro rfl ?_)), View.le.refl _, ?_, hk', by omega⟩⟩
      rw [hst]
      (repeat (first | exact Pick.nil | (apply Pick.cons; (focus ((repeat (first | exact Spl.here | apply Spl.there)); done))) | exact Pick.refl))
    · have : k = l.length := by omega
      subst this
      rw [List.take_length]
      repeat' first
        | apply cw_seq
        | (refine cw_region_id 5 ?_; (apply ol_val; exact rfl; apply stp_cmp; apply s_lss; exact rfl; exact rfl; all_goals (intro hc18; try (exfalso; (first | exact hc18 rfl | omega)))); all_goals (apply ol_nil))
        | (refine cw_region_id 6 ?_; (apply ol_val; exact rfl; apply stp_pur; first | (apply s_indexK; exact rfl; exact rfl; exact el_45; exact sz_57; (first | exact rfl); omega) | (apply s_indexO; exact rfl; exact rfl; exact el_45; exact sz_57; (first | exact rfl); omega)); (apply ol_ldN; exact rfl; exact rfl; exact rfl; exact sz_57; (apply RdN.own; (focus ((repeat constructor); done)); (focus ((repeat (first | exact rfl | constructor)); done)))); (apply ol_val; exact rfl; apply s_alloc; exact zb_57; (focus ((repeat constructor); done)); intro bk8); (apply ol_eff; apply s_storeN; exact rfl; exact rfl; exact sz_57; exact rfl; exact rfl; (focus ((repeat constructor); done)); (focus ((repeat constructor); done))); (apply ol_nil))
        | (refine cw_draw (id := 7) 9 (.mv 0 (.mv 1 (.mv 2 (.mv 3 (.mv 4 (.mv 5 (.mv 6 (.mv 7 (.mv 8 (PT.nil)))))))))) mixed (by kernel_rfl) ?_; (apply od_mv; exact rfl; exact rfl; apply s_move; exact rfl); (apply od_mv; exact rfl; exact rfl; apply s_fieldAddr'; exact rfl; exact fd_57_0; (first | exact Nat.zero_add _ | exact Nat.add_zero _ | exact rfl)); (apply od_mv; exact rfl; exact rfl; apply s_load1; exact rfl; exact rfl; (apply RdN.own; (focus ((repeat constructor); done)); (first | exact GetN.cons rfl GetN.nil | (apply getN_ints_app; (first | omega | (simp; omega) | (simp; done))) | (apply getN_ints; (first | omega | (simp; omega) | (simp; done)))))); (apply od_mv; exact rfl; exact rfl; first | (apply s_indexK; exact rfl; exact rfl; exact el_22; exact sz_3; (first | exact rfl); omega) | (apply s_indexO; exact rfl; exact rfl; exact el_22; exact sz_3; (first | exact rfl); omega)); (apply od_mv; exact rfl; exact rfl; apply s_load1; exact rfl; exact rfl; (apply RdN.own; (focus ((repeat constructor); done)); (first | exact GetN.cons rfl GetN.nil | (apply getN_ints_app; (first | omega | (simp; omega) | (simp; done))) | (apply getN_ints; (first | omega | (simp; omega) | (simp; done)))))); (apply od_mv; exact rfl; exact rfl; apply s_fieldAddr'; exact rfl; exact fd_57_2; (first | exact Nat.zero_add _ | exact Nat.add_zero _ | exact rfl)); (apply od_mv; exact rfl; exact rfl; apply s_load1; exact rfl; exact rfl; (apply RdN.own; (focus ((repeat constructor); done)); (first | exact GetN.cons rfl GetN.nil | (apply getN_ints_app; (first | omega | (simp; omega) | (simp; done))) | (apply getN_ints; (first | omega | (simp; omega) | (simp; done)))))); (apply od_mv; exact rfl; exact rfl; apply s_sub64; exact rfl; exact rfl; omega); (apply od_mv; exact rfl; exact rfl; first | (apply s_indexK; exact rfl; exact rfl; exact el_22; exact sz_3; (first | exact rfl); omega) | (apply s_indexO; exact rfl; exact rfl; exact el_22; exact sz_3; (first | exact rfl); omega)); (apply od_nil; (first | exact Wk.refl _ _ | (focus (apply Wk.mk; exact View.le.refl _; (repeat constructor); done)))); (apply ol_eff; apply s_store1; exact rfl; exact rfl; exact sz_3; exact rfl; (focus ((repeat constructor); done)); (first | (focus ((repeat constructor); done)) | (apply setAt_ints_app; (first | omega | (simp; omega) | (simp; done))) | (apply setAt_ints; (first | omega | (simp; omega) | (simp; done))) | (apply SetAt.set; (first | omega | (simp; omega) | (simp; done))))); (apply ol_nil))
        | (refine cw_draw (id := 8) 9 (.mv 0 (.mv 1 (.mv 2 (.mv 3 (.mv 4 (.mv 5 (.mv 6 (.mv 7 (.mv 8 (PT.nil)))))))))) mixed (by kernel_rfl) ?_; (apply od_mv; exact rfl; exact rfl; apply s_move; exact rfl); (apply od_mv; exact rfl; exact rfl; apply s_fieldAddr'; exact rfl; exact fd_57_1; (first | exact Nat.zero_add _ | exact Nat.add_zero _ | exact rfl)); (apply od_mv; exact rfl; exact rfl; apply s_load1; exact rfl; exact rfl; (apply RdN.own; (focus ((repeat constructor); done)); (first | exact GetN.cons rfl GetN.nil | (apply getN_ints_app; (first | omega | (simp; omega) | (simp; done))) | (apply getN_ints; (first | omega | (simp; omega) | (simp; done)))))); (apply od_mv; exact rfl; exact rfl; first | (apply s_indexK; exact rfl; exact rfl; exact el_22; exact sz_3; (first | exact rfl); omega) | (apply s_indexO; exact rfl; exact rfl; exact el_22; exact sz_3; (first | exact rfl); omega)); (apply od_mv; exact rfl; exact rfl; apply s_load1; exact rfl; exact rfl; (apply RdN.own; (focus ((repeat constructor); done)); (first | exact GetN.cons rfl GetN.nil | (apply getN_ints_app; (first | omega | (simp; omega) | (simp; done))) | (apply getN_ints; (first | omega | (simp; omega) | (simp; done)))))); (apply od_mv; exact rfl; exact rfl; apply s_fieldAddr'; exact rfl; exact fd_57_2; (first | exact Nat.zero_add _ | exact Nat.add_zero _ | exact rfl)); (apply od_mv; exact rfl; exact rfl; apply s_load1; exact rfl; exact rfl; (apply RdN.own; (focus ((repeat constructor); done)); (first | exact GetN.cons rfl GetN.nil | (apply getN_ints_app; (first | omega | (simp; omega) | (simp; done))) | (apply getN_ints; (first | omega | (simp; omega) | (simp; done)))))); (apply od_mv; exact rfl; exact rfl; apply s_add64; exact rfl; exact rfl; omega); (apply od_mv; exact rfl; exact rfl; first | (apply s_indexK; exact rfl; exact rfl; exact el_22; exact sz_3; (first | exact rfl); omega) | (apply s_indexO; exact rfl; exact rfl; exact el_22; exact sz_3; (first | exact rfl); omega)); (apply od_nil; (first | exact Wk.refl _ _ | (focus (apply Wk.mk; exact View.le.refl _; (repeat constructor); done)))); (apply ol_eff; apply s_store1; exact rfl; exact rfl; exact sz_3; exact rfl; (focus ((repeat constructor); done)); (first | (focus ((repeat constructor); done)) | (apply setAt_ints_app; (first | omega | (simp; omega) | (simp; done))) | (apply setAt_ints; (first | omega | (simp; omega) | (simp; done))) | (apply SetAt.set; (first | omega | (simp; omega) | (simp; done))))); (apply ol_nil))
        | (refine cw_region_id 9 ?_; (apply ol_val; exact rfl; apply stp_pur; apply s_add64; exact rfl; exact rfl; omega); (apply ol_mv; exact rfl; exact rfl); (apply ol_nil))
        | (refine cw_region_id 10 ?_; (apply ol_mv; exact rfl; exact rfl); (apply ol_as; exact rfl; exact rfl); (apply ol_as; exact rfl; exact rfl); (apply ol_nil))
        | (apply cw_cond_true; exact rfl; (first | exact rfl | assumption))
        | (apply cw_cond_false; exact rfl; (first | exact rfl | assumption))
        | apply cw_skip
        | apply cw_ret
        | apply cw_block
        | apply cw_exit
      refine ends [⟨some bk14, ints (posAll N l), 3⟩] (RVal.tmp rfl (RVal.tmp rfl RVal.nil)) (by (repeat (first | exact Pick.nil | (apply Pick.cons; (focus ((repeat (first | exact Spl.here | apply Spl.there)); done))) | exact Pick.refl))) ?_
      refine ⟨some bk14, none, N, [], ?_, ?_, ⟨by simp [posAll_length], by simp [posAll_length], by simp [posAll_length], by simp⟩⟩
      · simp [tup, posAll_length, base]
      · simp

theorem posOf_step {n : Int} {l : List C3} {k : Nat} (hk : k < l.length) (i : Int) : posOf i (l.take (k + 1)) = posOf i (l.take k) + mvC i l[k] := by rw [List.take_succ_eq_append_getElem hk, posOf_snoc]

theorem refPosition_spec {M : View} {w : World} (hM : View.le M (View.of w)) {l : List C3} {n : Int} (hc : claimsB n l = true) {i : Int} {m : Nat} (hm : l.length = m) {a : Option Addr} {b o c : Nat} (s : SlA M C3.enc 3 a l b o) :
    FnC Try.prog 45 [.int .i64 i, .slice a m c] w (fun v _ => v = .int .i64 (posOf i l)) := by
  subst hm
  obtain ⟨g1, g2, g3, g4⟩ := claimsB_spec hc
  refine enterF (M := M) Try.func45 rfl rfl rfl rfl hM ?_
  repeat' first
    | apply cw_seq
    | (refine cw_region_id 0 ?_; (apply ol_as; exact rfl; exact rfl); (apply ol_nil))
    | (refine cw_region_id 1 ?_; (apply ol_as; exact rfl; exact rfl); (apply ol_nil))
    | (refine cw_region_id 2 ?_; (apply ol_as; exact rfl; exact rfl); (apply ol_nil))
    | (apply cw_cond_true; exact rfl; (first | exact rfl | assumption))
    | (apply cw_cond_false; exact rfl; (first | exact rfl | assumption))
    | apply cw_skip
    | apply cw_ret
    | apply cw_block
    | apply cw_exit
  refine cw_loopK (σ := Nat) [0, 1] (by (repeat (first | exact Keep.nil | (apply Keep.cons; exact rfl)))) (fun k => [(5, .int .i64 (posOf i (l.take k))), (6, .int .i64 k)]) (fun _ => M) (fun _ => []) (fun k => k ≤ l.length) (fun k => l.length - k) 0 (by (repeat (first | exact trivial | refine And.intro rfl ?_))) (View.le.refl _) Pick.nil (by omega) ?_
  intro k hk
  have hsm := posOf_small (l := l.take k) (fun x hx => g4 x (List.mem_of_mem_take hx)) i
  rw [List.length_take, Nat.min_eq_left hk] at hsm
  by_cases hk' : k < l.length
  · have hx := okC_spec (g4 l[k] (List.getElem_mem _))
    have hst := posOf_step (n := n) hk' i
    have hmv : (l[k].t = i → mvC i l[k] = l[k].a) ∧ (l[k].f = i → mvC i l[k] = -l[k].a) ∧ (l[k].t ≠ i → l[k].f ≠ i → mvC i l[k] = 0) := by
      unfold mvC
      refine ⟨fun e => ?_, fun e => ?_, fun e e' => ?_⟩
      · rw [if_pos e.symm]
      · rw [if_neg (by omega), if_pos e.symm]
      · rw [if_neg (by omega), if_neg (by omega)]
    repeat' first
      | apply cw_seq
      | (refine cw_region_id 3 ?_; (apply ol_mv; exact rfl; exact rfl); (apply ol_mv; exact rfl; exact rfl); (apply ol_val; exact rfl; apply stp_pur; apply s_len; exact rfl; exact el_45); (apply ol_val; exact rfl; apply stp_cmp; apply s_lss; exact rfl; exact rfl; all_goals (intro hc10; try (exfalso; (first | exact hc10 rfl | omega)))); all_goals (apply ol_nil))
      | (refine cw_region_id 5 ?_; (apply ol_mv; exact rfl; exact rfl); (apply ol_mv; exact rfl; exact rfl); (apply ol_val; exact rfl; apply stp_pur; first | (apply s_indexK; exact rfl; exact rfl; exact el_45; exact sz_57; (first | exact rfl | exact s.at_ (by omega)); omega) | (apply s_indexO; exact rfl; exact rfl; exact el_45; exact sz_57; (first | exact rfl | exact s.at_ (by omega)); omega)); (apply ol_fa; exact rfl; exact rfl; exact fd_57_1; (first | exact Nat.zero_add _ | exact Nat.add_zero _ | exact rfl)); (apply ol_ld; exact rfl; exact rfl; exact rfl; (first | (apply RdN.own; (focus ((repeat constructor); done)); (first | exact GetN.cons rfl GetN.nil | (apply getN_ints_app; (first | omega | (simp; omega) | (simp; done))) | (apply getN_ints; (first | omega | (simp; omega) | (simp; done))))) | (apply RdN.view; exact GetN.fld (s.cells k hk') 0 rfl) | (apply RdN.view; exact GetN.fld (s.cells k hk') 1 rfl) | (apply RdN.view; exact GetN.fld (s.cells k hk') 2 rfl))); (apply ol_mv; exact rfl; exact rfl); (apply ol_val; exact rfl; apply stp_cmp; apply s_eql; exact rfl; exact rfl; all_goals (intro hc19; try (exfalso; (first | exact hc19 rfl | omega)))); all_goals (apply ol_nil))
      | (refine cw_region_id 6 ?_; (apply ol_mv; exact rfl; exact rfl); (apply ol_mv; exact rfl; exact rfl); (apply ol_mv; exact rfl; exact rfl); (apply ol_val; exact rfl; apply stp_pur; first | (apply s_indexK; exact rfl; exact rfl; exact el_45; exact sz_57; (first | exact rfl | exact s.at_ (by omega)); omega) | (apply s_indexO; exact rfl; exact rfl; exact el_45; exact sz_57; (first | exact rfl | exact s.at_ (by omega)); omega)); (apply ol_fa; exact rfl; exact rfl; exact fd_57_2; (first | exact Nat.zero_add _ | exact Nat.add_zero _ | exact rfl)); (apply ol_ld; exact rfl; exact rfl; exact rfl; (first | (apply RdN.own; (focus ((repeat constructor); done)); (first | exact GetN.cons rfl GetN.nil | (apply getN_ints_app; (first | omega | (simp; omega) | (simp; done))) | (apply getN_ints; (first | omega | (simp; omega) | (simp; done))))) | (apply RdN.view; exact GetN.fld (s.cells k hk') 0 rfl) | (apply RdN.view; exact GetN.fld (s.cells k hk') 1 rfl) | (apply RdN.view; exact GetN.fld (s.cells k hk') 2 rfl))); (apply ol_val; exact rfl; apply stp_pur; apply s_add64; exact rfl; exact rfl; omega); (apply ol_as; exact rfl; exact rfl); (apply ol_nil))
      | (refine cw_region_id 7 ?_; (apply ol_mv; exact rfl; exact rfl); (apply ol_mv; exact rfl; exact rfl); (apply ol_val; exact rfl; apply stp_pur; first | (apply s_indexK; exact rfl; exact rfl; exact el_45; exact sz_57; (first | exact rfl | exact s.at_ (by omega)); omega) | (apply s_indexO; exact rfl; exact rfl; exact el_45; exact sz_57; (first | exact rfl | exact s.at_ (by omega)); omega)); (apply ol_fa; exact rfl; exact rfl; exact fd_57_0; (first | exact Nat.zero_add _ | exact Nat.add_zero _ | exact rfl)); (apply ol_ld; exact rfl; exact rfl; exact rfl; (first | (apply RdN.own; (focus ((repeat constructor); done)); (first | exact GetN.cons rfl GetN.nil | (apply getN_ints_app; (first | omega | (simp; omega) | (simp; done))) | (apply getN_ints; (first | omega | (simp; omega) | (simp; done))))) | (apply RdN.view; exact GetN.fld (s.cells k hk') 0 rfl) | (apply RdN.view; exact GetN.fld (s.cells k hk') 1 rfl) | (apply RdN.view; exact GetN.fld (s.cells k hk') 2 rfl))); (apply ol_mv; exact rfl; exact rfl); (apply ol_val; exact rfl; apply stp_cmp; apply s_eql; exact rfl; exact rfl; all_goals (intro hc33; try (exfalso; (first | exact hc33 rfl | omega)))); all_goals (apply ol_nil))
      | (refine cw_region_id 8 ?_; (apply ol_mv; exact rfl; exact rfl); (apply ol_mv; exact rfl; exact rfl); (apply ol_mv; exact rfl; exact rfl); (apply ol_val; exact rfl; apply stp_pur; first | (apply s_indexK; exact rfl; exact rfl; exact el_45; exact sz_57; (first | exact rfl | exact s.at_ (by omega)); omega) | (apply s_indexO; exact rfl; exact rfl; exact el_45; exact sz_57; (first | exact rfl | exact s.at_ (by omega)); omega)); (apply ol_fa; exact rfl; exact rfl; exact fd_57_2; (first | exact Nat.zero_add _ | exact Nat.add_zero _ | exact rfl)); (apply ol_ld; exact rfl; exact rfl; exact rfl; (first | (apply RdN.own; (focus ((repeat constructor); done)); (first | exact GetN.cons rfl GetN.nil | (apply getN_ints_app; (first | omega | (simp; omega) | (simp; done))) | (apply getN_ints; (first | omega | (simp; omega) | (simp; done))))) | (apply RdN.view; exact GetN.fld (s.cells k hk') 0 rfl) | (apply RdN.view; exact GetN.fld (s.cells k hk') 1 rfl) | (apply RdN.view; exact GetN.fld (s.cells k hk') 2 rfl))); (apply ol_val; exact rfl; apply stp_pur; apply s_sub64; exact rfl; exact rfl; omega); (apply ol_as; exact rfl; exact rfl); (apply ol_nil))
      | (refine cw_region_id 4 ?_; (apply ol_mv; exact rfl; exact rfl); (apply ol_val; exact rfl; apply stp_pur; apply s_add64; exact rfl; exact rfl; omega); (apply ol_as; exact rfl; exact rfl); (apply ol_nil))
      | (refine cw_region_id 9 ?_; (apply ol_mv; exact rfl; exact rfl); (apply ol_as; exact rfl; exact rfl); (apply ol_nil))
      | (apply cw_cond_true; exact rfl; (first | exact rfl | assumption))
      | (apply cw_cond_false; exact rfl; (first | exact rfl | assumption))
      | apply cw_skip
      | apply cw_ret
      | apply cw_block
      | apply cw_exit
    all_goals first
      | (exfalso; omega)
      | (refine ⟨k + 1, ⟨?_, View.le.refl _, Pick.nil, hk', by omega⟩⟩
         rw [hst]
         first
           | (rw [hmv.1 (by assumption)]; (repeat (first | exact trivial | refine And.intro rfl ?_)); done)
           | (rw [hmv.2.1 (by assumption), ← Int.sub_eq_add_neg]; (repeat (first | exact trivial | refine And.intro rfl ?_)); done)
           | (rw [hmv.2.2 (by assumption) (by assumption), Int.add_zero]; (repeat (first | exact trivial | refine And.intro rfl ?_)); done))
  · have : k = l.length := by omega
    subst this
    rw [List.take_length]
    repeat' first
      | apply cw_seq
      | (refine cw_region_id 3 ?_; (apply ol_mv; exact rfl; exact rfl); (apply ol_mv; exact rfl; exact rfl); (apply ol_val; exact rfl; apply stp_pur; apply s_len; exact rfl; exact el_45); (apply ol_val; exact rfl; apply stp_cmp; apply s_lss; exact rfl; exact rfl; all_goals (intro hc10; try (exfalso; (first | exact hc10 rfl | omega)))); all_goals (apply ol_nil))
      | (refine cw_region_id 5 ?_; (apply ol_mv; exact rfl; exact rfl); (apply ol_mv; exact rfl; exact rfl); (apply ol_val; exact rfl; apply stp_pur; first | (apply s_indexK; exact rfl; exact rfl; exact el_45; exact sz_57; (first | exact rfl); omega) | (apply s_indexO; exact rfl; exact rfl; exact el_45; exact sz_57; (first | exact rfl); omega)); (apply ol_fa; exact rfl; exact rfl; exact fd_57_1; (first | exact Nat.zero_add _ | exact Nat.add_zero _ | exact rfl)); (apply ol_ld; exact rfl; exact rfl; exact rfl; (apply RdN.own; (focus ((repeat constructor); done)); (first | exact GetN.cons rfl GetN.nil | (apply getN_ints_app; (first | omega | (simp; omega) | (simp; done))) | (apply getN_ints; (first | omega | (simp; omega) | (simp; done)))))); (apply ol_mv; exact rfl; exact rfl); (apply ol_val; exact rfl; apply stp_cmp; apply s_eql; exact rfl; exact rfl; all_goals (intro hc19; try (exfalso; (first | exact hc19 rfl | omega)))); all_goals (apply ol_nil))
      | (refine cw_region_id 6 ?_; (apply ol_mv; exact rfl; exact rfl); (apply ol_mv; exact rfl; exact rfl); (apply ol_mv; exact rfl; exact rfl); (apply ol_val; exact rfl; apply stp_pur; first | (apply s_indexK; exact rfl; exact rfl; exact el_45; exact sz_57; (first | exact rfl); omega) | (apply s_indexO; exact rfl; exact rfl; exact el_45; exact sz_57; (first | exact rfl); omega)); (apply ol_fa; exact rfl; exact rfl; exact fd_57_2; (first | exact Nat.zero_add _ | exact Nat.add_zero _ | exact rfl)); (apply ol_ld; exact rfl; exact rfl; exact rfl; (apply RdN.own; (focus ((repeat constructor); done)); (first | exact GetN.cons rfl GetN.nil | (apply getN_ints_app; (first | omega | (simp; omega) | (simp; done))) | (apply getN_ints; (first | omega | (simp; omega) | (simp; done)))))); (apply ol_val; exact rfl; apply stp_pur; apply s_add64; exact rfl; exact rfl; omega); (apply ol_as; exact rfl; exact rfl); (apply ol_nil))
      | (refine cw_region_id 7 ?_; (apply ol_mv; exact rfl; exact rfl); (apply ol_mv; exact rfl; exact rfl); (apply ol_val; exact rfl; apply stp_pur; first | (apply s_indexK; exact rfl; exact rfl; exact el_45; exact sz_57; (first | exact rfl); omega) | (apply s_indexO; exact rfl; exact rfl; exact el_45; exact sz_57; (first | exact rfl); omega)); (apply ol_fa; exact rfl; exact rfl; exact fd_57_0; (first | exact Nat.zero_add _ | exact Nat.add_zero _ | exact rfl)); (apply ol_ld; exact rfl; exact rfl; exact rfl; (apply RdN.own; (focus ((repeat constructor); done)); (first | exact GetN.cons rfl GetN.nil | (apply getN_ints_app; (first | omega | (simp; omega) | (simp; done))) | (apply getN_ints; (first | omega | (simp; omega) | (simp; done)))))); (apply ol_mv; exact rfl; exact rfl); (apply ol_val; exact rfl; apply stp_cmp; apply s_eql; exact rfl; exact rfl; all_goals (intro hc33; try (exfalso; (first | exact hc33 rfl | omega)))); all_goals (apply ol_nil))
      | (refine cw_region_id 8 ?_; (apply ol_mv; exact rfl; exact rfl); (apply ol_mv; exact rfl; exact rfl); (apply ol_mv; exact rfl; exact rfl); (apply ol_val; exact rfl; apply stp_pur; first | (apply s_indexK; exact rfl; exact rfl; exact el_45; exact sz_57; (first | exact rfl); omega) | (apply s_indexO; exact rfl; exact rfl; exact el_45; exact sz_57; (first | exact rfl); omega)); (apply ol_fa; exact rfl; exact rfl; exact fd_57_2; (first | exact Nat.zero_add _ | exact Nat.add_zero _ | exact rfl)); (apply ol_ld; exact rfl; exact rfl; exact rfl; (apply RdN.own; (focus ((repeat constructor); done)); (first | exact GetN.cons rfl GetN.nil | (apply getN_ints_app; (first | omega | (simp; omega) | (simp; done))) | (apply getN_ints; (first | omega | (simp; omega) | (simp; done)))))); (apply ol_val; exact rfl; apply stp_pur; apply s_sub64; exact rfl; exact rfl; omega); (apply ol_as; exact rfl; exact rfl); (apply ol_nil))
      | (refine cw_region_id 4 ?_; (apply ol_mv; exact rfl; exact rfl); (apply ol_val; exact rfl; apply stp_pur; apply s_add64; exact rfl; exact rfl; omega); (apply ol_as; exact rfl; exact rfl); (apply ol_nil))
      | (refine cw_region_id 9 ?_; (apply ol_mv; exact rfl; exact rfl); (apply ol_as; exact rfl; exact rfl); (apply ol_nil))
      | (apply cw_cond_true; exact rfl; (first | exact rfl | assumption))
      | (apply cw_cond_false; exact rfl; (first | exact rfl | assumption))
      | apply cw_skip
      | apply cw_ret
      | apply cw_block
      | apply cw_exit
    refine ends [] (RVal.tmp rfl RVal.nil) Pick.nil ?_
    rfl

structure RI where
  k : Nat
  r : Option Nat
  A : Option Addr
  c : Nat
  sp : List Value

theorem refPositions_spec {M : View} {w : World} (hM : View.le M (View.of w)) {l : List C3} {N : Nat} (hc : claimsB N l = true) {m : Nat} (hm : l.length = m) {a : Option Addr} {b o c : Nat} (s : SlA M C3.enc 3 a l b o) :
    FnC Try.prog 30 [.int .i64 (N : Int), .slice a m c] w (RowI (posAll N l)) := by
  subst hm
  obtain ⟨g1, g2, g3, g4⟩ := claimsB_spec hc
  refine enterF (M := M) Try.func30 rfl rfl rfl rfl hM ?_
  refine cw_none 3 ?_
  repeat' first
    | apply cw_seq
    | (refine cw_region_id 0 ?_; (apply ol_as; exact rfl; exact rfl); (apply ol_nil))
    | (refine cw_region_id 1 ?_; (apply ol_as; exact rfl; exact rfl); (apply ol_nil))
    | (refine cw_region_id 2 ?_; (apply ol_as; exact rfl; exact rfl); (apply ol_nil))
    | (apply cw_cond_true; exact rfl; (first | exact rfl | assumption))
    | (apply cw_cond_false; exact rfl; (first | exact rfl | assumption))
    | apply cw_skip
    | apply cw_ret
    | apply cw_block
    | apply cw_exit
  refine cw_loopK (σ := RI) [0, 1] (by (repeat (first | exact Keep.nil | (apply Keep.cons; exact rfl)))) (fun s => [(5, .slice (base s.r s.A) s.k s.c), (6, .int .i64 s.k)]) (fun _ => M) (fun s => [⟨s.r, ints (posAll s.k l) ++ s.sp, 3⟩]) (fun s => s.k ≤ N ∧ SO s.r s.k s.c (ints (posAll s.k l)) s.sp 1) (fun s => N - s.k) ⟨0, none, none, 0, []⟩ (by (repeat (first | exact trivial | refine And.intro rfl ?_))) (View.le.refl _) (by (repeat (first | exact Pick.nil | (apply Pick.cons; (focus ((repeat (first | exact Spl.here | apply Spl.there)); done))) | exact Pick.refl))) ⟨by dsimp only; omega, SO.nil 1⟩ ?_
  rintro ⟨k, r, A, c1, sp⟩ ⟨hk, so⟩
  dsimp only at hk so
  dsimp only
  by_cases hk' : k < N
  · have hst : ints (posAll (k + 1) l) = ints (posAll k l) ++ [.int .i64 (posOf k l)] := by
      simp [posAll, ints, List.range_succ]
    repeat' first
      | apply cw_seq
      | (refine cw_region_id 3 ?_; (apply ol_mv; exact rfl; exact rfl); (apply ol_mv; exact rfl; exact rfl); (apply ol_val; exact rfl; apply stp_cmp; apply s_lss; exact rfl; exact rfl; all_goals (intro hc9; try (exfalso; (first | exact hc9 rfl | omega)))); all_goals (apply ol_nil))
      | (refine cw_region_id 5 ?_; (apply ol_mv; exact rfl; exact rfl); (apply ol_mv; exact rfl; exact rfl); (apply ol_mv; exact rfl; exact rfl); (apply ol_val; exact rfl; apply s_callv; exact rfl; exact gf_45; (intro w' hw'; exact refPosition_spec (View.le.refl (View.of w')) hc rfl (s.mono hw'.le))); (apply ol_val; exact rfl; apply s_buildSl; exact rfl; exact el_22; exact sz_3; exact zb_3; (focus ((repeat constructor); done)); exact rfl; exact rfl; (exact Nat.le_of_ble_eq_true rfl); (focus ((repeat constructor); done)); (focus ((repeat (first | exact rfl | constructor)); done)); intro bk16); (apply ol_val; exact rfl; first | (apply s_append_e; exact rfl; exact rfl; (focus ((repeat constructor); done)); exact el_22; exact sz_3; exact zb_3; exact rfl; exact by_3; (first | exact (fun _ => rfl)); (first | (apply RdN.own; (focus ((repeat constructor); done)); (focus ((repeat (first | exact rfl | constructor)); done)))); (first | exact rfl); (first | omega | (simp; omega) | (simp; done)); (first | omega | (simp; omega) | (simp; done)); intro rk17 sk17 ck17 ok17) | (apply s_append_r; exact rfl; exact rfl; (focus ((repeat constructor); done)); (first | exact rfl | exact (List.append_nil _).symm); exact el_22; exact sz_3; exact zb_3; exact rfl; exact by_3; (first | exact SO.nil _ | assumption | (exact ⟨by simp, by simp, Nat.le_refl _, by simp⟩)); (first | exact (fun _ => rfl)); (first | (apply RdN.own; (focus ((repeat constructor); done)); (focus ((repeat (first | exact rfl | constructor)); done)))); (first | exact rfl); (first | omega | (simp; omega) | (simp; done)); (first | omega | (simp; omega) | (simp; done)); intro rk17 sk17 ck17 ok17) | (apply s_append_b; exact rfl; exact rfl; (focus ((repeat constructor); done)); (first | exact rfl | exact (List.append_nil _).symm); exact el_22; exact sz_3; exact zb_3; exact rfl; exact by_3; (first | exact SO.nil _ | assumption | (exact ⟨by simp, by simp, Nat.le_refl _, by simp⟩)); (first | exact (fun _ => rfl)); (first | (apply RdN.own; (focus ((repeat constructor); done)); (focus ((repeat (first | exact rfl | constructor)); done)))); (first | exact rfl); (first | omega | (simp; omega) | (simp; done)); (first | omega | (simp; omega) | (simp; done)); intro rk17 sk17 ck17 ok17) | (apply s_append_n; exact rfl; exact rfl; (focus ((repeat constructor); done)); exact el_22; exact sz_3; exact zb_3; exact rfl; exact by_3; (first | exact (fun _ => rfl)); (first | (apply RdN.own; (focus ((repeat constructor); done)); (focus ((repeat (first | exact rfl | constructor)); done)))); (first | exact rfl); (first | omega | (simp; omega) | (simp; done)); (first | omega | (simp; omega) | (simp; done)); intro rk17 sk17 ck17 ok17)); (apply ol_as; exact rfl; exact rfl); (apply ol_nil))
      | (refine cw_region_id 4 ?_; (apply ol_mv; exact rfl; exact rfl); (apply ol_val; exact rfl; apply stp_pur; apply s_add64; exact rfl; exact rfl; omega); (apply ol_as; exact rfl; exact rfl); (apply ol_nil))
      | (refine cw_region_id 6 ?_; (apply ol_mv; exact rfl; exact rfl); (apply ol_as; exact rfl; exact rfl); (apply ol_nil))
      | (apply cw_cond_true; exact rfl; (first | exact rfl | assumption))
      | (apply cw_cond_false; exact rfl; (first | exact rfl | assumption))
      | apply cw_skip
      | apply cw_ret
      | apply cw_block
      | apply cw_exit
    refine ⟨⟨k + 1, rk17, A, ck17, sk17⟩, ⟨by (repeat (first | exact trivial | refine And.intro rfl ?_)), View.le.refl _, ?_, ⟨hk', ?_⟩, by dsimp only; omega⟩⟩
    · dsimp only; rw [hst]; (repeat (first | exact Pick.nil | (apply Pick.cons; (focus ((repeat (first | exact Spl.here | apply Spl.there)); done))) | exact Pick.refl))
    · dsimp only; rw [hst]; exact ok17
  · have : k = N := by omega
    subst this
    repeat' first
      | apply cw_seq
      | (refine cw_region_id 3 ?_; (apply ol_mv; exact rfl; exact rfl); (apply ol_mv; exact rfl; exact rfl); (apply ol_val; exact rfl; apply stp_cmp; apply s_lss; exact rfl; exact rfl; all_goals (intro hc9; try (exfalso; (first | exact hc9 rfl | omega)))); all_goals (apply ol_nil))
      | (refine cw_region_id 5 ?_; (apply ol_mv; exact rfl; exact rfl); (apply ol_mv; exact rfl; exact rfl); (apply ol_mv; exact rfl; exact rfl))
      | (refine cw_region_id 4 ?_; (apply ol_mv; exact rfl; exact rfl); (apply ol_val; exact rfl; apply stp_pur; apply s_add64; exact rfl; exact rfl; omega); (apply ol_as; exact rfl; exact rfl); (apply ol_nil))
      | (refine cw_region_id 6 ?_; (apply ol_mv; exact rfl; exact rfl); (apply ol_as; exact rfl; exact rfl); (apply ol_nil))
      | (apply cw_cond_true; exact rfl; (first | exact rfl | assumption))
      | (apply cw_cond_false; exact rfl; (first | exact rfl | assumption))
      | apply cw_skip
      | apply cw_ret
      | apply cw_block
      | apply cw_exit
    refine ends [⟨r, ints (posAll k l) ++ sp, 3⟩] (RVal.tmp rfl RVal.nil) (by (repeat (first | exact Pick.nil | (apply Pick.cons; (focus ((repeat (first | exact Spl.here | apply Spl.there)); done))) | exact Pick.refl))) ?_
    exact ⟨r, A, c1, sp, by simp [tup, posAll_length], rfl, by rw [posAll_length]; exact so⟩

theorem total_step {l : List C3} {k : Nat} (hk : k < l.length) : total (l.take (k + 1)) = total (l.take k) + l[k].a := by rw [List.take_succ_eq_append_getElem hk, total_snoc]

theorem sum_spec {M : View} {w : World} (hM : View.le M (View.of w)) {l : List C3} {m : Nat} (hm : l.length = m) {x e : Int} (hr : (if claimsB 8 l = true then (total l, (0 : Int)) else (0, 1)) = (x, e)) {a : Option Addr} {b o c : Nat} (s : SlA M C3.enc 3 a l b o) (hl : l.length ≤ 4611686018427387904) :
    FnC Try.prog 24 [.slice a m c] w (fun v _ => v = .tuple #[.int .i64 x, .int .i64 e]) := by
  subst hm
  refine enterF (M := M) Try.func24 rfl rfl rfl rfl hM ?_
  cases hc : claimsB 8 l with
  | false =>
    rw [hc] at hr
    obtain ⟨rfl, rfl⟩ := Prod.mk.inj hr
    repeat' first
      | apply cw_seq
      | (refine cw_region_id 0 ?_; (apply ol_as; exact rfl; exact rfl); (apply ol_as; exact rfl; exact rfl); (apply ol_nil))
      | (refine cw_region_id 1 ?_; (apply ol_mv; exact rfl; exact rfl); (apply ol_val; exact rfl; apply s_callv; exact rfl; exact gf_42; (intro w' hw'; exact claims_spec (View.le.refl (View.of w')) rfl hc (s.mono hw'.le) hl)); (apply ol_val; exact rfl; apply stp_pur; first | (apply s_not_t; exact rfl; (first | exact rfl | assumption)) | (apply s_not_f; exact rfl; (first | exact rfl | assumption)) | (apply s_not; exact rfl)); (apply ol_nil))
      | (refine cw_region_id 2 ?_; (apply ol_as; exact rfl; exact rfl); (apply ol_as; exact rfl; exact rfl); (apply ol_nil))
      | (refine cw_region_id 3 ?_; (apply ol_as; exact rfl; exact rfl); (apply ol_nil))
      | (refine cw_region_id 4 ?_; (apply ol_mv; exact rfl; exact rfl); (apply ol_val; exact rfl; apply stp_pur; apply s_len; exact rfl; exact el_45); (apply ol_mv; exact rfl; exact rfl); (apply ol_nil))
      | (apply cw_cond_true; exact rfl; (first | exact rfl | assumption))
      | (apply cw_cond_false; exact rfl; (first | exact rfl | assumption))
      | apply cw_skip
      | apply cw_ret
      | apply cw_block
      | apply cw_exit
    refine ends [] (RVal.tmp rfl (RVal.tmp rfl RVal.nil)) (by (repeat (first | exact Pick.nil | (apply Pick.cons; (focus ((repeat (first | exact Spl.here | apply Spl.there)); done))) | exact Pick.refl))) ?_
    rfl
  | true =>
    rw [hc, if_pos rfl] at hr
    obtain ⟨rfl, rfl⟩ := Prod.mk.inj hr
    obtain ⟨g1, g2, g3, g4⟩ := claimsB_spec hc
    repeat' first
      | apply cw_seq
      | (refine cw_region_id 0 ?_; (apply ol_as; exact rfl; exact rfl); (apply ol_as; exact rfl; exact rfl); (apply ol_nil))
      | (refine cw_region_id 1 ?_; (apply ol_mv; exact rfl; exact rfl); (apply ol_val; exact rfl; apply s_callv; exact rfl; exact gf_42; (intro w' hw'; exact claims_spec (View.le.refl (View.of w')) rfl hc (s.mono hw'.le) hl)); (apply ol_val; exact rfl; apply stp_pur; first | (apply s_not_t; exact rfl; (first | exact rfl | assumption)) | (apply s_not_f; exact rfl; (first | exact rfl | assumption)) | (apply s_not; exact rfl)); (apply ol_nil))
      | (refine cw_region_id 2 ?_; (apply ol_as; exact rfl; exact rfl); (apply ol_as; exact rfl; exact rfl); (apply ol_nil))
      | (refine cw_region_id 3 ?_; (apply ol_as; exact rfl; exact rfl); (apply ol_nil))
      | (refine cw_region_id 4 ?_; (apply ol_mv; exact rfl; exact rfl); (apply ol_val; exact rfl; apply stp_pur; apply s_len; exact rfl; exact el_45); (apply ol_mv; exact rfl; exact rfl); (apply ol_nil))
      | (apply cw_cond_true; exact rfl; (first | exact rfl | assumption))
      | (apply cw_cond_false; exact rfl; (first | exact rfl | assumption))
      | apply cw_skip
      | apply cw_ret
      | apply cw_block
      | apply cw_exit
    refine cw_loopK (σ := Nat) [10, 11] (by (repeat (first | exact Keep.nil | (apply Keep.cons; exact rfl)))) (fun k => [(4, .int .i64 (total (l.take k))), (12, .int .i64 k)]) (fun _ => M) (fun _ => []) (fun k => k ≤ l.length) (fun k => l.length - k) 0 (by (repeat (first | exact trivial | refine And.intro rfl ?_))) (View.le.refl _) Pick.nil (by omega) ?_
    intro k hk
    have hsm := total_small (l := l.take k) (fun x hx => g4 x (List.mem_of_mem_take hx))
    rw [List.length_take, Nat.min_eq_left hk] at hsm
    by_cases hk' : k < l.length
    · have hx := okC_spec (g4 l[k] (List.getElem_mem _))
      have hst := total_step hk'
      repeat' first
        | apply cw_seq
        | (refine cw_region_id 5 ?_; (apply ol_val; exact rfl; apply stp_cmp; apply s_lss; exact rfl; exact rfl; all_goals (intro hc13; try (exfalso; (first | exact hc13 rfl | omega)))); all_goals (apply ol_nil))
        | (refine cw_region_id 6 ?_; (apply ol_val; exact rfl; apply stp_pur; first | (apply s_indexK; exact rfl; exact rfl; exact el_45; exact sz_57; (first | exact rfl | exact s.at_ (by omega)); omega) | (apply s_indexO; exact rfl; exact rfl; exact el_45; exact sz_57; (first | exact rfl | exact s.at_ (by omega)); omega)); (apply ol_ldN; exact rfl; exact rfl; exact rfl; exact sz_57; (first | (apply RdN.own; (focus ((repeat constructor); done)); (focus ((repeat (first | exact rfl | constructor)); done))) | (apply RdN.view; exact s.cells k hk'))); (apply ol_val; exact rfl; apply s_alloc; exact zb_57; (focus ((repeat constructor); done)); intro bk6); (apply ol_eff; apply s_storeN; exact rfl; exact rfl; exact sz_57; exact rfl; exact rfl; (focus ((repeat constructor); done)); (focus ((repeat constructor); done))); (apply ol_nil))
        | (refine cw_region_id 7 ?_; (apply ol_mv; exact rfl; exact rfl); (apply ol_fa; exact rfl; exact rfl; exact fd_57_2; (first | exact Nat.zero_add _ | exact Nat.add_zero _ | exact rfl)); (apply ol_ld; exact rfl; exact rfl; exact rfl; (first | (apply RdN.own; (focus ((repeat constructor); done)); (first | exact GetN.cons rfl GetN.nil | (apply getN_ints_app; (first | omega | (simp; omega) | (simp; done))) | (apply getN_ints; (first | omega | (simp; omega) | (simp; done))))) | (apply RdN.view; exact s.cells k hk'))); (apply ol_val; exact rfl; apply stp_pur; apply s_add64; exact rfl; exact rfl; omega); (apply ol_as; exact rfl; exact rfl); (apply ol_nil))
        | (refine cw_region_id 8 ?_; (apply ol_val; exact rfl; apply stp_pur; apply s_add64; exact rfl; exact rfl; omega); (apply ol_mv; exact rfl; exact rfl); (apply ol_nil))
        | (refine cw_region_id 9 ?_; (apply ol_mv; exact rfl; exact rfl); (apply ol_as; exact rfl; exact rfl); (apply ol_as; exact rfl; exact rfl); (apply ol_nil))
        | (apply cw_cond_true; exact rfl; (first | exact rfl | assumption))
        | (apply cw_cond_false; exact rfl; (first | exact rfl | assumption))
        | apply cw_skip
        | apply cw_ret
        | apply cw_block
        | apply cw_exit
      refine ⟨k + 1, ⟨?_, View.le.refl _, Pick.nil, hk', by omega⟩⟩
      rw [hst]
      (repeat (first | exact trivial | refine And.intro rfl ?_))
    · have : k = l.length := by omega
      subst this
      rw [List.take_length]
      repeat' first
        | apply cw_seq
        | (refine cw_region_id 5 ?_; (apply ol_val; exact rfl; apply stp_cmp; apply s_lss; exact rfl; exact rfl; all_goals (intro hc13; try (exfalso; (first | exact hc13 rfl | omega)))); all_goals (apply ol_nil))
        | (refine cw_region_id 6 ?_; (apply ol_val; exact rfl; apply stp_pur; first | (apply s_indexK; exact rfl; exact rfl; exact el_45; exact sz_57; (first | exact rfl); omega) | (apply s_indexO; exact rfl; exact rfl; exact el_45; exact sz_57; (first | exact rfl); omega)); (apply ol_ldN; exact rfl; exact rfl; exact rfl; exact sz_57; (apply RdN.own; (focus ((repeat constructor); done)); (focus ((repeat (first | exact rfl | constructor)); done)))); (apply ol_val; exact rfl; apply s_alloc; exact zb_57; (focus ((repeat constructor); done)); intro bk6); (apply ol_eff; apply s_storeN; exact rfl; exact rfl; exact sz_57; exact rfl; exact rfl; (focus ((repeat constructor); done)); (focus ((repeat constructor); done))); (apply ol_nil))
        | (refine cw_region_id 7 ?_; (apply ol_mv; exact rfl; exact rfl); (apply ol_fa; exact rfl; exact rfl; exact fd_57_2; (first | exact Nat.zero_add _ | exact Nat.add_zero _ | exact rfl)); (apply ol_ld; exact rfl; exact rfl; exact rfl; (apply RdN.own; (focus ((repeat constructor); done)); (first | exact GetN.cons rfl GetN.nil | (apply getN_ints_app; (first | omega | (simp; omega) | (simp; done))) | (apply getN_ints; (first | omega | (simp; omega) | (simp; done)))))); (apply ol_val; exact rfl; apply stp_pur; apply s_add64; exact rfl; exact rfl; omega); (apply ol_as; exact rfl; exact rfl); (apply ol_nil))
        | (refine cw_region_id 8 ?_; (apply ol_val; exact rfl; apply stp_pur; apply s_add64; exact rfl; exact rfl; omega); (apply ol_mv; exact rfl; exact rfl); (apply ol_nil))
        | (refine cw_region_id 9 ?_; (apply ol_mv; exact rfl; exact rfl); (apply ol_as; exact rfl; exact rfl); (apply ol_as; exact rfl; exact rfl); (apply ol_nil))
        | (apply cw_cond_true; exact rfl; (first | exact rfl | assumption))
        | (apply cw_cond_false; exact rfl; (first | exact rfl | assumption))
        | apply cw_skip
        | apply cw_ret
        | apply cw_block
        | apply cw_exit
      refine ends [] (RVal.tmp rfl (RVal.tmp rfl RVal.nil)) Pick.nil ?_
      rfl

theorem refTotal_spec {M : View} {w : World} (hM : View.le M (View.of w)) {l : List C3} {n q : Int} (hq : q ≤ 1125899906842624) (g3 : l.length ≤ 1000) (g4 : ∀ x ∈ l, okC n q x = true) {m : Nat} (hm : l.length = m) {a : Option Addr} {b o c : Nat} (s : SlA M C3.enc 3 a l b o) :
    FnC Try.prog 27 [.slice a m c] w (fun v _ => v = .int .i64 (total l)) := by
  subst hm
  refine enterF (M := M) Try.func27 rfl rfl rfl rfl hM ?_
  repeat' first
    | apply cw_seq
    | (refine cw_region_id 0 ?_; (apply ol_as; exact rfl; exact rfl); (apply ol_nil))
    | (refine cw_region_id 1 ?_; (apply ol_as; exact rfl; exact rfl); (apply ol_nil))
    | (refine cw_region_id 2 ?_; (apply ol_as; exact rfl; exact rfl); (apply ol_nil))
    | (apply cw_cond_true; exact rfl; (first | exact rfl | assumption))
    | (apply cw_cond_false; exact rfl; (first | exact rfl | assumption))
    | apply cw_skip
    | apply cw_ret
    | apply cw_block
    | apply cw_exit
  refine cw_loopK (σ := Nat) [0] (by (repeat (first | exact Keep.nil | (apply Keep.cons; exact rfl)))) (fun k => [(3, .int .i64 (total (l.take k))), (4, .int .i64 k)]) (fun _ => M) (fun _ => []) (fun k => k ≤ l.length) (fun k => l.length - k) 0 (by (repeat (first | exact trivial | refine And.intro rfl ?_))) (View.le.refl _) Pick.nil (by omega) ?_
  intro k hk
  have hsm := total_small (l := l.take k) (fun x hx => g4 x (List.mem_of_mem_take hx))
  rw [List.length_take, Nat.min_eq_left hk] at hsm
  have hmul : q * (k : Int) ≤ 1125899906842624 * (k : Int) := Int.mul_le_mul_of_nonneg_right hq (by omega)
  by_cases hk' : k < l.length
  · have hx := okC_spec (g4 l[k] (List.getElem_mem _))
    have hst := total_step hk'
    repeat' first
      | apply cw_seq
      | (refine cw_region_id 3 ?_; (apply ol_mv; exact rfl; exact rfl); (apply ol_mv; exact rfl; exact rfl); (apply ol_val; exact rfl; apply stp_pur; apply s_len; exact rfl; exact el_45); (apply ol_val; exact rfl; apply stp_cmp; apply s_lss; exact rfl; exact rfl; all_goals (intro hc8; try (exfalso; (first | exact hc8 rfl | omega)))); all_goals (apply ol_nil))
      | (refine cw_region_id 5 ?_; (apply ol_mv; exact rfl; exact rfl); (apply ol_mv; exact rfl; exact rfl); (apply ol_mv; exact rfl; exact rfl); (apply ol_val; exact rfl; apply stp_pur; first | (apply s_indexK; exact rfl; exact rfl; exact el_45; exact sz_57; (first | exact rfl | exact s.at_ (by omega)); omega) | (apply s_indexO; exact rfl; exact rfl; exact el_45; exact sz_57; (first | exact rfl | exact s.at_ (by omega)); omega)); (apply ol_fa; exact rfl; exact rfl; exact fd_57_2; (first | exact Nat.zero_add _ | exact Nat.add_zero _ | exact rfl)); (apply ol_ld; exact rfl; exact rfl; exact rfl; (first | (apply RdN.own; (focus ((repeat constructor); done)); (first | exact GetN.cons rfl GetN.nil | (apply getN_ints_app; (first | omega | (simp; omega) | (simp; done))) | (apply getN_ints; (first | omega | (simp; omega) | (simp; done))))) | (apply RdN.view; exact GetN.fld (s.cells k hk') 2 rfl))); (apply ol_val; exact rfl; apply stp_pur; apply s_add64; exact rfl; exact rfl; omega); (apply ol_as; exact rfl; exact rfl); (apply ol_nil))
      | (refine cw_region_id 4 ?_; (apply ol_mv; exact rfl; exact rfl); (apply ol_val; exact rfl; apply stp_pur; apply s_add64; exact rfl; exact rfl; omega); (apply ol_as; exact rfl; exact rfl); (apply ol_nil))
      | (refine cw_region_id 6 ?_; (apply ol_mv; exact rfl; exact rfl); (apply ol_as; exact rfl; exact rfl); (apply ol_nil))
      | (apply cw_cond_true; exact rfl; (first | exact rfl | assumption))
      | (apply cw_cond_false; exact rfl; (first | exact rfl | assumption))
      | apply cw_skip
      | apply cw_ret
      | apply cw_block
      | apply cw_exit
    refine ⟨k + 1, ⟨?_, View.le.refl _, Pick.nil, hk', by omega⟩⟩
    rw [hst]
    (repeat (first | exact trivial | refine And.intro rfl ?_))
  · have : k = l.length := by omega
    subst this
    rw [List.take_length]
    repeat' first
      | apply cw_seq
      | (refine cw_region_id 3 ?_; (apply ol_mv; exact rfl; exact rfl); (apply ol_mv; exact rfl; exact rfl); (apply ol_val; exact rfl; apply stp_pur; apply s_len; exact rfl; exact el_45); (apply ol_val; exact rfl; apply stp_cmp; apply s_lss; exact rfl; exact rfl; all_goals (intro hc8; try (exfalso; (first | exact hc8 rfl | omega)))); all_goals (apply ol_nil))
      | (refine cw_region_id 5 ?_; (apply ol_mv; exact rfl; exact rfl); (apply ol_mv; exact rfl; exact rfl); (apply ol_mv; exact rfl; exact rfl); (apply ol_val; exact rfl; apply stp_pur; first | (apply s_indexK; exact rfl; exact rfl; exact el_45; exact sz_57; (first | exact rfl); omega) | (apply s_indexO; exact rfl; exact rfl; exact el_45; exact sz_57; (first | exact rfl); omega)); (apply ol_fa; exact rfl; exact rfl; exact fd_57_2; (first | exact Nat.zero_add _ | exact Nat.add_zero _ | exact rfl)); (apply ol_ld; exact rfl; exact rfl; exact rfl; (apply RdN.own; (focus ((repeat constructor); done)); (first | exact GetN.cons rfl GetN.nil | (apply getN_ints_app; (first | omega | (simp; omega) | (simp; done))) | (apply getN_ints; (first | omega | (simp; omega) | (simp; done)))))); (apply ol_val; exact rfl; apply stp_pur; apply s_add64; exact rfl; exact rfl; omega); (apply ol_as; exact rfl; exact rfl); (apply ol_nil))
      | (refine cw_region_id 4 ?_; (apply ol_mv; exact rfl; exact rfl); (apply ol_val; exact rfl; apply stp_pur; apply s_add64; exact rfl; exact rfl; omega); (apply ol_as; exact rfl; exact rfl); (apply ol_nil))
      | (refine cw_region_id 6 ?_; (apply ol_mv; exact rfl; exact rfl); (apply ol_as; exact rfl; exact rfl); (apply ol_nil))
      | (apply cw_cond_true; exact rfl; (first | exact rfl | assumption))
      | (apply cw_cond_false; exact rfl; (first | exact rfl | assumption))
      | apply cw_skip
      | apply cw_ret
      | apply cw_block
      | apply cw_exit
    refine ends [] (RVal.tmp rfl RVal.nil) Pick.nil ?_
    rfl
theorem refMoved_spec {M : View} {w : World} (hM : View.le M (View.of w)) {l : List C3} {n q : Int} (hq : q ≤ 1125899906842624) (g3 : l.length ≤ 1000) (g4 : ∀ x ∈ l, okC n q x = true) {m : Nat} (hm : l.length = m) {a : Option Addr} {b o c : Nat} (s : SlA M C3.enc 3 a l b o) :
    FnC Try.prog 21 [.slice a m c] w (fun v _ => v = .int .i64 (total l)) := by
  subst hm
  refine enterF (M := M) Try.func21 rfl rfl rfl rfl hM ?_
  repeat' first
    | apply cw_seq
    | (refine cw_region_id 0 ?_; (apply ol_as; exact rfl; exact rfl); (apply ol_nil))
    | (refine cw_region_id 1 ?_; (apply ol_as; exact rfl; exact rfl); (apply ol_nil))
    | (refine cw_region_id 2 ?_; (apply ol_as; exact rfl; exact rfl); (apply ol_nil))
    | (apply cw_cond_true; exact rfl; (first | exact rfl | assumption))
    | (apply cw_cond_false; exact rfl; (first | exact rfl | assumption))
    | apply cw_skip
    | apply cw_ret
    | apply cw_block
    | apply cw_exit
  refine cw_loopK (σ := Nat) [0] (by (repeat (first | exact Keep.nil | (apply Keep.cons; exact rfl)))) (fun k => [(3, .int .i64 (total (l.take k))), (4, .int .i64 k)]) (fun _ => M) (fun _ => []) (fun k => k ≤ l.length) (fun k => l.length - k) 0 (by (repeat (first | exact trivial | refine And.intro rfl ?_))) (View.le.refl _) Pick.nil (by omega) ?_
  intro k hk
  have hsm := total_small (l := l.take k) (fun x hx => g4 x (List.mem_of_mem_take hx))
  rw [List.length_take, Nat.min_eq_left hk] at hsm
  have hmul : q * (k : Int) ≤ 1125899906842624 * (k : Int) := Int.mul_le_mul_of_nonneg_right hq (by omega)
  by_cases hk' : k < l.length
  · have hx := okC_spec (g4 l[k] (List.getElem_mem _))
    have hst := total_step hk'
    repeat' first
      | apply cw_seq
      | (refine cw_region_id 3 ?_; (apply ol_mv; exact rfl; exact rfl); (apply ol_mv; exact rfl; exact rfl); (apply ol_val; exact rfl; apply stp_pur; apply s_len; exact rfl; exact el_23); (apply ol_val; exact rfl; apply stp_cmp; apply s_lss; exact rfl; exact rfl; all_goals (intro hc8; try (exfalso; (first | exact hc8 rfl | omega)))); all_goals (apply ol_nil))
      | (refine cw_region_id 5 ?_; (apply ol_mv; exact rfl; exact rfl); (apply ol_mv; exact rfl; exact rfl); (apply ol_mv; exact rfl; exact rfl); (apply ol_val; exact rfl; apply stp_pur; first | (apply s_indexK; exact rfl; exact rfl; exact el_23; exact sz_33; (first | exact rfl | exact s.at_ (by omega)); omega) | (apply s_indexO; exact rfl; exact rfl; exact el_23; exact sz_33; (first | exact rfl | exact s.at_ (by omega)); omega)); (apply ol_fa; exact rfl; exact rfl; exact fd_33_2; (first | exact Nat.zero_add _ | exact Nat.add_zero _ | exact rfl)); (apply ol_ld; exact rfl; exact rfl; exact rfl; (first | (apply RdN.own; (focus ((repeat constructor); done)); (first | exact GetN.cons rfl GetN.nil | (apply getN_ints_app; (first | omega | (simp; omega) | (simp; done))) | (apply getN_ints; (first | omega | (simp; omega) | (simp; done))))) | (apply RdN.view; exact GetN.fld (s.cells k hk') 2 rfl))); (apply ol_val; exact rfl; apply stp_pur; apply s_add64; exact rfl; exact rfl; omega); (apply ol_as; exact rfl; exact rfl); (apply ol_nil))
      | (refine cw_region_id 4 ?_; (apply ol_mv; exact rfl; exact rfl); (apply ol_val; exact rfl; apply stp_pur; apply s_add64; exact rfl; exact rfl; omega); (apply ol_as; exact rfl; exact rfl); (apply ol_nil))
      | (refine cw_region_id 6 ?_; (apply ol_mv; exact rfl; exact rfl); (apply ol_as; exact rfl; exact rfl); (apply ol_nil))
      | (apply cw_cond_true; exact rfl; (first | exact rfl | assumption))
      | (apply cw_cond_false; exact rfl; (first | exact rfl | assumption))
      | apply cw_skip
      | apply cw_ret
      | apply cw_block
      | apply cw_exit
    refine ⟨k + 1, ⟨?_, View.le.refl _, Pick.nil, hk', by omega⟩⟩
    rw [hst]
    (repeat (first | exact trivial | refine And.intro rfl ?_))
  · have : k = l.length := by omega
    subst this
    rw [List.take_length]
    repeat' first
      | apply cw_seq
      | (refine cw_region_id 3 ?_; (apply ol_mv; exact rfl; exact rfl); (apply ol_mv; exact rfl; exact rfl); (apply ol_val; exact rfl; apply stp_pur; apply s_len; exact rfl; exact el_23); (apply ol_val; exact rfl; apply stp_cmp; apply s_lss; exact rfl; exact rfl; all_goals (intro hc8; try (exfalso; (first | exact hc8 rfl | omega)))); all_goals (apply ol_nil))
      | (refine cw_region_id 5 ?_; (apply ol_mv; exact rfl; exact rfl); (apply ol_mv; exact rfl; exact rfl); (apply ol_mv; exact rfl; exact rfl); (apply ol_val; exact rfl; apply stp_pur; first | (apply s_indexK; exact rfl; exact rfl; exact el_23; exact sz_33; (first | exact rfl); omega) | (apply s_indexO; exact rfl; exact rfl; exact el_23; exact sz_33; (first | exact rfl); omega)); (apply ol_fa; exact rfl; exact rfl; exact fd_33_2; (first | exact Nat.zero_add _ | exact Nat.add_zero _ | exact rfl)); (apply ol_ld; exact rfl; exact rfl; exact rfl; (apply RdN.own; (focus ((repeat constructor); done)); (first | exact GetN.cons rfl GetN.nil | (apply getN_ints_app; (first | omega | (simp; omega) | (simp; done))) | (apply getN_ints; (first | omega | (simp; omega) | (simp; done)))))); (apply ol_val; exact rfl; apply stp_pur; apply s_add64; exact rfl; exact rfl; omega); (apply ol_as; exact rfl; exact rfl); (apply ol_nil))
      | (refine cw_region_id 4 ?_; (apply ol_mv; exact rfl; exact rfl); (apply ol_val; exact rfl; apply stp_pur; apply s_add64; exact rfl; exact rfl; omega); (apply ol_as; exact rfl; exact rfl); (apply ol_nil))
      | (refine cw_region_id 6 ?_; (apply ol_mv; exact rfl; exact rfl); (apply ol_as; exact rfl; exact rfl); (apply ol_nil))
      | (apply cw_cond_true; exact rfl; (first | exact rfl | assumption))
      | (apply cw_cond_false; exact rfl; (first | exact rfl | assumption))
      | apply cw_skip
      | apply cw_ret
      | apply cw_block
      | apply cw_exit
    refine ends [] (RVal.tmp rfl RVal.nil) Pick.nil ?_
    rfl
end Go.Proofs.Ytidjoikheklpiaa
