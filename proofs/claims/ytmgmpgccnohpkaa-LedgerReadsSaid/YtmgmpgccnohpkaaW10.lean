/-
  The walks of the reference's Valid, of few, given and Balance.
-/
import Derived.Test.YtmgmpgccnohpkaaW8
namespace Go.Proofs.Ytmgmpgccnohpkaa
set_option maxRecDepth 20000
set_option linter.unusedSimpArgs false
set_option linter.unusedVariables false
open Go Go.Fw
attribute [local irreducible] CW OL OD FX Stp FnC Ret
set_option maxHeartbeats 4000000

theorem few_spec {a1 a2 : Option Addr} (n1 c1 n2 c2 : Nat) (w : World) : FnC Try.prog 22 [.agg [.slice a1 n1 c1, .slice a2 n2 c2].toArray] w (fun v _ => v = .bool (decide (n1 ≤ 200 ∧ n2 ≤ 100))) := by
  refine enterF (M := View.of w) Try.func22 rfl rfl rfl rfl (View.le.refl _) ?_
  repeat' first
    | apply cw_seq
    | (refine cw_region_id 0 ?_; (first | (apply ol_val; exact rfl; apply s_boxN; exact rfl; intro _) | (apply ol_val; exact rfl; apply s_box1; exact rfl; exact rfl; intro _)); (apply ol_as; exact rfl; exact rfl); (apply ol_nil))
    | (refine cw_region_id 1 ?_; (apply ol_fa; exact rfl; exact rfl; exact fd_26_0; (first | exact Nat.zero_add _ | exact Nat.add_zero _ | exact rfl)); (apply ol_ld; exact rfl; exact rfl; exact rfl; (apply RdN.own; (focus ((repeat constructor); done)); exact GetN.cons rfl GetN.nil)); (apply ol_val; exact rfl; apply stp_pur; apply s_len; exact rfl; exact el_24); (apply ol_val; exact rfl; apply stp_cmp; apply s_leq; exact rfl; exact rfl; all_goals (intro _; try (exfalso; (first | (rename_i hh; exact hh rfl) | omega); done))); all_goals (apply ol_mv; exact rfl; exact rfl); all_goals (first | (apply ol_gskip; exact rfl; exact rfl; (first | exact rfl | assumption); exact rfl) | (apply ol_gskipu; exact rfl; exact rfl; exact rfl) | (apply ol_gval; exact rfl; exact rfl; exact rfl; (first | exact rfl | assumption); apply stp_pur; apply s_fieldAddr'; exact rfl; exact fd_26_1; (first | exact Nat.zero_add _ | exact Nat.add_zero _ | exact rfl))); all_goals (first | (apply ol_gskip; exact rfl; exact rfl; (first | exact rfl | assumption); exact rfl) | (apply ol_gskipu; exact rfl; exact rfl; exact rfl) | (apply ol_gval; exact rfl; exact rfl; exact rfl; (first | exact rfl | assumption); apply stp_pur; apply s_load1; exact rfl; exact rfl; (apply RdN.own; (focus ((repeat constructor); done)); exact GetN.cons rfl GetN.nil))); all_goals (first | (apply ol_gskip; exact rfl; exact rfl; (first | exact rfl | assumption); exact rfl) | (apply ol_gskipu; exact rfl; exact rfl; exact rfl) | (apply ol_gval; exact rfl; exact rfl; exact rfl; (first | exact rfl | assumption); apply stp_pur; apply s_len; exact rfl; exact el_22)); all_goals (first | (apply ol_gskip; exact rfl; exact rfl; (first | exact rfl | assumption); exact rfl) | (apply ol_gskipu; exact rfl; exact rfl; exact rfl) | (apply ol_gval; exact rfl; exact rfl; exact rfl; (first | exact rfl | assumption); apply stp_cmp; apply s_leq; exact rfl; exact rfl; all_goals (intro _; try (exfalso; (first | (rename_i hh; exact hh rfl) | omega); done)))); all_goals (first | (apply ol_val; exact rfl; apply stp_pur; apply s_pick_t; exact rfl; (first | exact rfl | assumption); exact rfl) | (apply ol_val; exact rfl; apply stp_pur; apply s_pick_f; exact rfl; (first | exact rfl | assumption); exact rfl)); all_goals (apply ol_as; exact rfl; exact rfl); all_goals (apply ol_nil))
    | (apply cw_cond_true; exact rfl; (first | exact rfl | assumption))
    | (apply cw_cond_false; exact rfl; (first | exact rfl | assumption))
    | apply cw_skip
    | apply cw_ret
    | apply cw_block
    | apply cw_exit
  all_goals (refine ends [] (RVal.tmp rfl RVal.nil) Pick.nil ?_; simp only [tup]; congr 1; symm; first | (apply decide_eq_true; omega) | (apply decide_eq_false; omega))

def givenM (bal : List Int) (ents : List Ent) (i : Int) : Int := if validB bal ents = false then 1 else if i < 0 ∨ (bal.length : Int) ≤ i then 2 else 0

theorem given_spec (M : View) (w : World) (hM : View.le M (View.of w)) (bal : List Int) (ents : List Ent) (i : Int) {a1 a2 : Option Addr} {b1 o1 c1 b2 o2 c2 : Nat} (s1 : SlA M enc1 1 a1 bal b1 o1) (s2 : SlA M Ent.enc 4 a2 ents b2 o2)
    (hl1 : bal.length ≤ 4611686018427387904) (hl2 : ents.length ≤ 4611686018427387904) :
    FnC Try.prog 34 [.agg [.slice a1 bal.length c1, .slice a2 ents.length c2].toArray, .int .i64 i] w (fun v _ => v = .int .i64 (givenM bal ents i)) := by
  refine enterF (M := M) Try.func34 rfl rfl rfl rfl hM ?_
  cases hv : validB bal ents with
  | false =>
    repeat' first
      | apply cw_seq
      | (refine cw_region_id 0 ?_; (first | (apply ol_val; exact rfl; apply s_boxN; exact rfl; intro _) | (apply ol_val; exact rfl; apply s_box1; exact rfl; exact rfl; intro _)); (apply ol_as; exact rfl; exact rfl); (apply ol_nil))
      | (refine cw_region_id 1 ?_; (apply ol_ldN; exact rfl; exact rfl; exact rfl; exact sz_26; (apply RdN.own; (focus ((repeat constructor); done)); (focus ((repeat (first | exact rfl | constructor)); done)))); (apply ol_val; exact rfl; apply s_callv; exact rfl; exact gf_14; (intro w' hw'; exact valid_spec (View.of w') w' (View.le.refl _) bal ents (s1.mono hw'.le) (s2.mono hw'.le) hl1 hl2)); (first | (apply ol_val; exact rfl; apply stp_pur; apply s_not_t; exact rfl; (first | exact rfl | assumption)) | (apply ol_val; exact rfl; apply stp_pur; apply s_not_f; exact rfl; (first | exact rfl | assumption)) | (apply ol_val; exact rfl; apply stp_pur; apply s_not; exact rfl)); (apply ol_as; exact rfl; exact rfl); (apply ol_nil))
      | (refine cw_region_id 2 ?_; (apply ol_as; exact rfl; exact rfl); (apply ol_nil))
      | (refine cw_region_id 3 ?_; (apply ol_mv; exact rfl; exact rfl); (apply ol_val; exact rfl; apply stp_cmp; apply s_lss; exact rfl; exact rfl; all_goals (intro _; try (exfalso; (first | (rename_i hh; exact hh rfl) | omega); done))); all_goals (apply ol_mv; exact rfl; exact rfl); all_goals (first | (apply ol_gskip; exact rfl; exact rfl; (first | exact rfl | assumption); exact rfl) | (apply ol_gskipu; exact rfl; exact rfl; exact rfl) | (apply ol_gval; exact rfl; exact rfl; exact rfl; (first | exact rfl | assumption); apply stp_pur; apply s_move; exact rfl)); all_goals (first | (apply ol_gskip; exact rfl; exact rfl; (first | exact rfl | assumption); exact rfl) | (apply ol_gskipu; exact rfl; exact rfl; exact rfl) | (apply ol_gval; exact rfl; exact rfl; exact rfl; (first | exact rfl | assumption); apply stp_pur; apply s_fieldAddr'; exact rfl; exact fd_26_0; (first | exact Nat.zero_add _ | exact Nat.add_zero _ | exact rfl))); all_goals (first | (apply ol_gskip; exact rfl; exact rfl; (first | exact rfl | assumption); exact rfl) | (apply ol_gskipu; exact rfl; exact rfl; exact rfl) | (apply ol_gval; exact rfl; exact rfl; exact rfl; (first | exact rfl | assumption); apply stp_pur; apply s_load1; exact rfl; exact rfl; (apply RdN.own; (focus ((repeat constructor); done)); exact GetN.cons rfl GetN.nil))); all_goals (first | (apply ol_gskip; exact rfl; exact rfl; (first | exact rfl | assumption); exact rfl) | (apply ol_gskipu; exact rfl; exact rfl; exact rfl) | (apply ol_gval; exact rfl; exact rfl; exact rfl; (first | exact rfl | assumption); apply stp_pur; apply s_len; exact rfl; exact el_24)); all_goals (first | (apply ol_gskip; exact rfl; exact rfl; (first | exact rfl | assumption); exact rfl) | (apply ol_gskipu; exact rfl; exact rfl; exact rfl) | (apply ol_gval; exact rfl; exact rfl; exact rfl; (first | exact rfl | assumption); apply stp_cmp; apply s_geq; exact rfl; exact rfl; all_goals (intro _; try (exfalso; (first | (rename_i hh; exact hh rfl) | omega); done)))); all_goals (first | (apply ol_val; exact rfl; apply stp_pur; apply s_pick_t; exact rfl; (first | exact rfl | assumption); exact rfl) | (apply ol_val; exact rfl; apply stp_pur; apply s_pick_f; exact rfl; (first | exact rfl | assumption); exact rfl)); all_goals (apply ol_as; exact rfl; exact rfl); all_goals (apply ol_nil))
      | (refine cw_region_id 4 ?_; (apply ol_as; exact rfl; exact rfl); (apply ol_nil))
      | (refine cw_region_id 5 ?_; (apply ol_as; exact rfl; exact rfl); (apply ol_nil))
      | (apply cw_cond_true; exact rfl; (first | exact rfl | assumption))
      | (apply cw_cond_false; exact rfl; (first | exact rfl | assumption))
      | apply cw_skip
      | apply cw_ret
      | apply cw_block
      | apply cw_exit
    refine ends [] (RVal.tmp rfl RVal.nil) Pick.nil ?_
    simp [tup, givenM, hv]
  | true =>
    repeat' first
      | apply cw_seq
      | (refine cw_region_id 0 ?_; (first | (apply ol_val; exact rfl; apply s_boxN; exact rfl; intro _) | (apply ol_val; exact rfl; apply s_box1; exact rfl; exact rfl; intro _)); (apply ol_as; exact rfl; exact rfl); (apply ol_nil))
      | (refine cw_region_id 1 ?_; (apply ol_ldN; exact rfl; exact rfl; exact rfl; exact sz_26; (apply RdN.own; (focus ((repeat constructor); done)); (focus ((repeat (first | exact rfl | constructor)); done)))); (apply ol_val; exact rfl; apply s_callv; exact rfl; exact gf_14; (intro w' hw'; exact valid_spec (View.of w') w' (View.le.refl _) bal ents (s1.mono hw'.le) (s2.mono hw'.le) hl1 hl2)); (first | (apply ol_val; exact rfl; apply stp_pur; apply s_not_t; exact rfl; (first | exact rfl | assumption)) | (apply ol_val; exact rfl; apply stp_pur; apply s_not_f; exact rfl; (first | exact rfl | assumption)) | (apply ol_val; exact rfl; apply stp_pur; apply s_not; exact rfl)); (apply ol_as; exact rfl; exact rfl); (apply ol_nil))
      | (refine cw_region_id 2 ?_; (apply ol_as; exact rfl; exact rfl); (apply ol_nil))
      | (refine cw_region_id 3 ?_; (apply ol_mv; exact rfl; exact rfl); (apply ol_val; exact rfl; apply stp_cmp; apply s_lss; exact rfl; exact rfl; all_goals (intro _; try (exfalso; (first | (rename_i hh; exact hh rfl) | omega); done))); all_goals (apply ol_mv; exact rfl; exact rfl); all_goals (first | (apply ol_gskip; exact rfl; exact rfl; (first | exact rfl | assumption); exact rfl) | (apply ol_gskipu; exact rfl; exact rfl; exact rfl) | (apply ol_gval; exact rfl; exact rfl; exact rfl; (first | exact rfl | assumption); apply stp_pur; apply s_move; exact rfl)); all_goals (first | (apply ol_gskip; exact rfl; exact rfl; (first | exact rfl | assumption); exact rfl) | (apply ol_gskipu; exact rfl; exact rfl; exact rfl) | (apply ol_gval; exact rfl; exact rfl; exact rfl; (first | exact rfl | assumption); apply stp_pur; apply s_fieldAddr'; exact rfl; exact fd_26_0; (first | exact Nat.zero_add _ | exact Nat.add_zero _ | exact rfl))); all_goals (first | (apply ol_gskip; exact rfl; exact rfl; (first | exact rfl | assumption); exact rfl) | (apply ol_gskipu; exact rfl; exact rfl; exact rfl) | (apply ol_gval; exact rfl; exact rfl; exact rfl; (first | exact rfl | assumption); apply stp_pur; apply s_load1; exact rfl; exact rfl; (apply RdN.own; (focus ((repeat constructor); done)); exact GetN.cons rfl GetN.nil))); all_goals (first | (apply ol_gskip; exact rfl; exact rfl; (first | exact rfl | assumption); exact rfl) | (apply ol_gskipu; exact rfl; exact rfl; exact rfl) | (apply ol_gval; exact rfl; exact rfl; exact rfl; (first | exact rfl | assumption); apply stp_pur; apply s_len; exact rfl; exact el_24)); all_goals (first | (apply ol_gskip; exact rfl; exact rfl; (first | exact rfl | assumption); exact rfl) | (apply ol_gskipu; exact rfl; exact rfl; exact rfl) | (apply ol_gval; exact rfl; exact rfl; exact rfl; (first | exact rfl | assumption); apply stp_cmp; apply s_geq; exact rfl; exact rfl; all_goals (intro _; try (exfalso; (first | (rename_i hh; exact hh rfl) | omega); done)))); all_goals (first | (apply ol_val; exact rfl; apply stp_pur; apply s_pick_t; exact rfl; (first | exact rfl | assumption); exact rfl) | (apply ol_val; exact rfl; apply stp_pur; apply s_pick_f; exact rfl; (first | exact rfl | assumption); exact rfl)); all_goals (apply ol_as; exact rfl; exact rfl); all_goals (apply ol_nil))
      | (refine cw_region_id 4 ?_; (apply ol_as; exact rfl; exact rfl); (apply ol_nil))
      | (refine cw_region_id 5 ?_; (apply ol_as; exact rfl; exact rfl); (apply ol_nil))
      | (apply cw_cond_true; exact rfl; (first | exact rfl | assumption))
      | (apply cw_cond_false; exact rfl; (first | exact rfl | assumption))
      | apply cw_skip
      | apply cw_ret
      | apply cw_block
      | apply cw_exit
    all_goals (refine ends [] (RVal.tmp rfl RVal.nil) Pick.nil ?_; simp only [tup, givenM, hv, Bool.true_eq_false, if_false]; first | (rw [if_pos (by omega)]) | (rw [if_neg (by omega)]))

theorem balance_spec (M : View) (w : World) (hM : View.le M (View.of w)) (bal : List Int) (ents : List Ent) (i : Int) {a1 a2 : Option Addr} {b1 o1 c1 b2 o2 c2 : Nat} (s1 : SlA M enc1 1 a1 bal b1 o1) (s2 : SlA M Ent.enc 4 a2 ents b2 o2)
    (hl1 : bal.length ≤ 4611686018427387904) (hl2 : ents.length ≤ 4611686018427387904) :
    FnC Try.prog 24 [.agg [.slice a1 bal.length c1, .slice a2 ents.length c2].toArray, .int .i64 i] w (fun v _ => v = .tuple #[.int .i64 (if givenM bal ents i = 0 then bal.getD i.toNat 0 else 0), .int .i64 (givenM bal ents i)]) := by
  refine enterF (M := M) Try.func24 rfl rfl rfl rfl hM ?_
  by_cases hg : givenM bal ents i = 0
  · have hi : 0 ≤ i ∧ i < bal.length := by
      unfold givenM at hg
      split at hg
      · omega
      · split at hg <;> omega
    obtain ⟨k, rfl⟩ := Int.eq_ofNat_of_zero_le hi.1
    have hk : k < bal.length := by omega
    repeat' first
      | apply cw_seq
      | (refine cw_region_id 0 ?_; (first | (apply ol_val; exact rfl; apply s_boxN; exact rfl; intro _) | (apply ol_val; exact rfl; apply s_box1; exact rfl; exact rfl; intro _)); (apply ol_as; exact rfl; exact rfl); (apply ol_as; exact rfl; exact rfl); (apply ol_nil))
      | (refine cw_region_id 1 ?_; (apply ol_ldN; exact rfl; exact rfl; exact rfl; exact sz_26; (first | (apply RdN.own; (focus ((repeat constructor); done)); (focus ((repeat (first | exact rfl | constructor)); done))) | (apply RdN.view; exact s1.cells _ (by omega)))); (apply ol_mv; exact rfl; exact rfl); (apply ol_val; exact rfl; apply s_callv; exact rfl; exact gf_34; (intro w' hw'; exact given_spec (View.of w') w' (View.le.refl _) bal ents _ (s1.mono hw'.le) (s2.mono hw'.le) hl1 hl2)); (apply ol_as; exact rfl; exact rfl); (apply ol_nil))
      | (refine cw_region_id 2 ?_; (apply ol_mv; exact rfl; exact rfl); (apply ol_val; exact rfl; apply stp_cmp; apply s_neq; exact rfl; exact rfl; all_goals (intro _; try (exfalso; (first | (rename_i hh; exact hh rfl) | omega); done))); all_goals (apply ol_nil))
      | (refine cw_region_id 3 ?_; (apply ol_mv; exact rfl; exact rfl); (apply ol_as; exact rfl; exact rfl); (apply ol_as; exact rfl; exact rfl); (apply ol_nil))
      | (refine cw_region_id 4 ?_; (apply ol_fa; exact rfl; exact rfl; exact fd_26_0; (first | exact Nat.zero_add _ | exact Nat.add_zero _ | exact rfl)); (apply ol_ld; exact rfl; exact rfl; exact rfl; (first | (apply RdN.own; (focus ((repeat constructor); done)); exact GetN.cons rfl GetN.nil) | (apply RdN.view; exact s1.cells _ (by omega)))); (apply ol_mv; exact rfl; exact rfl); (first | (apply ol_val; exact rfl; apply stp_pur; apply s_indexK; exact rfl; exact rfl; exact el_24; exact sz_3; (first | exact rfl | exact s1.at_ (by omega)); omega) | (apply ol_val; exact rfl; apply stp_pur; apply s_indexO; exact rfl; exact rfl; exact el_24; exact sz_3; (first | exact rfl | exact s1.at_ (by omega)); omega)); (apply ol_ld; exact rfl; exact rfl; exact rfl; (first | (apply RdN.own; (focus ((repeat constructor); done)); (first | exact GetN.cons rfl GetN.nil | (apply getN_ints_app; (first | omega | (simp; omega) | (simp; done))) | (apply getN_ints; (first | omega | (simp; omega) | (simp; done))))) | (apply RdN.view; exact s1.cells _ (by omega)))); (apply ol_as; exact rfl; exact rfl); (apply ol_as; exact rfl; exact rfl); (apply ol_nil))
      | (apply cw_cond_true; exact rfl; (first | exact rfl | assumption))
      | (apply cw_cond_false; exact rfl; (first | exact rfl | assumption))
      | apply cw_skip
      | apply cw_ret
      | apply cw_block
      | apply cw_exit
    refine ends [] (RVal.tmp rfl (RVal.tmp rfl RVal.nil)) Pick.nil ?_
    simp [tup, hg, hk]
  ·
    repeat' first
      | apply cw_seq
      | (refine cw_region_id 0 ?_; (first | (apply ol_val; exact rfl; apply s_boxN; exact rfl; intro _) | (apply ol_val; exact rfl; apply s_box1; exact rfl; exact rfl; intro _)); (apply ol_as; exact rfl; exact rfl); (apply ol_as; exact rfl; exact rfl); (apply ol_nil))
      | (refine cw_region_id 1 ?_; (apply ol_ldN; exact rfl; exact rfl; exact rfl; exact sz_26; (apply RdN.own; (focus ((repeat constructor); done)); (focus ((repeat (first | exact rfl | constructor)); done)))); (apply ol_mv; exact rfl; exact rfl); (apply ol_val; exact rfl; apply s_callv; exact rfl; exact gf_34; (intro w' hw'; exact given_spec (View.of w') w' (View.le.refl _) bal ents _ (s1.mono hw'.le) (s2.mono hw'.le) hl1 hl2)); (apply ol_as; exact rfl; exact rfl); (apply ol_nil))
      | (refine cw_region_id 2 ?_; (apply ol_mv; exact rfl; exact rfl); (apply ol_val; exact rfl; apply stp_cmp; apply s_neq; exact rfl; exact rfl; all_goals (intro _; try (exfalso; (first | (rename_i hh; exact hh rfl) | omega); done))); all_goals (apply ol_nil))
      | (refine cw_region_id 3 ?_; (apply ol_mv; exact rfl; exact rfl); (apply ol_as; exact rfl; exact rfl); (apply ol_as; exact rfl; exact rfl); (apply ol_nil))
      | (refine cw_region_id 4 ?_; (apply ol_fa; exact rfl; exact rfl; exact fd_26_0; (first | exact Nat.zero_add _ | exact Nat.add_zero _ | exact rfl)); (apply ol_ld; exact rfl; exact rfl; exact rfl; (apply RdN.own; (focus ((repeat constructor); done)); exact GetN.cons rfl GetN.nil)); (apply ol_mv; exact rfl; exact rfl); (first | (apply ol_val; exact rfl; apply stp_pur; apply s_indexK; exact rfl; exact rfl; exact el_24; exact sz_3; (first | exact rfl); omega) | (apply ol_val; exact rfl; apply stp_pur; apply s_indexO; exact rfl; exact rfl; exact el_24; exact sz_3; (first | exact rfl); omega)); (apply ol_ld; exact rfl; exact rfl; exact rfl; (apply RdN.own; (focus ((repeat constructor); done)); (first | exact GetN.cons rfl GetN.nil | (apply getN_ints_app; (first | omega | (simp; omega) | (simp; done))) | (apply getN_ints; (first | omega | (simp; omega) | (simp; done)))))); (apply ol_as; exact rfl; exact rfl); (apply ol_as; exact rfl; exact rfl); (apply ol_nil))
      | (apply cw_cond_true; exact rfl; (first | exact rfl | assumption))
      | (apply cw_cond_false; exact rfl; (first | exact rfl | assumption))
      | apply cw_skip
      | apply cw_ret
      | apply cw_block
      | apply cw_exit
    refine ends [] (RVal.tmp rfl (RVal.tmp rfl RVal.nil)) Pick.nil ?_
    simp [tup, hg]
end Go.Proofs.Ytmgmpgccnohpkaa
