/-
  The walk of the ledger's Valid.
-/
import Derived.Test.YtmgmpgccnohpkaaW1
namespace Go.Proofs.Ytmgmpgccnohpkaa
set_option maxRecDepth 20000
set_option linter.unusedSimpArgs false
set_option linter.unusedVariables false
open Go Go.Fw
attribute [local irreducible] CW OL OD FX Stp

theorem eqInts' (M : View) (w : World) (hM : View.le M (View.of w)) {xs ys : List Int} {a1 a2 : Option Addr} {b1 o1 c1 b2 o2 c2 n1 n2 : Nat} (s1 : SlA M enc1 1 a1 xs b1 o1) (s2 : SlA M enc1 1 a2 ys b2 o2) (hl : xs.length ≤ 4611686018427387904) (h1 : xs.length = n1) (h2 : ys.length = n2) :
    FnC Try.prog 29 [.slice a1 n1 c1, .slice a2 n2 c2] w (fun v _ => v = .bool (decide (xs = ys))) := by
  subst h1 h2
  exact eqInts_spec M w hM xs ys s1 s2 hl

theorem post' {bal : List Int} {x : Ent} {b n cap : Nat} {sp : List Value} {w : World} (hn : bal.length = n) (hx : x.d ≠ x.c ∧ 0 ≤ x.d ∧ x.d < (n : Int) ∧ 0 ≤ x.c ∧ x.c < (n : Int) ∧ 1 ≤ x.a ∧ x.a ≤ 1099511627776 ∧ 0 ≤ x.n ∧ x.n ≤ 1073741824) (hs : Small bal)
    (hb : OB.ok ⟨some b, ints bal ++ sp, 3⟩ w) :
    Ret Try.prog 31 [.slice (some ⟨b, 0, none⟩) n cap, .agg x.enc.toArray] w (fun v m _ => ∃ cs', m = [⟨some b, cs', 3⟩] ∧ ((lowB bal x = true ∧ v = .bool false ∧ cs' = ints bal ++ sp) ∨ (lowB bal x = false ∧ v = .bool true ∧ cs' = ints (postL bal x) ++ sp))) := by
  subst hn
  exact post_spec bal x b cap sp w hx.2.1 hx.2.2.1 hx.2.2.2.1 hx.2.2.2.2.1 hx.1 hx.2.2.2.2.2.1 hx.2.2.2.2.2.2.1 hs hb

theorem entryB_spec {n : Int} {x : Ent} (h : entryB n x = true) : x.d ≠ x.c ∧ 0 ≤ x.d ∧ x.d < n ∧ 0 ≤ x.c ∧ x.c < n ∧ 1 ≤ x.a ∧ x.a ≤ 1099511627776 ∧ 0 ≤ x.n ∧ x.n ≤ 1073741824 := by simpa [entryB] using h

theorem valid_spec (M : View) (w : World) (hM : View.le M (View.of w)) (bal : List Int) (ents : List Ent) {a1 a2 : Option Addr} {b1 o1 c1 b2 o2 c2 : Nat} (s1 : SlA M enc1 1 a1 bal b1 o1) (s2 : SlA M Ent.enc 4 a2 ents b2 o2)
    (hl1 : bal.length ≤ 4611686018427387904) (hl2 : ents.length ≤ 4611686018427387904) :
    FnC Try.prog 14 [.agg [.slice a1 bal.length c1, .slice a2 ents.length c2].toArray] w (fun v _ => v = .bool (validB bal ents)) := by
  refine enterF (M := M) Try.func14 rfl rfl rfl rfl hM ?_
  by_cases h : 5 ≤ bal.length ∧ bal.length ≤ 105 ∧ ents.length ≤ 1000
  · obtain ⟨g1, g2, g3⟩ := h
    repeat' first
      | apply cw_seq
      | (refine cw_region_id 0 ?_; (first | (apply ol_val; exact rfl; apply s_boxN; exact rfl; intro _) | (apply ol_val; exact rfl; apply s_box1; exact rfl; exact rfl; intro _)); (apply ol_as; exact rfl; exact rfl); (apply ol_nil))
      | (refine cw_region_id 1 ?_; (apply ol_fa; exact rfl; exact rfl; exact fd_26_0; (first | exact Nat.zero_add _ | exact Nat.add_zero _ | exact rfl)); (apply ol_ld; exact rfl; exact rfl; exact rfl; (apply RdN.own; (focus ((repeat constructor); done)); exact GetN.cons rfl GetN.nil)); (apply ol_val; exact rfl; apply stp_pur; apply s_len; exact rfl; exact el_24); (apply ol_as; exact rfl; exact rfl); (apply ol_nil))
      | (refine cw_region_id 2 ?_; (apply ol_mv; exact rfl; exact rfl); (apply ol_val; exact rfl; apply stp_cmp; apply s_lss; exact rfl; exact rfl; all_goals (intro _; try (exfalso; (first | (rename_i hh; exact hh rfl) | omega); done))); all_goals (apply ol_mv; exact rfl; exact rfl); all_goals (first | (apply ol_gskip; exact rfl; exact rfl; (first | exact rfl | assumption); exact rfl) | (apply ol_gskipu; exact rfl; exact rfl; exact rfl) | (apply ol_gval; exact rfl; exact rfl; exact rfl; (first | exact rfl | assumption); apply stp_pur; apply s_move; exact rfl)); all_goals (first | (apply ol_gskip; exact rfl; exact rfl; (first | exact rfl | assumption); exact rfl) | (apply ol_gskipu; exact rfl; exact rfl; exact rfl) | (apply ol_gval; exact rfl; exact rfl; exact rfl; (first | exact rfl | assumption); apply stp_cmp; apply s_gtr; exact rfl; exact rfl; all_goals (intro _; try (exfalso; (first | (rename_i hh; exact hh rfl) | omega); done)))); all_goals (first | (apply ol_val; exact rfl; apply stp_pur; apply s_pick_t; exact rfl; (first | exact rfl | assumption); exact rfl) | (apply ol_val; exact rfl; apply stp_pur; apply s_pick_f; exact rfl; (first | exact rfl | assumption); exact rfl)); all_goals (apply ol_mv; exact rfl; exact rfl); all_goals (first | (apply ol_gskip; exact rfl; exact rfl; (first | exact rfl | assumption); exact rfl) | (apply ol_gskipu; exact rfl; exact rfl; exact rfl) | (apply ol_gval; exact rfl; exact rfl; exact rfl; (first | exact rfl | assumption); apply stp_pur; apply s_fieldAddr'; exact rfl; exact fd_26_1; (first | exact Nat.zero_add _ | exact Nat.add_zero _ | exact rfl))); all_goals (first | (apply ol_gskip; exact rfl; exact rfl; (first | exact rfl | assumption); exact rfl) | (apply ol_gskipu; exact rfl; exact rfl; exact rfl) | (apply ol_gval; exact rfl; exact rfl; exact rfl; (first | exact rfl | assumption); apply stp_pur; apply s_load1; exact rfl; exact rfl; (apply RdN.own; (focus ((repeat constructor); done)); exact GetN.cons rfl GetN.nil))); all_goals (first | (apply ol_gskip; exact rfl; exact rfl; (first | exact rfl | assumption); exact rfl) | (apply ol_gskipu; exact rfl; exact rfl; exact rfl) | (apply ol_gval; exact rfl; exact rfl; exact rfl; (first | exact rfl | assumption); apply stp_pur; apply s_len; exact rfl; exact el_22)); all_goals (first | (apply ol_gskip; exact rfl; exact rfl; (first | exact rfl | assumption); exact rfl) | (apply ol_gskipu; exact rfl; exact rfl; exact rfl) | (apply ol_gval; exact rfl; exact rfl; exact rfl; (first | exact rfl | assumption); apply stp_cmp; apply s_gtr; exact rfl; exact rfl; all_goals (intro _; try (exfalso; (first | (rename_i hh; exact hh rfl) | omega); done)))); all_goals (first | (apply ol_val; exact rfl; apply stp_pur; apply s_pick_t; exact rfl; (first | exact rfl | assumption); exact rfl) | (apply ol_val; exact rfl; apply stp_pur; apply s_pick_f; exact rfl; (first | exact rfl | assumption); exact rfl)); all_goals (apply ol_nil))
      | (refine cw_region_id 3 ?_; (apply ol_as; exact rfl; exact rfl); (apply ol_nil))
      | (refine cw_region_id 4 ?_; (apply ol_mv; exact rfl; exact rfl); (apply ol_val; exact rfl; apply s_makeB; exact rfl; exact rfl; exact el_24; exact sz_3; exact zb_3; exact rfl; exact by_3; omega; omega; omega; intro _); (apply ol_as; exact rfl; exact rfl); (apply ol_nil))
      | (refine cw_region_id 5 ?_; (apply ol_fa; exact rfl; exact rfl; exact fd_26_1; (first | exact Nat.zero_add _ | exact Nat.add_zero _ | exact rfl)); (apply ol_ld; exact rfl; exact rfl; exact rfl; (apply RdN.own; (focus ((repeat constructor); done)); exact GetN.cons rfl GetN.nil)); (apply ol_val; exact rfl; apply stp_pur; apply s_len; exact rfl; exact el_22); (apply ol_mv; exact rfl; exact rfl); (apply ol_nil))
      | (apply cw_cond_true; exact rfl; (first | exact rfl | assumption))
      | (apply cw_cond_false; exact rfl; (first | exact rfl | assumption))
      | apply cw_skip
      | apply cw_ret
      | apply cw_block
      | apply cw_exit
    rename_i bx _ _ _ bf
    refine cw_own (own' := [⟨some bf, ints (List.replicate bal.length 0) ++ [], 3⟩, ⟨some bx, _, 26⟩]) (by simp [ints]; rfl) ?_
    refine cw_loopK (σ := Nat × List Int) [1, 3, 4, 25, 26] (by (repeat (first | exact Keep.nil | (apply Keep.cons; exact rfl)))) (fun s => [(27, .int .i64 s.1)]) (fun _ => M) (fun s => [⟨some bf, ints s.2 ++ [], 3⟩, ⟨some bx, [.slice a1 bal.length c1, .slice a2 ents.length c2], 26⟩])
      (fun s => s.1 ≤ ents.length ∧ s.2.length = bal.length ∧ Bnd s.2 s.1 ∧ chk bal.length (List.replicate bal.length 0) ents = chk bal.length s.2 (ents.drop s.1)) (fun s => ents.length - s.1) (0, List.replicate bal.length 0)
      (by (repeat (first | exact trivial | refine And.intro rfl ?_))) (View.le.refl _) (by (repeat (first | exact Pick.nil | (apply Pick.cons; (focus ((repeat (first | exact Spl.here | apply Spl.there)); done))) | exact Pick.refl))) ⟨by omega, by simp, Bnd.zero _, by simp⟩ ?_
    intro s hs
    obtain ⟨k, b⟩ := s
    obtain ⟨i1, i2, i3, i4⟩ := hs
    simp only at i1 i2 i3 i4
    dsimp only
    by_cases hk : k < ents.length
    · have hdrop : ents.drop k = ents[k] :: ents.drop (k + 1) := List.drop_eq_getElem_cons hk
      rw [hdrop] at i4
      simp only [chk] at i4
      cases he : entryB bal.length ents[k] with
      | false =>
        repeat' first
          | apply cw_seq
          | (refine cw_region_id 6 ?_; (apply ol_val; exact rfl; apply stp_cmp; apply s_lss; exact rfl; exact rfl; all_goals (intro _; try (exfalso; (first | (rename_i hh; exact hh rfl) | omega); done))); all_goals (apply ol_nil))
          | (refine cw_region_id 7 ?_; (first | (apply ol_val; exact rfl; apply stp_pur; apply s_indexK; exact rfl; exact rfl; exact el_22; exact sz_34; (first | exact rfl | exact s2.at_ (by omega)); omega) | (apply ol_val; exact rfl; apply stp_pur; apply s_indexO; exact rfl; exact rfl; exact el_22; exact sz_34; (first | exact rfl | exact s2.at_ (by omega)); omega)); (apply ol_ldN; exact rfl; exact rfl; exact rfl; exact sz_34; (first | (apply RdN.own; (focus ((repeat constructor); done)); (focus ((repeat (first | exact rfl | constructor)); done))) | (apply RdN.view; exact s2.cells _ (by omega)))); (apply ol_val; exact rfl; apply s_alloc; exact zb_34; (focus ((repeat constructor); done)); intro _); (apply ol_eff; apply s_storeN; exact rfl; exact rfl; exact sz_34; exact rfl; exact rfl; (focus ((repeat constructor); done)); (focus ((repeat constructor); done))); (apply ol_nil))
          | (refine cw_region_id 8 ?_; (apply ol_ldN; exact rfl; exact rfl; exact rfl; exact sz_34; (first | (apply RdN.own; (focus ((repeat constructor); done)); (focus ((repeat (first | exact rfl | constructor)); done))) | (apply RdN.view; exact s2.cells _ (by omega)))); (apply ol_mv; exact rfl; exact rfl); (apply ol_val; exact rfl; apply s_callv; exact rfl; exact gf_30; (intro w' hw'; exact entry_spec _ _ _)); (first | (apply ol_val; exact rfl; apply stp_pur; apply s_not_t; exact rfl; (first | exact rfl | assumption)) | (apply ol_val; exact rfl; apply stp_pur; apply s_not_f; exact rfl; (first | exact rfl | assumption)) | (apply ol_val; exact rfl; apply stp_pur; apply s_not; exact rfl)); (apply ol_mv; exact rfl; exact rfl); (first | (apply ol_gskip; exact rfl; exact rfl; (first | exact rfl | assumption); exact rfl) | (apply ol_gskipu; exact rfl; exact rfl; exact rfl) | (apply ol_gval; exact rfl; exact rfl; exact rfl; (first | exact rfl | assumption); apply stp_pur; apply s_move; exact rfl)); (first | (apply ol_gskip; exact rfl; exact rfl; (first | exact rfl | assumption); exact rfl) | (apply ol_gskipu; exact rfl; exact rfl; exact rfl) | (apply ol_gval; exact rfl; exact rfl; exact rfl; (first | exact rfl | assumption); apply stp_pur; apply s_loadN; exact rfl; exact rfl; exact sz_34; (first | (apply RdN.own; (focus ((repeat constructor); done)); (focus ((repeat (first | exact rfl | constructor)); done))) | (apply RdN.view; exact s2.cells _ (by omega))))); (first | (apply ol_gskip; exact rfl; exact rfl; (first | exact rfl | assumption); exact rfl) | (apply ol_gskipu; exact rfl; exact rfl; exact rfl)); (first | (apply ol_gskip; exact rfl; exact rfl; (first | exact rfl | assumption); exact rfl) | (apply ol_gskipu; exact rfl; exact rfl; exact rfl) | (apply ol_gval; exact rfl; exact rfl; exact rfl; (first | exact rfl | assumption); apply stp_pur; apply s_not_t; exact rfl; (first | exact rfl | assumption)) | (apply ol_gval; exact rfl; exact rfl; exact rfl; (first | exact rfl | assumption); apply stp_pur; apply s_not_f; exact rfl; (first | exact rfl | assumption)) | (apply ol_gval; exact rfl; exact rfl; exact rfl; (first | exact rfl | assumption); apply stp_pur; apply s_not; exact rfl)); (first | (apply ol_val; exact rfl; apply stp_pur; apply s_pick_t; exact rfl; (first | exact rfl | assumption); exact rfl) | (apply ol_val; exact rfl; apply stp_pur; apply s_pick_f; exact rfl; (first | exact rfl | assumption); exact rfl)); (apply ol_nil))
          | (refine cw_region_id 9 ?_; (apply ol_as; exact rfl; exact rfl); (apply ol_nil))
          | (refine cw_region_id 10 ?_; (apply ol_val; exact rfl; apply stp_pur; apply s_add64; exact rfl; exact rfl; omega); (apply ol_mv; exact rfl; exact rfl); (apply ol_nil))
          | (refine cw_region_id 11 ?_; (apply ol_mv; exact rfl; exact rfl); (apply ol_fa; exact rfl; exact rfl; exact fd_26_0; (first | exact Nat.zero_add _ | exact Nat.add_zero _ | exact rfl)); (apply ol_ld; exact rfl; exact rfl; exact rfl; (first | (apply RdN.own; (focus ((repeat constructor); done)); exact GetN.cons rfl GetN.nil) | (apply RdN.view; exact s2.cells _ (by omega)))))
          | (apply cw_cond_true; exact rfl; (first | exact rfl | assumption))
          | (apply cw_cond_false; exact rfl; (first | exact rfl | assumption))
          | apply cw_skip
          | apply cw_ret
          | apply cw_block
          | apply cw_exit
        refine ends [] (RVal.tmp rfl RVal.nil) Pick.nil ?_
        rw [he] at i4
        simp [tup, validB, i4]
      | true =>
        have hx := entryB_spec he
        have hsm : Small b := i3.small (by omega)
        repeat' first
          | apply cw_seq
          | (refine cw_region_id 6 ?_; (apply ol_val; exact rfl; apply stp_cmp; apply s_lss; exact rfl; exact rfl; all_goals (intro _; try (exfalso; (first | (rename_i hh; exact hh rfl) | omega); done))); all_goals (apply ol_nil))
          | (refine cw_region_id 7 ?_; (first | (apply ol_val; exact rfl; apply stp_pur; apply s_indexK; exact rfl; exact rfl; exact el_22; exact sz_34; (first | exact rfl | exact s2.at_ (by omega)); omega) | (apply ol_val; exact rfl; apply stp_pur; apply s_indexO; exact rfl; exact rfl; exact el_22; exact sz_34; (first | exact rfl | exact s2.at_ (by omega)); omega)); (apply ol_ldN; exact rfl; exact rfl; exact rfl; exact sz_34; (first | (apply RdN.own; (focus ((repeat constructor); done)); (focus ((repeat (first | exact rfl | constructor)); done))) | (apply RdN.view; exact s2.cells _ (by omega)))); (apply ol_val; exact rfl; apply s_alloc; exact zb_34; (focus ((repeat constructor); done)); intro _); (apply ol_eff; apply s_storeN; exact rfl; exact rfl; exact sz_34; exact rfl; exact rfl; (focus ((repeat constructor); done)); (focus ((repeat constructor); done))); (apply ol_nil))
          | (refine cw_region_id 8 ?_; (apply ol_ldN; exact rfl; exact rfl; exact rfl; exact sz_34; (first | (apply RdN.own; (focus ((repeat constructor); done)); (focus ((repeat (first | exact rfl | constructor)); done))) | (apply RdN.view; exact s2.cells _ (by omega)))); (apply ol_mv; exact rfl; exact rfl); (apply ol_val; exact rfl; apply s_callv; exact rfl; exact gf_30; (intro w' hw'; exact entry_spec _ _ _)); (first | (apply ol_val; exact rfl; apply stp_pur; apply s_not_t; exact rfl; (first | exact rfl | assumption)) | (apply ol_val; exact rfl; apply stp_pur; apply s_not_f; exact rfl; (first | exact rfl | assumption)) | (apply ol_val; exact rfl; apply stp_pur; apply s_not; exact rfl)); (apply ol_mv; exact rfl; exact rfl); (first | (apply ol_gskip; exact rfl; exact rfl; (first | exact rfl | assumption); exact rfl) | (apply ol_gskipu; exact rfl; exact rfl; exact rfl) | (apply ol_gval; exact rfl; exact rfl; exact rfl; (first | exact rfl | assumption); apply stp_pur; apply s_move; exact rfl)); (first | (apply ol_gskip; exact rfl; exact rfl; (first | exact rfl | assumption); exact rfl) | (apply ol_gskipu; exact rfl; exact rfl; exact rfl) | (apply ol_gval; exact rfl; exact rfl; exact rfl; (first | exact rfl | assumption); apply stp_pur; apply s_loadN; exact rfl; exact rfl; exact sz_34; (first | (apply RdN.own; (focus ((repeat constructor); done)); (focus ((repeat (first | exact rfl | constructor)); done))) | (apply RdN.view; exact s2.cells _ (by omega))))); (first | (apply ol_gskip; exact rfl; exact rfl; (first | exact rfl | assumption); exact rfl) | (apply ol_gskipu; exact rfl; exact rfl; exact rfl) | (apply ol_gval; exact rfl; exact rfl; exact rfl; (first | exact rfl | assumption); apply s_callm; exact rfl; exact gf_31; (intro w' hw'; exact post' (x := ents[k]) i2 hx hsm (hw'.ok_ (by (repeat (first | exact Has.here | apply Has.there))))); (focus ((repeat constructor); done)); ((intro v cs' _ hpost; rcases hpost with ⟨hlow, rfl, rfl⟩ | ⟨hlow, rfl, rfl⟩)))); all_goals (first | (apply ol_gskip; exact rfl; exact rfl; (first | exact rfl | assumption); exact rfl) | (apply ol_gskipu; exact rfl; exact rfl; exact rfl) | (apply ol_gval; exact rfl; exact rfl; exact rfl; (first | exact rfl | assumption); apply stp_pur; apply s_not_t; exact rfl; (first | exact rfl | assumption)) | (apply ol_gval; exact rfl; exact rfl; exact rfl; (first | exact rfl | assumption); apply stp_pur; apply s_not_f; exact rfl; (first | exact rfl | assumption)) | (apply ol_gval; exact rfl; exact rfl; exact rfl; (first | exact rfl | assumption); apply stp_pur; apply s_not; exact rfl)); all_goals (first | (apply ol_val; exact rfl; apply stp_pur; apply s_pick_t; exact rfl; (first | exact rfl | assumption); exact rfl) | (apply ol_val; exact rfl; apply stp_pur; apply s_pick_f; exact rfl; (first | exact rfl | assumption); exact rfl)); all_goals (apply ol_nil))
          | (refine cw_region_id 9 ?_; (apply ol_as; exact rfl; exact rfl); (apply ol_nil))
          | (refine cw_region_id 10 ?_; (apply ol_val; exact rfl; apply stp_pur; apply s_add64; exact rfl; exact rfl; omega); (apply ol_mv; exact rfl; exact rfl); (apply ol_nil))
          | (refine cw_region_id 11 ?_; (apply ol_mv; exact rfl; exact rfl); (apply ol_fa; exact rfl; exact rfl; exact fd_26_0; (first | exact Nat.zero_add _ | exact Nat.add_zero _ | exact rfl)); (apply ol_ld; exact rfl; exact rfl; exact rfl; (first | (apply RdN.own; (focus ((repeat constructor); done)); exact GetN.cons rfl GetN.nil) | (apply RdN.view; exact s2.cells _ (by omega)))))
          | (apply cw_cond_true; exact rfl; (first | exact rfl | assumption))
          | (apply cw_cond_false; exact rfl; (first | exact rfl | assumption))
          | apply cw_skip
          | apply cw_ret
          | apply cw_block
          | apply cw_exit
        · refine ends [] (RVal.tmp rfl RVal.nil) Pick.nil ?_
          rw [he, hlow] at i4
          simp [tup, validB, i4]
        · refine ⟨(k + 1, postL b ents[k]), ⟨by (repeat (first | exact trivial | refine And.intro rfl ?_)), View.le.refl _, by (repeat (first | exact Pick.nil | (apply Pick.cons; (focus ((repeat (first | exact Spl.here | apply Spl.there)); done))) | exact Pick.refl)), ⟨by simp only; omega, by simp [i2], i3.post (by omega) (by omega) (by omega), ?_⟩, by simp only; omega⟩⟩
          rw [he, hlow] at i4
          simpa using i4
    · have ek : k = ents.length := by omega
      subst ek
      repeat' first
        | apply cw_seq
        | (refine cw_region_id 6 ?_; (apply ol_val; exact rfl; apply stp_cmp; apply s_lss; exact rfl; exact rfl; all_goals (intro _; try (exfalso; (first | (rename_i hh; exact hh rfl) | omega); done))); all_goals (apply ol_nil))
        | (refine cw_region_id 7 ?_; (first | (apply ol_val; exact rfl; apply stp_pur; apply s_indexK; exact rfl; exact rfl; exact el_22; exact sz_34; (first | exact rfl); omega) | (apply ol_val; exact rfl; apply stp_pur; apply s_indexO; exact rfl; exact rfl; exact el_22; exact sz_34; (first | exact rfl); omega)); (apply ol_ldN; exact rfl; exact rfl; exact rfl; exact sz_34; (apply RdN.own; (focus ((repeat constructor); done)); (focus ((repeat (first | exact rfl | constructor)); done)))); (apply ol_val; exact rfl; apply s_alloc; exact zb_34; (focus ((repeat constructor); done)); intro _); (apply ol_eff; apply s_storeN; exact rfl; exact rfl; exact sz_34; exact rfl; exact rfl; (focus ((repeat constructor); done)); (focus ((repeat constructor); done))); (apply ol_nil))
        | (refine cw_region_id 8 ?_; (apply ol_ldN; exact rfl; exact rfl; exact rfl; exact sz_34; (apply RdN.own; (focus ((repeat constructor); done)); (focus ((repeat (first | exact rfl | constructor)); done)))); (apply ol_mv; exact rfl; exact rfl))
        | (refine cw_region_id 9 ?_; (apply ol_as; exact rfl; exact rfl); (apply ol_nil))
        | (refine cw_region_id 10 ?_; (apply ol_val; exact rfl; apply stp_pur; apply s_add64; exact rfl; exact rfl; omega); (apply ol_mv; exact rfl; exact rfl); (apply ol_nil))
        | (refine cw_region_id 11 ?_; (apply ol_mv; exact rfl; exact rfl); (apply ol_fa; exact rfl; exact rfl; exact fd_26_0; (first | exact Nat.zero_add _ | exact Nat.add_zero _ | exact rfl)); (apply ol_ld; exact rfl; exact rfl; exact rfl; (apply RdN.own; (focus ((repeat constructor); done)); exact GetN.cons rfl GetN.nil)); (apply ol_val; exact rfl; apply s_callv; exact rfl; exact gf_29; (intro w' hw'; exact eqInts' (View.of w') w' (View.le.refl _) (SlA.ownInts (r := some bf) (A := none) (hw'.ok_ (by (repeat (first | exact Has.here | apply Has.there)))) (by simp)) (s1.mono hw'.le) (by omega) i2 rfl)); (apply ol_as; exact rfl; exact rfl); (apply ol_nil))
        | (apply cw_cond_true; exact rfl; (first | exact rfl | assumption))
        | (apply cw_cond_false; exact rfl; (first | exact rfl | assumption))
        | apply cw_skip
        | apply cw_ret
        | apply cw_block
        | apply cw_exit
      refine ends [] (RVal.tmp rfl RVal.nil) Pick.nil ?_
      simp only [List.drop_length, chk] at i4
      simp [tup, validB, i4, g1, g2, g3]
  ·
    repeat' first
      | apply cw_seq
      | (refine cw_region_id 0 ?_; (first | (apply ol_val; exact rfl; apply s_boxN; exact rfl; intro _) | (apply ol_val; exact rfl; apply s_box1; exact rfl; exact rfl; intro _)); (apply ol_as; exact rfl; exact rfl); (apply ol_nil))
      | (refine cw_region_id 1 ?_; (apply ol_fa; exact rfl; exact rfl; exact fd_26_0; (first | exact Nat.zero_add _ | exact Nat.add_zero _ | exact rfl)); (apply ol_ld; exact rfl; exact rfl; exact rfl; (apply RdN.own; (focus ((repeat constructor); done)); exact GetN.cons rfl GetN.nil)); (apply ol_val; exact rfl; apply stp_pur; apply s_len; exact rfl; exact el_24); (apply ol_as; exact rfl; exact rfl); (apply ol_nil))
      | (refine cw_region_id 2 ?_; (apply ol_mv; exact rfl; exact rfl); (apply ol_val; exact rfl; apply stp_cmp; apply s_lss; exact rfl; exact rfl; all_goals (intro _; try (exfalso; (first | (rename_i hh; exact hh rfl) | omega); done))); all_goals (apply ol_mv; exact rfl; exact rfl); all_goals (first | (apply ol_gskip; exact rfl; exact rfl; (first | exact rfl | assumption); exact rfl) | (apply ol_gskipu; exact rfl; exact rfl; exact rfl) | (apply ol_gval; exact rfl; exact rfl; exact rfl; (first | exact rfl | assumption); apply stp_pur; apply s_move; exact rfl)); all_goals (first | (apply ol_gskip; exact rfl; exact rfl; (first | exact rfl | assumption); exact rfl) | (apply ol_gskipu; exact rfl; exact rfl; exact rfl) | (apply ol_gval; exact rfl; exact rfl; exact rfl; (first | exact rfl | assumption); apply stp_cmp; apply s_gtr; exact rfl; exact rfl; all_goals (intro _; try (exfalso; (first | (rename_i hh; exact hh rfl) | omega); done)))); all_goals (first | (apply ol_val; exact rfl; apply stp_pur; apply s_pick_t; exact rfl; (first | exact rfl | assumption); exact rfl) | (apply ol_val; exact rfl; apply stp_pur; apply s_pick_f; exact rfl; (first | exact rfl | assumption); exact rfl)); all_goals (apply ol_mv; exact rfl; exact rfl); all_goals (first | (apply ol_gskip; exact rfl; exact rfl; (first | exact rfl | assumption); exact rfl) | (apply ol_gskipu; exact rfl; exact rfl; exact rfl) | (apply ol_gval; exact rfl; exact rfl; exact rfl; (first | exact rfl | assumption); apply stp_pur; apply s_fieldAddr'; exact rfl; exact fd_26_1; (first | exact Nat.zero_add _ | exact Nat.add_zero _ | exact rfl))); all_goals (first | (apply ol_gskip; exact rfl; exact rfl; (first | exact rfl | assumption); exact rfl) | (apply ol_gskipu; exact rfl; exact rfl; exact rfl) | (apply ol_gval; exact rfl; exact rfl; exact rfl; (first | exact rfl | assumption); apply stp_pur; apply s_load1; exact rfl; exact rfl; (apply RdN.own; (focus ((repeat constructor); done)); exact GetN.cons rfl GetN.nil))); all_goals (first | (apply ol_gskip; exact rfl; exact rfl; (first | exact rfl | assumption); exact rfl) | (apply ol_gskipu; exact rfl; exact rfl; exact rfl) | (apply ol_gval; exact rfl; exact rfl; exact rfl; (first | exact rfl | assumption); apply stp_pur; apply s_len; exact rfl; exact el_22)); all_goals (first | (apply ol_gskip; exact rfl; exact rfl; (first | exact rfl | assumption); exact rfl) | (apply ol_gskipu; exact rfl; exact rfl; exact rfl) | (apply ol_gval; exact rfl; exact rfl; exact rfl; (first | exact rfl | assumption); apply stp_cmp; apply s_gtr; exact rfl; exact rfl; all_goals (intro _; try (exfalso; (first | (rename_i hh; exact hh rfl) | omega); done)))); all_goals (first | (apply ol_val; exact rfl; apply stp_pur; apply s_pick_t; exact rfl; (first | exact rfl | assumption); exact rfl) | (apply ol_val; exact rfl; apply stp_pur; apply s_pick_f; exact rfl; (first | exact rfl | assumption); exact rfl)); all_goals (apply ol_nil))
      | (refine cw_region_id 3 ?_; (apply ol_as; exact rfl; exact rfl); (apply ol_nil))
      | (refine cw_region_id 4 ?_; (apply ol_mv; exact rfl; exact rfl); (apply ol_val; exact rfl; apply s_makeB; exact rfl; exact rfl; exact el_24; exact sz_3; exact zb_3; exact rfl; exact by_3; omega; omega; omega; intro _); (apply ol_as; exact rfl; exact rfl); (apply ol_nil))
      | (refine cw_region_id 5 ?_; (apply ol_fa; exact rfl; exact rfl; exact fd_26_1; (first | exact Nat.zero_add _ | exact Nat.add_zero _ | exact rfl)); (apply ol_ld; exact rfl; exact rfl; exact rfl; (apply RdN.own; (focus ((repeat constructor); done)); exact GetN.cons rfl GetN.nil)); (apply ol_val; exact rfl; apply stp_pur; apply s_len; exact rfl; exact el_22); (apply ol_mv; exact rfl; exact rfl); (apply ol_nil))
      | (apply cw_cond_true; exact rfl; (first | exact rfl | assumption))
      | (apply cw_cond_false; exact rfl; (first | exact rfl | assumption))
      | apply cw_skip
      | apply cw_ret
      | apply cw_block
      | apply cw_exit
    all_goals (refine ends [] (RVal.tmp rfl RVal.nil) Pick.nil ?_; simp only [tup, validB]; congr 1; symm; rw [decide_eq_false_iff_not]; omega)
end Go.Proofs.Ytmgmpgccnohpkaa
