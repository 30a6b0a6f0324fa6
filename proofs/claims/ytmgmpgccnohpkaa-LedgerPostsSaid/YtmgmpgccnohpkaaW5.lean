/-
  The walk of the reference's Replay.
-/
import Derived.Test.YtmgmpgccnohpkaaW4
namespace Go.Proofs.Ytmgmpgccnohpkaa
set_option maxRecDepth 20000
set_option linter.unusedSimpArgs false
set_option linter.unusedVariables false
open Go Go.Fw
attribute [local irreducible] CW OL OD FX Stp
set_option maxHeartbeats 4000000

structure RR where
  k : Nat
  bal : List Int
  ents : List Ent
  r1 : Option Nat
  A1 : Option Addr
  c1 : Nat
  sp1 : List Value
  r2 : Option Nat
  A2 : Option Addr
  c2 : Nat
  sp2 : List Value

theorem refReplay_spec (M : View) (w : World) (hM : View.le M (View.of w)) (n : Int) {l : List Ent} {a : Option Addr} {b o c m : Nat} (hm : l.length = m) (s : SlA M Ent.enc 4 a l b o) (hl : l.length ≤ 1048576) :
    FnC Try.prog 11 [.int .i64 n, .slice a m c] w (fun v new => LedRes (Replay n l).1 (Replay n l).2.1 (Replay n l).2.2 v new) := by
  subst hm
  refine enterF (M := M) Try.func11 rfl rfl rfl rfl hM ?_
  refine cw_none 34 ?_
  refine cw_none 34 ?_
  refine cw_none 3 ?_
  by_cases hn : 5 ≤ n ∧ n ≤ 105
  · have hR : Replay n l = replayM n (List.replicate n.toNat 0) [] l := by unfold Replay; rw [if_pos hn]
    rw [hR]
    obtain ⟨N, rfl⟩ := Int.eq_ofNat_of_zero_le (show 0 ≤ n by omega)
    rw [replicate_toNat]
    have hA : decide (5 ≤ (N : Int) ∧ (N : Int) ≤ 105) = true := decide_eq_true hn
    repeat' first
      | apply cw_seq
      | (refine cw_region_id 0 ?_; (apply ol_val; exact rfl; apply s_alloc; exact zb_26; (focus ((repeat constructor); done)); intro _); (apply ol_as; exact rfl; exact rfl); (apply ol_nil))
      | (refine cw_region_id 1 ?_; (apply ol_mv; exact rfl; exact rfl); (apply ol_val; exact rfl; apply s_callv; exact rfl; exact gf_18; (intro w' hw'; exact accounts_spec _ _)); (first | (apply ol_val; exact rfl; apply stp_pur; apply s_not_t; exact rfl; (first | exact rfl | assumption)) | (apply ol_val; exact rfl; apply stp_pur; apply s_not_f; exact rfl; (first | exact rfl | assumption)) | (apply ol_val; exact rfl; apply stp_pur; apply s_not; exact rfl)); (apply ol_nil))
      | (refine cw_region_id 2 ?_; (apply ol_val; exact rfl; apply stp_pur; apply s_buildS; exact rfl; exact fs_26; exact zb_26; (focus ((repeat (first | exact rfl | constructor)); done))); (apply ol_eff; apply s_storeN; exact rfl; exact rfl; exact sz_26; exact rfl; exact rfl; (focus ((repeat constructor); done)); (focus ((repeat constructor); done))); (apply ol_as; exact rfl; exact rfl); (apply ol_nil))
      | (refine cw_region_id 3 ?_; (apply ol_mv; exact rfl; exact rfl); (apply ol_val; exact rfl; apply s_makeB; exact rfl; exact rfl; exact el_24; exact sz_3; exact zb_3; exact rfl; exact by_3; omega; omega; omega; intro _); (apply ol_val; exact rfl; apply stp_pur; apply s_buildS; exact rfl; exact fs_26; exact zb_26; (focus ((repeat (first | exact rfl | constructor)); done))); (apply ol_val; exact rfl; apply s_alloc; exact zb_26; (focus ((repeat constructor); done)); intro _); (apply ol_eff; apply s_storeN; exact rfl; exact rfl; exact sz_26; exact rfl; exact rfl; (focus ((repeat constructor); done)); (focus ((repeat constructor); done))); (apply ol_nil))
      | (refine cw_region_id 4 ?_; (apply ol_as; exact rfl; exact rfl); (apply ol_nil))
      | (apply cw_cond_true; exact rfl; (first | exact rfl | assumption))
      | (apply cw_cond_false; exact rfl; (first | exact rfl | assumption))
      | apply cw_skip
      | apply cw_ret
      | apply cw_block
      | apply cw_exit
    rename_i b4 b1 b6
    refine cw_own (own' := [⟨some b6, [.slice (some ⟨b1, 0, none⟩) N N, .slice none 0 0], 26⟩, ⟨some b1, ints (List.replicate N 0) ++ [], 3⟩, ⟨some b4, [.slice none 0 0, .slice none 0 0], 26⟩, ⟨none, [], 3⟩, ⟨none, flat Ent.enc [] ++ [], 34⟩, ⟨none, [], 34⟩]) (by simp [ints, flat]) ?_
    refine cw_loopK (σ := RR) [1, 4, 6] (by (repeat (first | exact Keep.nil | (apply Keep.cons; exact rfl)))) (fun s => [(7, .int .i64 s.k)]) (fun _ => M)
      (fun s => [⟨some b6, [.slice (base s.r1 s.A1) N s.c1, .slice (base s.r2 s.A2) s.ents.length s.c2], 26⟩, ⟨s.r1, ints s.bal ++ s.sp1, 3⟩, ⟨some b4, [.slice none 0 0, .slice none 0 0], 26⟩, ⟨none, [], 3⟩, ⟨s.r2, flat Ent.enc s.ents ++ s.sp2, 34⟩, ⟨none, [], 34⟩])
      (fun s => s.k ≤ l.length ∧ s.bal.length = N ∧ s.ents.length = s.k ∧ s.k ≤ 1000 ∧ balsM (List.replicate N 0) s.ents = some s.bal ∧ (∀ i (h : i < s.ents.length), entryB N s.ents[i] = true) ∧ SO s.r1 N s.c1 (ints s.bal) s.sp1 1 ∧ SO s.r2 s.ents.length s.c2 (flat Ent.enc s.ents) s.sp2 4 ∧ replayM N (List.replicate N 0) [] l = replayM N s.bal s.ents (l.drop s.k)) (fun s => l.length - s.k)
      ⟨0, List.replicate N 0, [], some b1, none, N, [], none, none, 0, []⟩ (by (repeat (first | exact trivial | refine And.intro rfl ?_))) (View.le.refl _) (by (repeat (first | exact Pick.nil | (apply Pick.cons; (focus ((repeat (first | exact Spl.here | apply Spl.there)); done))) | exact Pick.refl))) ⟨by simp, by simp, rfl, by simp, rfl, by simp, ⟨by simp, by simp, by simp, by simp⟩, SO.nil 4, by simp⟩ ?_
    intro s' hs'
    obtain ⟨k, bal, ents, r1, A1, c1, sp1, r2, A2, c2, sp2⟩ := s'
    obtain ⟨i1, i2, i3, i3', i4, i5, so1, so2, i6⟩ := hs'
    dsimp only at i1 i2 i3 i3' i4 i5 so1 so2 i6
    dsimp only
    by_cases hk : k < l.length
    · have hdrop : l.drop k = l[k] :: l.drop (k + 1) := List.drop_eq_getElem_cons hk
      rw [hdrop] at i6
      simp only [replayM] at i6
      have hbal : balsM (List.replicate N 0) (ents ++ [l[k]]) = if lowB bal l[k] = true then none else some (postL bal l[k]) := by rw [balsM_append, i4]; rfl
      repeat' first
        | apply cw_seq
        | (refine cw_region_id 5 ?_; (apply ol_mv; exact rfl; exact rfl); (apply ol_mv; exact rfl; exact rfl); (apply ol_val; exact rfl; apply stp_pur; apply s_len; exact rfl; exact el_22); (apply ol_val; exact rfl; apply stp_cmp; apply s_lss; exact rfl; exact rfl; all_goals (intro _; try (exfalso; (first | (rename_i hh; exact hh rfl) | omega); done))); all_goals (apply ol_nil))
        | (refine cw_draw (id := 7) 12 (.mv 0 (.mv 1 (.mv 2 (.mv 3 (.mv 4 (.br 5 (.mv 6 (.mv 7 (.mv 8 (.fx 9 (.fx 10 (.mv 11 (PT.nil))))))) 9 (.fx 5 (.mv 6 (.mv 7 (.mv 8 (.fx 10 (.mv 11 (PT.nil))))))))))))) mixed (by kernel_rfl) ?_; (apply od_mv; exact rfl; exact rfl; apply s_loadN; exact rfl; exact rfl; exact sz_26; (first | (apply RdN.own; (focus ((repeat constructor); done)); (focus ((repeat (first | exact rfl | constructor)); done))) | (apply RdN.view; exact s.cells _ (by omega)))); (apply od_mv; exact rfl; exact rfl; apply s_move; exact rfl); (apply od_mv; exact rfl; exact rfl; apply s_move; exact rfl); (first | (apply od_mv; exact rfl; exact rfl; apply s_indexK; exact rfl; exact rfl; exact el_22; exact sz_34; (first | exact rfl | exact s.at_ (by omega)); omega) | (apply od_mv; exact rfl; exact rfl; apply s_indexO; exact rfl; exact rfl; exact el_22; exact sz_34; (first | exact rfl | exact s.at_ (by omega)); omega)); (apply od_mv; exact rfl; exact rfl; apply s_loadN; exact rfl; exact rfl; exact sz_34; (first | (apply RdN.own; (focus ((repeat constructor); done)); (focus ((repeat (first | exact rfl | constructor)); done))) | (apply RdN.view; exact s.cells _ (by omega)))); (apply od_br; (first | exact Wk.refl _ _ | (focus (apply Wk.mk; exact View.le.refl _; (repeat constructor); done)))); all_goals (first | (refine fx_at 5 ?_; (apply fx_val; exact rfl; exact rfl; apply s_call; exact rfl; exact gf_21; (intro w' hw'; exact refPost_spec (View.of w') w' (View.le.refl _) N (by omega) ents l[k] rfl (SlA.own Ent.enc_length (hw'.ok_ (by (repeat (first | exact Has.here | apply Has.there)))) (fun h => List.length_eq_zero_iff.mp (SO.empty so2 h))) (by omega) i5); ((intro v new h; rcases h with ⟨h1, h⟩ | ⟨h1, h2, h⟩ | ⟨h1, h2, ⟨h3, h⟩ | ⟨bal', h3, h⟩⟩ <;> obtain ⟨r1', A1', c1', sp1', r2', A2', c2', sp2', rfl, rfl, so1', so2'⟩ := h))); all_goals (apply od_mv; exact rfl; exact rfl; apply s_move; exact rfl); all_goals (apply od_mv; exact rfl; exact rfl; apply s_extract; exact rfl; exact rfl); all_goals (apply od_mv; exact rfl; exact rfl; apply s_extract; exact rfl; exact rfl); all_goals (apply od_fx; (first | exact Wk.refl _ _ | (focus (apply Wk.mk; exact View.le.refl _; (repeat constructor); done))); (apply fx_val; exact rfl; exact rfl; apply s_alloc; exact zb_26; (focus ((repeat constructor); done)); intro _)); all_goals (apply od_fx; (first | exact Wk.refl _ _ | (focus (apply Wk.mk; exact View.le.refl _; (repeat constructor); done))); (apply fx_eff; exact rfl; apply s_storeN; exact rfl; exact rfl; exact sz_26; exact rfl; exact rfl; (focus ((repeat constructor); done)); (focus ((repeat constructor); done)))); all_goals (apply od_mv; exact rfl; exact rfl; apply s_assign; exact rfl); all_goals (apply od_nil; (first | exact Wk.refl _ _ | (focus (apply Wk.mk; exact View.le.refl _; (repeat constructor); done)))); all_goals (apply ol_nil)) | (refine fx_at 9 ?_; (apply fx_val; exact rfl; exact rfl; apply s_alloc; exact zb_26; (focus ((repeat constructor); done)); intro _); (apply od_fx; (first | exact Wk.refl _ _ | (focus (apply Wk.mk; exact View.le.refl _; (repeat constructor); done))); (apply fx_val; exact rfl; exact rfl; apply s_call; exact rfl; exact gf_21; (intro w' hw'; exact refPost_spec (View.of w') w' (View.le.refl _) N (by omega) ents l[k] rfl (SlA.own Ent.enc_length (hw'.ok_ (by (repeat (first | exact Has.here | apply Has.there)))) (fun h => List.length_eq_zero_iff.mp (SO.empty so2 h))) (by omega) i5); ((intro v new h; rcases h with ⟨h1, h⟩ | ⟨h1, h2, h⟩ | ⟨h1, h2, ⟨h3, h⟩ | ⟨bal', h3, h⟩⟩ <;> obtain ⟨r1', A1', c1', sp1', r2', A2', c2', sp2', rfl, rfl, so1', so2'⟩ := h)))); all_goals (apply od_mv; exact rfl; exact rfl; apply s_move; exact rfl); all_goals (apply od_mv; exact rfl; exact rfl; apply s_extract; exact rfl; exact rfl); all_goals (apply od_mv; exact rfl; exact rfl; apply s_extract; exact rfl; exact rfl); all_goals (apply od_fx; (first | exact Wk.refl _ _ | (focus (apply Wk.mk; exact View.le.refl _; (repeat constructor); done))); (apply fx_eff; exact rfl; apply s_storeN; exact rfl; exact rfl; exact sz_26; exact rfl; exact rfl; (focus ((repeat constructor); done)); (focus ((repeat constructor); done)))); all_goals (apply od_mv; exact rfl; exact rfl; apply s_assign; exact rfl); all_goals (apply od_nil; (first | exact Wk.refl _ _ | (focus (apply Wk.mk; exact View.le.refl _; (repeat constructor); done)))); all_goals (apply ol_nil))))
        | (refine cw_region_id 8 ?_; (apply ol_mv; exact rfl; exact rfl); (apply ol_val; exact rfl; apply stp_cmp; apply s_neq; exact rfl; exact rfl; all_goals (intro _; try (exfalso; (first | (rename_i hh; exact hh rfl) | omega); done))); all_goals (apply ol_nil))
        | (refine cw_region_id 9 ?_; (apply ol_val; exact rfl; apply stp_pur; apply s_buildS; exact rfl; exact fs_26; exact zb_26; (focus ((repeat (first | exact rfl | constructor)); done))); (apply ol_mv; exact rfl; exact rfl); (apply ol_eff; apply s_storeN; exact rfl; exact rfl; exact sz_26; exact rfl; exact rfl; (focus ((repeat constructor); done)); (focus ((repeat constructor); done))); (apply ol_as; exact rfl; exact rfl); (apply ol_nil))
        | (refine cw_region_id 10 ?_; (apply ol_ldN; exact rfl; exact rfl; exact rfl; exact sz_26; (first | (apply RdN.own; (focus ((repeat constructor); done)); (focus ((repeat (first | exact rfl | constructor)); done))) | (apply RdN.view; exact s.cells _ (by omega)))); (apply ol_eff; apply s_storeN; exact rfl; exact rfl; exact sz_26; exact rfl; exact rfl; (focus ((repeat constructor); done)); (focus ((repeat constructor); done))); (apply ol_nil))
        | (refine cw_region_id 6 ?_; (apply ol_mv; exact rfl; exact rfl); (apply ol_val; exact rfl; apply stp_pur; apply s_add64; exact rfl; exact rfl; omega); (apply ol_as; exact rfl; exact rfl); (apply ol_nil))
        | (refine cw_region_id 11 ?_; (apply ol_ldN; exact rfl; exact rfl; exact rfl; exact sz_26; (first | (apply RdN.own; (focus ((repeat constructor); done)); (focus ((repeat (first | exact rfl | constructor)); done))) | (apply RdN.view; exact s.cells _ (by omega)))); (apply ol_eff; apply s_storeN; exact rfl; exact rfl; exact sz_26; exact rfl; exact rfl; (focus ((repeat constructor); done)); (focus ((repeat constructor); done))); (apply ol_as; exact rfl; exact rfl); (apply ol_nil))
        | (apply cw_cond_true; exact rfl; (first | exact rfl | assumption))
        | (apply cw_cond_false; exact rfl; (first | exact rfl | assumption))
        | apply cw_skip
        | apply cw_ret
        | apply cw_block
        | apply cw_exit
      iterate 2
        · refine ends [⟨none, [], 3⟩, ⟨none, [], 34⟩] (by (repeat (first | exact RVal.nil | (apply RVal.tmp; exact rfl) | (apply RVal.cellN; exact rfl; exact rfl; (first | exact sz_26); apply RdN.own; (focus ((repeat (first | exact Has.here | apply Has.there)); done)); (focus ((repeat (first | exact GetN.nil | (apply GetN.cons; exact rfl))); done))) | (apply RVal.cell1; exact rfl; exact rfl; apply RdN.own; (focus ((repeat (first | exact Has.here | apply Has.there)); done)); exact GetN.cons rfl GetN.nil)))) (by (repeat (first | exact Pick.nil | (apply Pick.cons; (focus ((repeat (first | exact Spl.here | apply Spl.there)); done))) | exact Pick.refl))) ?_
          rw [i6, if_pos h1]
          exact LedRes.zero 2
        · refine ends [⟨none, [], 3⟩, ⟨none, [], 34⟩] (by (repeat (first | exact RVal.nil | (apply RVal.tmp; exact rfl) | (apply RVal.cellN; exact rfl; exact rfl; (first | exact sz_26); apply RdN.own; (focus ((repeat (first | exact Has.here | apply Has.there)); done)); (focus ((repeat (first | exact GetN.nil | (apply GetN.cons; exact rfl))); done))) | (apply RVal.cell1; exact rfl; exact rfl; apply RdN.own; (focus ((repeat (first | exact Has.here | apply Has.there)); done)); exact GetN.cons rfl GetN.nil)))) (by (repeat (first | exact Pick.nil | (apply Pick.cons; (focus ((repeat (first | exact Spl.here | apply Spl.there)); done))) | exact Pick.refl))) ?_
          rw [i6, if_neg (by simp [h1]), if_pos (by omega)]
          exact LedRes.zero 5
        · refine ends [⟨none, [], 3⟩, ⟨none, [], 34⟩] (by (repeat (first | exact RVal.nil | (apply RVal.tmp; exact rfl) | (apply RVal.cellN; exact rfl; exact rfl; (first | exact sz_26); apply RdN.own; (focus ((repeat (first | exact Has.here | apply Has.there)); done)); (focus ((repeat (first | exact GetN.nil | (apply GetN.cons; exact rfl))); done))) | (apply RVal.cell1; exact rfl; exact rfl; apply RdN.own; (focus ((repeat (first | exact Has.here | apply Has.there)); done)); exact GetN.cons rfl GetN.nil)))) (by (repeat (first | exact Pick.nil | (apply Pick.cons; (focus ((repeat (first | exact Spl.here | apply Spl.there)); done))) | exact Pick.refl))) ?_
          rw [hbal] at h3
          have hlow : lowB bal l[k] = true := by
            cases hlo : lowB bal l[k] with
            | true => rfl
            | false => rw [hlo] at h3; simp at h3
          rw [i6, if_neg (by simp [h1]), if_neg (by omega), if_pos hlow]
          exact LedRes.zero 17
        · have h3' := h3
          rw [hbal] at h3'
          have hlow : lowB bal l[k] = false := by
            cases hlo : lowB bal l[k] with
            | false => rfl
            | true => rw [hlo] at h3'; simp at h3'
          rw [hlow] at h3'
          have hb : postL bal l[k] = bal' := by simpa using h3'
          have hlen : bal'.length = N := by rw [← hb, postL_length]; exact i2
          refine ⟨⟨k + 1, bal', ents ++ [l[k]], r1', A1', c1', sp1', r2', A2', c2', sp2'⟩, ⟨by (repeat (first | exact trivial | refine And.intro rfl ?_)), View.le.refl _, ?_, ⟨?_, ?_, ?_, ?_, ?_, ?_, ?_, ?_, ?_⟩, by simp only; omega⟩⟩
          · dsimp only
            rw [hlen]
            (repeat (first | exact Pick.nil | (apply Pick.cons; (focus ((repeat (first | exact Spl.here | apply Spl.there)); done))) | exact Pick.refl))
          · simp only; omega
          · exact hlen
          · simp [i3]
          · simp only; omega
          · exact h3
          · intro i h
            by_cases hi : i < ents.length
            · simp only [List.getElem_append_left hi]; exact i5 i hi
            · simp only [List.length_append, List.length_singleton] at h
              have : i = ents.length := by omega
              subst this
              simpa using h1
          · rw [hlen] at so1'; exact so1'
          · exact so2'
          · dsimp only
            rw [i6, if_neg (by simp [h1]), if_neg (by omega), if_neg (by simp [hlow]), hb]
    · have ek : k = l.length := by omega
      repeat' first
        | apply cw_seq
        | (refine cw_region_id 5 ?_; (apply ol_mv; exact rfl; exact rfl); (apply ol_mv; exact rfl; exact rfl); (apply ol_val; exact rfl; apply stp_pur; apply s_len; exact rfl; exact el_22); (apply ol_val; exact rfl; apply stp_cmp; apply s_lss; exact rfl; exact rfl; all_goals (intro _; try (exfalso; (first | (rename_i hh; exact hh rfl) | omega); done))); all_goals (apply ol_nil))
        | (refine cw_draw (id := 7) 12 (.mv 0 (.mv 1 (.mv 2 (.mv 3 (.mv 4 (.br 5 (.mv 6 (.mv 7 (.mv 8 (.fx 9 (.fx 10 (.mv 11 (PT.nil))))))) 9 (.fx 5 (.mv 6 (.mv 7 (.mv 8 (.fx 10 (.mv 11 (PT.nil))))))))))))) mixed (by kernel_rfl) ?_; (apply od_mv; exact rfl; exact rfl; apply s_loadN; exact rfl; exact rfl; exact sz_26; (apply RdN.own; (focus ((repeat constructor); done)); (focus ((repeat (first | exact rfl | constructor)); done)))); (apply od_mv; exact rfl; exact rfl; apply s_move; exact rfl); (apply od_mv; exact rfl; exact rfl; apply s_move; exact rfl); (first | (apply od_mv; exact rfl; exact rfl; apply s_indexK; exact rfl; exact rfl; exact el_22; exact sz_34; (first | exact rfl); omega) | (apply od_mv; exact rfl; exact rfl; apply s_indexO; exact rfl; exact rfl; exact el_22; exact sz_34; (first | exact rfl); omega)); (apply od_mv; exact rfl; exact rfl; apply s_loadN; exact rfl; exact rfl; exact sz_34; (apply RdN.own; (focus ((repeat constructor); done)); (focus ((repeat (first | exact rfl | constructor)); done)))); (apply od_br; (first | exact Wk.refl _ _ | (focus (apply Wk.mk; exact View.le.refl _; (repeat constructor); done)))); all_goals (first | (refine fx_at 5 ?_; (fail); (apply od_mv; exact rfl; exact rfl; apply s_move; exact rfl); (apply od_mv; exact rfl; exact rfl; apply s_extract; exact rfl; exact rfl); (apply od_mv; exact rfl; exact rfl; apply s_extract; exact rfl; exact rfl); (apply od_fx; (first | exact Wk.refl _ _ | (focus (apply Wk.mk; exact View.le.refl _; (repeat constructor); done))); (apply fx_val; exact rfl; exact rfl; apply s_alloc; exact zb_26; (focus ((repeat constructor); done)); intro _)); (apply od_fx; (first | exact Wk.refl _ _ | (focus (apply Wk.mk; exact View.le.refl _; (repeat constructor); done))); (apply fx_eff; exact rfl; apply s_storeN; exact rfl; exact rfl; exact sz_26; exact rfl; exact rfl; (focus ((repeat constructor); done)); (focus ((repeat constructor); done)))); (apply od_mv; exact rfl; exact rfl; apply s_assign; exact rfl); (apply od_nil; (first | exact Wk.refl _ _ | (focus (apply Wk.mk; exact View.le.refl _; (repeat constructor); done)))); (apply ol_nil)) | (refine fx_at 9 ?_; (apply fx_val; exact rfl; exact rfl; apply s_alloc; exact zb_26; (focus ((repeat constructor); done)); intro _))))
        | (refine cw_region_id 8 ?_; (apply ol_mv; exact rfl; exact rfl); (apply ol_val; exact rfl; apply stp_cmp; apply s_neq; exact rfl; exact rfl; all_goals (intro _; try (exfalso; (first | (rename_i hh; exact hh rfl) | omega); done))); all_goals (apply ol_nil))
        | (refine cw_region_id 9 ?_; (apply ol_val; exact rfl; apply stp_pur; apply s_buildS; exact rfl; exact fs_26; exact zb_26; (focus ((repeat (first | exact rfl | constructor)); done))); (apply ol_mv; exact rfl; exact rfl); (apply ol_eff; apply s_storeN; exact rfl; exact rfl; exact sz_26; exact rfl; exact rfl; (focus ((repeat constructor); done)); (focus ((repeat constructor); done))); (apply ol_as; exact rfl; exact rfl); (apply ol_nil))
        | (refine cw_region_id 10 ?_; (apply ol_ldN; exact rfl; exact rfl; exact rfl; exact sz_26; (apply RdN.own; (focus ((repeat constructor); done)); (focus ((repeat (first | exact rfl | constructor)); done)))); (apply ol_eff; apply s_storeN; exact rfl; exact rfl; exact sz_26; exact rfl; exact rfl; (focus ((repeat constructor); done)); (focus ((repeat constructor); done))); (apply ol_nil))
        | (refine cw_region_id 6 ?_; (apply ol_mv; exact rfl; exact rfl); (apply ol_val; exact rfl; apply stp_pur; apply s_add64; exact rfl; exact rfl; omega); (apply ol_as; exact rfl; exact rfl); (apply ol_nil))
        | (refine cw_region_id 11 ?_; (apply ol_ldN; exact rfl; exact rfl; exact rfl; exact sz_26; (apply RdN.own; (focus ((repeat constructor); done)); (focus ((repeat (first | exact rfl | constructor)); done)))); (apply ol_eff; apply s_storeN; exact rfl; exact rfl; exact sz_26; exact rfl; exact rfl; (focus ((repeat constructor); done)); (focus ((repeat constructor); done))); (apply ol_as; exact rfl; exact rfl); (apply ol_nil))
        | (apply cw_cond_true; exact rfl; (first | exact rfl | assumption))
        | (apply cw_cond_false; exact rfl; (first | exact rfl | assumption))
        | apply cw_skip
        | apply cw_ret
        | apply cw_block
        | apply cw_exit
      refine ends [⟨r1, ints bal ++ sp1, 3⟩, ⟨r2, flat Ent.enc ents ++ sp2, 34⟩] (by (repeat (first | exact RVal.nil | (apply RVal.tmp; exact rfl) | (apply RVal.cellN; exact rfl; exact rfl; (first | exact sz_26); apply RdN.own; (focus ((repeat (first | exact Has.here | apply Has.there)); done)); (focus ((repeat (first | exact GetN.nil | (apply GetN.cons; exact rfl))); done))) | (apply RVal.cell1; exact rfl; exact rfl; apply RdN.own; (focus ((repeat (first | exact Has.here | apply Has.there)); done)); exact GetN.cons rfl GetN.nil)))) (by (repeat (first | exact Pick.nil | (apply Pick.cons; (focus ((repeat (first | exact Spl.here | apply Spl.there)); done))) | exact Pick.refl))) ?_
      have hd : l.drop k = [] := List.drop_eq_nil_of_le (by omega)
      rw [i6, hd]
      simp only [replayM]
      refine ⟨r1, A1, c1, sp1, r2, A2, c2, sp2, ?_, rfl, ?_, so2⟩
      · rw [i2]; rfl
      · rw [i2]; exact so1
  · have hR : Replay n l = ([], [], 2) := by unfold Replay; rw [if_neg hn]
    rw [hR]
    have hA : decide (5 ≤ n ∧ n ≤ 105) = false := decide_eq_false hn
    repeat' first
      | apply cw_seq
      | (refine cw_region_id 0 ?_; (apply ol_val; exact rfl; apply s_alloc; exact zb_26; (focus ((repeat constructor); done)); intro _); (apply ol_as; exact rfl; exact rfl); (apply ol_nil))
      | (refine cw_region_id 1 ?_; (apply ol_mv; exact rfl; exact rfl); (apply ol_val; exact rfl; apply s_callv; exact rfl; exact gf_18; (intro w' hw'; exact accounts_spec _ _)); (first | (apply ol_val; exact rfl; apply stp_pur; apply s_not_t; exact rfl; (first | exact rfl | assumption)) | (apply ol_val; exact rfl; apply stp_pur; apply s_not_f; exact rfl; (first | exact rfl | assumption)) | (apply ol_val; exact rfl; apply stp_pur; apply s_not; exact rfl)); (apply ol_nil))
      | (refine cw_region_id 2 ?_; (apply ol_val; exact rfl; apply stp_pur; apply s_buildS; exact rfl; exact fs_26; exact zb_26; (focus ((repeat (first | exact rfl | constructor)); done))); (apply ol_eff; apply s_storeN; exact rfl; exact rfl; exact sz_26; exact rfl; exact rfl; (focus ((repeat constructor); done)); (focus ((repeat constructor); done))); (apply ol_as; exact rfl; exact rfl); (apply ol_nil))
      | (refine cw_region_id 3 ?_; (apply ol_mv; exact rfl; exact rfl); (apply ol_val; exact rfl; apply s_makeB; exact rfl; exact rfl; exact el_24; exact sz_3; exact zb_3; exact rfl; exact by_3; omega; omega; omega; intro _); (apply ol_val; exact rfl; apply stp_pur; apply s_buildS; exact rfl; exact fs_26; exact zb_26; (focus ((repeat (first | exact rfl | constructor)); done))); (apply ol_val; exact rfl; apply s_alloc; exact zb_26; (focus ((repeat constructor); done)); intro _); (apply ol_eff; apply s_storeN; exact rfl; exact rfl; exact sz_26; exact rfl; exact rfl; (focus ((repeat constructor); done)); (focus ((repeat constructor); done))); (apply ol_nil))
      | (refine cw_region_id 4 ?_; (apply ol_as; exact rfl; exact rfl); (apply ol_nil))
      | (apply cw_cond_true; exact rfl; (first | exact rfl | assumption))
      | (apply cw_cond_false; exact rfl; (first | exact rfl | assumption))
      | apply cw_skip
      | apply cw_ret
      | apply cw_block
      | apply cw_exit
    refine ends [⟨none, [], 3⟩, ⟨none, [], 34⟩] (by (repeat (first | exact RVal.nil | (apply RVal.tmp; exact rfl) | (apply RVal.cellN; exact rfl; exact rfl; (first | exact sz_26); apply RdN.own; (focus ((repeat (first | exact Has.here | apply Has.there)); done)); (focus ((repeat (first | exact GetN.nil | (apply GetN.cons; exact rfl))); done))) | (apply RVal.cell1; exact rfl; exact rfl; apply RdN.own; (focus ((repeat (first | exact Has.here | apply Has.there)); done)); exact GetN.cons rfl GetN.nil)))) (by (repeat (first | exact Pick.nil | (apply Pick.cons; (focus ((repeat (first | exact Spl.here | apply Spl.there)); done))) | exact Pick.refl))) ?_
    exact LedRes.zero 2
end Go.Proofs.Ytmgmpgccnohpkaa
