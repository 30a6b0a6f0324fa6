/-
  The walks of Saved and of the chapter's examples.
-/
import Derived.Test.YtidjoikheklpiaaL3
namespace Go.Proofs.Ytidjoikheklpiaa
set_option maxRecDepth 20000
set_option linter.unusedSimpArgs false
set_option linter.unusedVariables false
open Go Go.Fw
attribute [local irreducible] CW OL OD FX Stp FnC Ret
set_option maxHeartbeats 8000000

theorem okC_wide {n n' m : Int} {c : C3} (h : okC n m c = true) (hn : n ≤ n') : okC n' m c = true := by
  have := okC_spec h
  exact decide_eq_true (by omega)
theorem claimsB_8 {n : Int} {l : List C3} (h : claimsB n l = true) : claimsB 8 l = true := by
  obtain ⟨g1, g2, g3, g4⟩ := claimsB_spec h
  unfold claimsB
  rw [decide_eq_true ⟨by omega, by omega, g3⟩, Bool.true_and, List.all_eq_true]
  intro x hx
  exact okC_wide (g4 x hx) g2

theorem saved_spec {M : View} {w : World} (hM : View.le M (View.of w)) {l : List C3} {n : Int} {m : Nat} (hm : l.length = m) {x e : Int} (hr : (if claimsB n l = true then (total l - total (settle (posAll n.toNat l)), (0 : Int)) else (0, 1)) = (x, e)) {a : Option Addr} {b o c : Nat} (s : SlA M C3.enc 3 a l b o) (hl : l.length ≤ 4611686018427387904) :
    FnC Try.prog 25 [.int .i64 n, .slice a m c] w (fun v _ => v = .tuple #[.int .i64 x, .int .i64 e]) := by
  subst hm
  refine enterF (M := M) Try.func25 rfl rfl rfl rfl hM ?_
  cases hc : claimsB n l with
  | false =>
    rw [hc] at hr
    obtain ⟨rfl, rfl⟩ := Prod.mk.inj hr
    have hp : (if claimsB n l = true then (posAll n.toNat l, (0 : Int)) else ([], 1)) = ([], 1) := by rw [hc]; rfl
    repeat' first
      | apply cw_seq
      | (refine cw_region_id 0 ?_; (apply ol_as; exact rfl; exact rfl); (apply ol_as; exact rfl; exact rfl); (apply ol_nil))
      | (refine cw_region_id 1 ?_; (apply ol_mv; exact rfl; exact rfl); (apply ol_mv; exact rfl; exact rfl); (apply ol_val; exact rfl; apply s_call; exact rfl; exact gf_22; (intro w' hw'; exact positions_spec (View.le.refl (View.of w')) rfl hp (s.mono hw'.le) hl); ((intro v new h; obtain ⟨r1, A1, c1, sp1, rfl, rfl, so1⟩ := h))); (apply ol_mv; exact rfl; exact rfl); (apply ol_ex; exact rfl; exact rfl; exact rfl); (apply ol_ex; exact rfl; exact rfl; exact rfl); (apply ol_as; exact rfl; exact rfl); (apply ol_as; exact rfl; exact rfl); (apply ol_nil))
      | (refine cw_region_id 2 ?_; (apply ol_mv; exact rfl; exact rfl); (apply ol_val; exact rfl; apply stp_cmp; apply s_neq; exact rfl; exact rfl; all_goals (intro hc19; try (exfalso; (first | exact hc19 rfl | omega)))); all_goals (apply ol_nil))
      | (refine cw_region_id 3 ?_; (apply ol_mv; exact rfl; exact rfl); (apply ol_as; exact rfl; exact rfl); (apply ol_as; exact rfl; exact rfl); (apply ol_nil))
      | (refine cw_region_id 4 ?_; (apply ol_mv; exact rfl; exact rfl))
      | (refine cw_region_id 5 ?_; (apply ol_mv; exact rfl; exact rfl); (apply ol_val; exact rfl; apply stp_cmp; apply s_neq; exact rfl; exact rfl; all_goals (intro hc27; try (exfalso; (first | exact hc27 rfl | omega)))); all_goals (apply ol_nil))
      | (refine cw_region_id 6 ?_; (apply ol_mv; exact rfl; exact rfl); (apply ol_as; exact rfl; exact rfl); (apply ol_as; exact rfl; exact rfl); (apply ol_nil))
      | (refine cw_region_id 7 ?_; (apply ol_mv; exact rfl; exact rfl))
      | (refine cw_region_id 8 ?_; (apply ol_mv; exact rfl; exact rfl); (apply ol_val; exact rfl; apply stp_pur; apply s_len; exact rfl; exact el_23); (apply ol_mv; exact rfl; exact rfl); (apply ol_nil))
      | (apply cw_cond_true; exact rfl; (first | exact rfl | assumption))
      | (apply cw_cond_false; exact rfl; (first | exact rfl | assumption))
      | apply cw_skip
      | apply cw_ret
      | apply cw_block
      | apply cw_exit
    refine ends [] (RVal.tmp rfl (RVal.tmp rfl RVal.nil)) (by (repeat (first | exact Pick.nil | (apply Pick.cons; (focus ((repeat (first | exact Spl.here | apply Spl.there)); done))) | exact Pick.refl))) ?_
    rfl
  | true =>
    rw [hc, if_pos rfl] at hr
    obtain ⟨rfl, rfl⟩ := Prod.mk.inj hr
    obtain ⟨g1, g2, g3, g4⟩ := claimsB_spec hc
    obtain ⟨N, rfl⟩ := Int.eq_ofNat_of_zero_le (show 0 ≤ n by omega)
    have hp : (if claimsB N l = true then (posAll ((N : Nat) : Int).toNat l, (0 : Int)) else ([], 1)) = (posAll N l, 0) := by rw [hc]; rfl
    rw [show ((N : Nat) : Int).toNat = N from rfl]
    have hv := posAll_posB hc
    have hlen := posAll_length N l
    have hs : (if claimsB 8 l = true then (total l, (0 : Int)) else (0, 1)) = (total l, 0) := by rw [claimsB_8 hc]; rfl
    have hok := settle_ok hv
    have hfew := settle_few hv
    have htot := total_small g4
    generalize posAll N l = P at *
    obtain ⟨T, hT⟩ : ∃ T, settle P = T := ⟨_, rfl⟩
    rw [hT] at hok hfew ⊢
    have ht : (if posB P = true then (settle P, (0 : Int)) else ([], 1)) = (T, 0) := by rw [hv, hT]; rfl
    repeat' first
      | apply cw_seq
      | (refine cw_region_id 0 ?_; (apply ol_as; exact rfl; exact rfl); (apply ol_as; exact rfl; exact rfl); (apply ol_nil))
      | (refine cw_region_id 1 ?_; (apply ol_mv; exact rfl; exact rfl); (apply ol_mv; exact rfl; exact rfl); (apply ol_val; exact rfl; apply s_call; exact rfl; exact gf_22; (intro w' hw'; exact positions_spec (View.le.refl (View.of w')) rfl hp (s.mono hw'.le) hl); ((intro v new h; obtain ⟨r1, A1, c1, sp1, rfl, rfl, so1⟩ := h))); (apply ol_mv; exact rfl; exact rfl); (apply ol_ex; exact rfl; exact rfl; exact rfl); (apply ol_ex; exact rfl; exact rfl; exact rfl); (apply ol_as; exact rfl; exact rfl); (apply ol_as; exact rfl; exact rfl); (apply ol_nil))
      | (refine cw_region_id 2 ?_; (apply ol_mv; exact rfl; exact rfl); (apply ol_val; exact rfl; apply stp_cmp; apply s_neq; exact rfl; exact rfl; all_goals (intro hc19; try (exfalso; (first | exact hc19 rfl | omega)))); all_goals (apply ol_nil))
      | (refine cw_region_id 3 ?_; (apply ol_mv; exact rfl; exact rfl); (apply ol_as; exact rfl; exact rfl); (apply ol_as; exact rfl; exact rfl); (apply ol_nil))
      | (refine cw_region_id 4 ?_; (apply ol_mv; exact rfl; exact rfl); (apply ol_val; exact rfl; apply s_call; exact rfl; exact gf_9; (intro w' hw'; exact transfers_spec (View.le.refl (View.of w')) rfl ht (SlA.ownInts (xs := P) (hw'.ok_ (by (repeat (first | exact Has.here | apply Has.there)))) (fun h => SO.empI (by assumption) h)) (by omega)); ((intro v new h; obtain ⟨r2, A2, c2, sp2, rfl, rfl, so2⟩ := h))); (apply ol_mv; exact rfl; exact rfl); (apply ol_ex; exact rfl; exact rfl; exact rfl); (apply ol_ex; exact rfl; exact rfl; exact rfl); (apply ol_as; exact rfl; exact rfl); (apply ol_as; exact rfl; exact rfl); (apply ol_nil))
      | (refine cw_region_id 5 ?_; (apply ol_mv; exact rfl; exact rfl); (apply ol_val; exact rfl; apply stp_cmp; apply s_neq; exact rfl; exact rfl; all_goals (intro hc27; try (exfalso; (first | exact hc27 rfl | omega)))); all_goals (apply ol_nil))
      | (refine cw_region_id 6 ?_; (apply ol_mv; exact rfl; exact rfl); (apply ol_as; exact rfl; exact rfl); (apply ol_as; exact rfl; exact rfl); (apply ol_nil))
      | (refine cw_region_id 7 ?_; (apply ol_mv; exact rfl; exact rfl); (apply ol_val; exact rfl; apply s_callv; exact rfl; exact gf_24; (intro w' hw'; exact sum_spec (View.le.refl (View.of w')) rfl hs (s.mono hw'.le) hl)); (apply ol_mv; exact rfl; exact rfl); (apply ol_ex; exact rfl; exact rfl; exact rfl); (apply ol_ex; exact rfl; exact rfl; exact rfl); (apply ol_as; exact rfl; exact rfl); (apply ol_as; exact rfl; exact rfl); (apply ol_nil))
      | (refine cw_region_id 8 ?_; (apply ol_mv; exact rfl; exact rfl); (apply ol_val; exact rfl; apply stp_pur; apply s_len; exact rfl; exact el_23); (apply ol_mv; exact rfl; exact rfl); (apply ol_nil))
      | (apply cw_cond_true; exact rfl; (first | exact rfl | assumption))
      | (apply cw_cond_false; exact rfl; (first | exact rfl | assumption))
      | apply cw_skip
      | apply cw_ret
      | apply cw_block
      | apply cw_exit
    refine cw_loopK (σ := Nat) [7, 34, 35] (by (repeat (first | exact Keep.nil | (apply Keep.cons; exact rfl)))) (fun k => [(9, .int .i64 (total l - total (T.take k))), (36, .int .i64 k)]) (fun _ => M) (fun _ => [⟨r2, flat C3.enc T ++ sp2, 33⟩]) (fun k => k ≤ T.length) (fun k => T.length - k) 0 (by rw [List.take_zero, show total ([] : List C3) = 0 from rfl, Int.sub_zero]; (repeat (first | exact trivial | refine And.intro rfl ?_))) (View.le.refl _) (by (repeat (first | exact Pick.nil | (apply Pick.cons; (focus ((repeat (first | exact Spl.here | apply Spl.there)); done))) | exact Pick.refl))) (by omega) ?_
    intro k hk
    have hsm := total_small (l := T.take k) (fun x hx => (hok x (List.mem_of_mem_take hx)).1)
    rw [List.length_take, Nat.min_eq_left hk] at hsm
    by_cases hk' : k < T.length
    · have hx := okC_spec (hok T[k] (List.getElem_mem _)).1
      have hst := total_step hk'
      repeat' first
        | apply cw_seq
        | (refine cw_region_id 9 ?_; (apply ol_val; exact rfl; apply stp_cmp; apply s_lss; exact rfl; exact rfl; all_goals (intro hc37; try (exfalso; (first | exact hc37 rfl | omega)))); all_goals (apply ol_nil))
        | (refine cw_region_id 10 ?_; (apply ol_val; exact rfl; apply stp_pur; first | (apply s_indexK; exact rfl; exact rfl; exact el_23; exact sz_33; (first | exact rfl | exact some_base so2 (by omega)); omega) | (apply s_indexO; exact rfl; exact rfl; exact el_23; exact sz_33; (first | exact rfl | exact some_base so2 (by omega)); omega)); (apply ol_ldN; exact rfl; exact rfl; exact rfl; exact sz_33; (first | (apply RdN.own; (focus ((repeat constructor); done)); (focus ((repeat (first | exact rfl | constructor)); done))) | (apply RdN.ownr (r := r2) (hr := some_ref so2 (by omega)); (repeat (first | exact Has.here | apply Has.there)); exact getN_flat C3.enc_length hk'))); (apply ol_val; exact rfl; apply s_alloc; exact zb_33; (focus ((repeat constructor); done)); intro bk11); (apply ol_eff; apply s_storeN; exact rfl; exact rfl; exact sz_33; exact rfl; exact rfl; (focus ((repeat constructor); done)); (focus ((repeat constructor); done))); (apply ol_nil))
        | (refine cw_region_id 11 ?_; (apply ol_mv; exact rfl; exact rfl); (apply ol_fa; exact rfl; exact rfl; exact fd_33_2; (first | exact Nat.zero_add _ | exact Nat.add_zero _ | exact rfl)); (apply ol_ld; exact rfl; exact rfl; exact rfl; (first | (apply RdN.own; (focus ((repeat constructor); done)); (first | exact GetN.cons rfl GetN.nil | (apply getN_ints_app; (first | omega | (simp; omega) | (simp; done))) | (apply getN_ints; (first | omega | (simp; omega) | (simp; done))))) | (apply RdN.ownr (r := r2) (hr := some_ref so2 (by omega)); (repeat (first | exact Has.here | apply Has.there)); exact getN_flat C3.enc_length hk'))); (apply ol_val; exact rfl; apply stp_pur; apply s_sub64; exact rfl; exact rfl; omega); (apply ol_as; exact rfl; exact rfl); (apply ol_nil))
        | (refine cw_region_id 12 ?_; (apply ol_val; exact rfl; apply stp_pur; apply s_add64; exact rfl; exact rfl; omega); (apply ol_mv; exact rfl; exact rfl); (apply ol_nil))
        | (refine cw_region_id 13 ?_; (apply ol_mv; exact rfl; exact rfl); (apply ol_mv; exact rfl; exact rfl); (apply ol_as; exact rfl; exact rfl); (apply ol_as; exact rfl; exact rfl); (apply ol_nil))
        | (apply cw_cond_true; exact rfl; (first | exact rfl | assumption))
        | (apply cw_cond_false; exact rfl; (first | exact rfl | assumption))
        | apply cw_skip
        | apply cw_ret
        | apply cw_block
        | apply cw_exit
      refine ⟨k + 1, ⟨?_, View.le.refl _, by (repeat (first | exact Pick.nil | (apply Pick.cons; (focus ((repeat (first | exact Spl.here | apply Spl.there)); done))) | exact Pick.refl)), hk', by omega⟩⟩
      rw [hst, ← Int.sub_sub]
      (repeat (first | exact trivial | refine And.intro rfl ?_))
    · have : k = T.length := by omega
      subst this
      rw [List.take_length]
      repeat' first
        | apply cw_seq
        | (refine cw_region_id 9 ?_; (apply ol_val; exact rfl; apply stp_cmp; apply s_lss; exact rfl; exact rfl; all_goals (intro hc37; try (exfalso; (first | exact hc37 rfl | omega)))); all_goals (apply ol_nil))
        | (refine cw_region_id 10 ?_; (apply ol_val; exact rfl; apply stp_pur; first | (apply s_indexK; exact rfl; exact rfl; exact el_23; exact sz_33; (first | exact rfl); omega) | (apply s_indexO; exact rfl; exact rfl; exact el_23; exact sz_33; (first | exact rfl); omega)); (apply ol_ldN; exact rfl; exact rfl; exact rfl; exact sz_33; (apply RdN.own; (focus ((repeat constructor); done)); (focus ((repeat (first | exact rfl | constructor)); done)))); (apply ol_val; exact rfl; apply s_alloc; exact zb_33; (focus ((repeat constructor); done)); intro bk11); (apply ol_eff; apply s_storeN; exact rfl; exact rfl; exact sz_33; exact rfl; exact rfl; (focus ((repeat constructor); done)); (focus ((repeat constructor); done))); (apply ol_nil))
        | (refine cw_region_id 11 ?_; (apply ol_mv; exact rfl; exact rfl); (apply ol_fa; exact rfl; exact rfl; exact fd_33_2; (first | exact Nat.zero_add _ | exact Nat.add_zero _ | exact rfl)); (apply ol_ld; exact rfl; exact rfl; exact rfl; (apply RdN.own; (focus ((repeat constructor); done)); (first | exact GetN.cons rfl GetN.nil | (apply getN_ints_app; (first | omega | (simp; omega) | (simp; done))) | (apply getN_ints; (first | omega | (simp; omega) | (simp; done)))))); (apply ol_val; exact rfl; apply stp_pur; apply s_sub64; exact rfl; exact rfl; omega); (apply ol_as; exact rfl; exact rfl); (apply ol_nil))
        | (refine cw_region_id 12 ?_; (apply ol_val; exact rfl; apply stp_pur; apply s_add64; exact rfl; exact rfl; omega); (apply ol_mv; exact rfl; exact rfl); (apply ol_nil))
        | (refine cw_region_id 13 ?_; (apply ol_mv; exact rfl; exact rfl); (apply ol_mv; exact rfl; exact rfl); (apply ol_as; exact rfl; exact rfl); (apply ol_as; exact rfl; exact rfl); (apply ol_nil))
        | (apply cw_cond_true; exact rfl; (first | exact rfl | assumption))
        | (apply cw_cond_false; exact rfl; (first | exact rfl | assumption))
        | apply cw_skip
        | apply cw_ret
        | apply cw_block
        | apply cw_exit
      refine ends [] (RVal.tmp rfl (RVal.tmp rfl RVal.nil)) Pick.nil ?_
      rfl

theorem awake_spec (w : World) : FnC Try.prog 8 [] w (fun v _ => v = .bool true) := by
  refine enterF (M := View.of w) Try.func8 rfl rfl rfl rfl (View.le.refl _) ?_
  generalize hL : ([⟨0, 1, 10⟩, ⟨1, 2, 10⟩, ⟨2, 0, 4⟩] : List C3) = L
  have h1 : (if claimsB 3 L = true then (posAll (3 : Int).toNat L, (0 : Int)) else ([], 1)) = ([-6, 0, 6], 0) := by subst hL; decide
  have h2 : (if claimsB 3 L = true then (total L - total (settle (posAll (3 : Int).toNat L)), (0 : Int)) else (0, 1)) = (18, 0) := by subst hL; decide
  have h3 : (if posB [-5, -5, 4, 6] = true then (settle [-5, -5, 4, 6], (0 : Int)) else ([], 1)) = ([⟨0, 3, 5⟩, ⟨1, 2, 4⟩, ⟨1, 3, 1⟩], 0) := by decide
  have hLl : L.length = 3 := by subst hL; rfl
  have sL : ∀ (w' : World) (b : Nat), OB.ok ⟨some b, [.int .i64 0, .int .i64 1, .int .i64 10, .int .i64 1, .int .i64 2, .int .i64 10, .int .i64 2, .int .i64 0, .int .i64 4], 57⟩ w' → SlA (View.of w') C3.enc 3 (some ⟨b, 0, none⟩) L b 0 := fun w' b h => by
    subst hL
    exact SlA.own (r := some b) (A := none) (sp := []) C3.enc_length h (fun h => by cases h)
  have sP : ∀ (w' : World) (b : Nat), OB.ok ⟨some b, [.int .i64 (-5), .int .i64 (-5), .int .i64 4, .int .i64 6], 3⟩ w' → SlA (View.of w') enc1 1 (some ⟨b, 0, none⟩) [-5, -5, 4, 6] b 0 := fun w' b h => SlA.ownInts (r := some b) (A := none) (sp := []) h (fun h => by cases h)
  have sQ : ∀ (w' : World) (b : Nat), OB.ok ⟨some b, [.int .i64 (-6), .int .i64 0, .int .i64 6], 3⟩ w' → SlA (View.of w') enc1 1 (some ⟨b, 0, none⟩) [-6, 0, 6] b 0 := fun w' b h => SlA.ownInts (r := some b) (A := none) (sp := []) h (fun h => by cases h)
  have sT : ∀ (w' : World) (b : Nat), OB.ok ⟨some b, [.int .i64 0, .int .i64 3, .int .i64 5, .int .i64 1, .int .i64 2, .int .i64 4, .int .i64 1, .int .i64 3, .int .i64 1], 33⟩ w' → SlA (View.of w') C3.enc 3 (some ⟨b, 0, none⟩) [⟨0, 3, 5⟩, ⟨1, 2, 4⟩, ⟨1, 3, 1⟩] b 0 := fun w' b h => SlA.own (r := some b) (A := none) (sp := []) C3.enc_length h (fun h => by cases h)
  repeat' first
    | apply cw_seq
    | (refine cw_region_id 0 ?_; (apply ol_as; exact rfl; exact rfl); (apply ol_nil))
    | (refine cw_region_id 1 ?_; (apply ol_val; exact rfl; apply stp_pur; apply s_buildS; exact rfl; exact fs_57; exact zb_57; (focus ((repeat (first | exact rfl | constructor)); done))); (apply ol_val; exact rfl; apply stp_pur; apply s_buildS; exact rfl; exact fs_57; exact zb_57; (focus ((repeat (first | exact rfl | constructor)); done))); (apply ol_val; exact rfl; apply stp_pur; apply s_buildS; exact rfl; exact fs_57; exact zb_57; (focus ((repeat (first | exact rfl | constructor)); done))); (apply ol_val; exact rfl; apply s_buildSl; exact rfl; exact el_45; exact sz_57; exact zb_57; (focus ((repeat constructor); done)); exact rfl; exact rfl; (exact Nat.le_of_ble_eq_true rfl); (focus ((repeat constructor); done)); (focus ((repeat (first | exact Fil.nil | (apply Fil.one; exact rfl; exact rfl; (repeat (first | exact SetAt.zero | apply SetAt.succ))) | (apply Fil.agg; exact rfl; exact rfl; (repeat (first | exact SetN.nil | (apply SetN.cons; (repeat (first | exact SetAt.zero | apply SetAt.succ))))); (exact Nat.le_of_ble_eq_true rfl)))); done)); intro bk11); (apply ol_as; exact rfl; exact rfl); (apply ol_nil))
    | (refine cw_region_id 2 ?_; (apply ol_mv; exact rfl; exact rfl); (apply ol_val; exact rfl; apply s_call; exact rfl; exact gf_22; (intro w' hw'; exact positions_spec (View.le.refl (View.of w')) hLl h1 (sL _ _ (hw'.ok_ (by (repeat (first | exact Has.here | apply Has.there))))) (by omega)); ((intro v new h; obtain ⟨r1, A1, c1, sp1, rfl, rfl, so1⟩ := h))); (apply ol_mv; exact rfl; exact rfl); (apply ol_ex; exact rfl; exact rfl; exact rfl); (apply ol_ex; exact rfl; exact rfl; exact rfl); (apply ol_as; exact rfl; exact rfl); (apply ol_as; exact rfl; exact rfl); (apply ol_nil))
    | (refine cw_region_id 3 ?_; (apply ol_mv; exact rfl; exact rfl); (apply ol_val; exact rfl; apply s_callv; exact rfl; exact gf_25; (intro w' hw'; exact saved_spec (View.le.refl (View.of w')) hLl h2 (sL _ _ (hw'.ok_ (by (repeat (first | exact Has.here | apply Has.there))))) (by omega))); (apply ol_mv; exact rfl; exact rfl); (apply ol_ex; exact rfl; exact rfl; exact rfl); (apply ol_ex; exact rfl; exact rfl; exact rfl); (apply ol_as; exact rfl; exact rfl); (apply ol_as; exact rfl; exact rfl); (apply ol_nil))
    | (refine cw_region_id 4 ?_; (apply ol_val; exact rfl; apply s_buildSl; exact rfl; exact el_22; exact sz_3; exact zb_3; (focus ((repeat constructor); done)); exact rfl; exact rfl; (exact Nat.le_of_ble_eq_true rfl); (focus ((repeat constructor); done)); (focus ((repeat (first | exact rfl | constructor)); done)); intro bk23); (apply ol_val; exact rfl; apply s_call; exact rfl; exact gf_9; (intro w' hw'; exact transfers_spec (View.le.refl (View.of w')) rfl h3 (sP _ _ (hw'.ok_ (by (repeat (first | exact Has.here | apply Has.there))))) (by simp)); ((intro v new h; obtain ⟨r2, A2, c2, sp2, rfl, rfl, so2⟩ := h))); (apply ol_mv; exact rfl; exact rfl); (apply ol_ex; exact rfl; exact rfl; exact rfl); (apply ol_ex; exact rfl; exact rfl; exact rfl); (apply ol_as; exact rfl; exact rfl); (apply ol_as; exact rfl; exact rfl); (apply ol_nil))
    | (refine cw_region_id 5 ?_; (apply ol_mv; exact rfl; exact rfl); (apply ol_val; exact rfl; apply stp_cmp; apply s_eql; exact rfl; exact rfl; all_goals (intro hc28; try (exfalso; (first | exact hc28 rfl | omega)))); all_goals (apply ol_mv; exact rfl; exact rfl); all_goals (first | (apply ol_gskip; exact rfl; exact rfl; (first | exact rfl | assumption); exact rfl) | (apply ol_gval; exact rfl; exact rfl; exact rfl; (first | exact rfl | assumption); apply stp_pur; apply s_move; exact rfl)); all_goals (first | (apply ol_gskip; exact rfl; exact rfl; (first | exact rfl | assumption); exact rfl) | (apply ol_gval; exact rfl; exact rfl; exact rfl; (first | exact rfl | assumption); apply s_buildSl; exact rfl; exact el_22; exact sz_3; exact zb_3; (focus ((repeat constructor); done)); exact rfl; exact rfl; (exact Nat.le_of_ble_eq_true rfl); (focus ((repeat constructor); done)); (focus ((repeat (first | exact rfl | constructor)); done)); intro bk31)); all_goals (first | (apply ol_gskip; exact rfl; exact rfl; (first | exact rfl | assumption); exact rfl) | (apply ol_gval; exact rfl; exact rfl; exact rfl; (first | exact rfl | assumption); apply s_callv; exact rfl; exact gf_18; (intro w' hw'; exact eqInts_spec (View.le.refl (View.of w')) (xs := [-6, 0, 6]) (ys := [-6, 0, 6]) rfl rfl (decide_eq_true rfl) (SlA.ownInts (hw'.ok_ (by (repeat (first | exact Has.here | apply Has.there)))) (fun h => SO.empI (by assumption) h)) (sQ _ _ (hw'.ok_ (by (repeat (first | exact Has.here | apply Has.there))))) (by simp)))); all_goals (apply ol_val; exact rfl; apply stp_pur; first | (apply s_pick_t; exact rfl; (first | exact rfl | assumption); exact rfl) | (apply s_pick_f; exact rfl; (first | exact rfl | assumption); exact rfl)); all_goals (apply ol_mv; exact rfl; exact rfl); all_goals (first | (apply ol_gskip; exact rfl; exact rfl; (first | exact rfl | assumption); exact rfl) | (apply ol_gval; exact rfl; exact rfl; exact rfl; (first | exact rfl | assumption); apply stp_pur; apply s_move; exact rfl)); all_goals (first | (apply ol_gskip; exact rfl; exact rfl; (first | exact rfl | assumption); exact rfl) | (apply ol_gval; exact rfl; exact rfl; exact rfl; (first | exact rfl | assumption); apply stp_cmp; apply s_eql; exact rfl; exact rfl; all_goals (intro hc36; try (exfalso; (first | exact hc36 rfl | omega))))); all_goals (apply ol_val; exact rfl; apply stp_pur; first | (apply s_pick_t; exact rfl; (first | exact rfl | assumption); exact rfl) | (apply s_pick_f; exact rfl; (first | exact rfl | assumption); exact rfl)); all_goals (apply ol_mv; exact rfl; exact rfl); all_goals (first | (apply ol_gskip; exact rfl; exact rfl; (first | exact rfl | assumption); exact rfl) | (apply ol_gval; exact rfl; exact rfl; exact rfl; (first | exact rfl | assumption); apply stp_pur; apply s_move; exact rfl)); all_goals (first | (apply ol_gskip; exact rfl; exact rfl; (first | exact rfl | assumption); exact rfl) | (apply ol_gval; exact rfl; exact rfl; exact rfl; (first | exact rfl | assumption); apply stp_cmp; apply s_eql; exact rfl; exact rfl; all_goals (intro hc40; try (exfalso; (first | exact hc40 rfl | omega))))); all_goals (apply ol_val; exact rfl; apply stp_pur; first | (apply s_pick_t; exact rfl; (first | exact rfl | assumption); exact rfl) | (apply s_pick_f; exact rfl; (first | exact rfl | assumption); exact rfl)); all_goals (apply ol_mv; exact rfl; exact rfl); all_goals (first | (apply ol_gskip; exact rfl; exact rfl; (first | exact rfl | assumption); exact rfl) | (apply ol_gval; exact rfl; exact rfl; exact rfl; (first | exact rfl | assumption); apply stp_pur; apply s_move; exact rfl)); all_goals (first | (apply ol_gskip; exact rfl; exact rfl; (first | exact rfl | assumption); exact rfl) | (apply ol_gval; exact rfl; exact rfl; exact rfl; (first | exact rfl | assumption); apply stp_cmp; apply s_eql; exact rfl; exact rfl; all_goals (intro hc44; try (exfalso; (first | exact hc44 rfl | omega))))); all_goals (apply ol_val; exact rfl; apply stp_pur; first | (apply s_pick_t; exact rfl; (first | exact rfl | assumption); exact rfl) | (apply s_pick_f; exact rfl; (first | exact rfl | assumption); exact rfl)); all_goals (apply ol_mv; exact rfl; exact rfl); all_goals (first | (apply ol_gskip; exact rfl; exact rfl; (first | exact rfl | assumption); exact rfl) | (apply ol_gval; exact rfl; exact rfl; exact rfl; (first | exact rfl | assumption); apply stp_pur; apply s_move; exact rfl)); all_goals (first | (apply ol_gskip; exact rfl; exact rfl; (first | exact rfl | assumption); exact rfl) | (apply ol_gval; exact rfl; exact rfl; exact rfl; (first | exact rfl | assumption); apply stp_pur; apply s_buildS; exact rfl; exact fs_33; exact zb_33; (focus ((repeat (first | exact rfl | constructor)); done)))); all_goals (first | (apply ol_gskip; exact rfl; exact rfl; (first | exact rfl | assumption); exact rfl) | (apply ol_gval; exact rfl; exact rfl; exact rfl; (first | exact rfl | assumption); apply stp_pur; apply s_buildS; exact rfl; exact fs_33; exact zb_33; (focus ((repeat (first | exact rfl | constructor)); done)))); all_goals (first | (apply ol_gskip; exact rfl; exact rfl; (first | exact rfl | assumption); exact rfl) | (apply ol_gval; exact rfl; exact rfl; exact rfl; (first | exact rfl | assumption); apply stp_pur; apply s_buildS; exact rfl; exact fs_33; exact zb_33; (focus ((repeat (first | exact rfl | constructor)); done)))); all_goals (first | (apply ol_gskip; exact rfl; exact rfl; (first | exact rfl | assumption); exact rfl) | (apply ol_gval; exact rfl; exact rfl; exact rfl; (first | exact rfl | assumption); apply s_buildSl; exact rfl; exact el_23; exact sz_33; exact zb_33; (focus ((repeat constructor); done)); exact rfl; exact rfl; (exact Nat.le_of_ble_eq_true rfl); (focus ((repeat constructor); done)); (focus ((repeat (first | exact Fil.nil | (apply Fil.one; exact rfl; exact rfl; (repeat (first | exact SetAt.zero | apply SetAt.succ))) | (apply Fil.agg; exact rfl; exact rfl; (repeat (first | exact SetN.nil | (apply SetN.cons; (repeat (first | exact SetAt.zero | apply SetAt.succ))))); (exact Nat.le_of_ble_eq_true rfl)))); done)); intro bk51)); all_goals (first | (apply ol_gskip; exact rfl; exact rfl; (first | exact rfl | assumption); exact rfl) | (apply ol_gval; exact rfl; exact rfl; exact rfl; (first | exact rfl | assumption); apply s_callv; exact rfl; exact gf_12; (intro w' hw'; exact eqTr_spec (View.le.refl (View.of w')) (xs := [⟨0, 3, 5⟩, ⟨1, 2, 4⟩, ⟨1, 3, 1⟩]) (ys := [⟨0, 3, 5⟩, ⟨1, 2, 4⟩, ⟨1, 3, 1⟩]) rfl rfl (decide_eq_true rfl) (SlA.own C3.enc_length (hw'.ok_ (by (repeat (first | exact Has.here | apply Has.there)))) (fun h => SO.emp (by assumption) h)) (sT _ _ (hw'.ok_ (by (repeat (first | exact Has.here | apply Has.there))))) (by simp)))); all_goals (apply ol_val; exact rfl; apply stp_pur; first | (apply s_pick_t; exact rfl; (first | exact rfl | assumption); exact rfl) | (apply s_pick_f; exact rfl; (first | exact rfl | assumption); exact rfl)); all_goals (apply ol_as; exact rfl; exact rfl); all_goals (apply ol_nil))
    | (apply cw_cond_true; exact rfl; (first | exact rfl | assumption))
    | (apply cw_cond_false; exact rfl; (first | exact rfl | assumption))
    | apply cw_skip
    | apply cw_ret
    | apply cw_block
    | apply cw_exit
  refine ends [] (RVal.tmp rfl RVal.nil) Pick.nil ?_
  rfl
end Go.Proofs.Ytidjoikheklpiaa
