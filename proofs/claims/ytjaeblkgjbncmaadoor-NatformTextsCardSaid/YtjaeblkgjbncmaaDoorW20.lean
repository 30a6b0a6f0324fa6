/-
  Strings turned round.
-/
import Derived.Test.YtjaeblkgjbncmaaDoorW19
namespace Go.Proofs.YtjaeblkgjbncmaaDoor
set_option maxRecDepth 20000
set_option linter.unusedSimpArgs false
set_option linter.unusedVariables false
open Go Go.Fw
def dS : List Int := []
abbrev vS (x : List Int) : Value := .string (strOf x)
/-- The cells of a string. -/
abbrev eS (x : List Int) : List Value := [.string (strOf x)]
theorem eS_length (x : List Int) : (eS x).length = 1 := rfl
theorem flatS_length (X : List (List Int)) : (flat eS X).length = X.length := by
  rw [flat_length (sz := 1) eS_length, Nat.mul_one]
theorem flatS : ∀ (X : List (List Int)), flat eS X = X.map vS
  | [] => rfl
  | x :: X => by
    have := flatS X
    simp only [flat, List.flatMap_cons, List.map_cons] at *
    rw [this]
    rfl
theorem flatS_get {X : List (List Int)} {sp : List Value} {i off : Nat} (h : i < X.length) (e : off = i) : GetN ((flat eS X ++ sp)[·]?) off 1 [vS (X.getD i dS)] := by
  subst e
  refine .cons ?_ .nil
  show (flat eS X ++ sp)[off]? = _
  rw [List.getElem?_append_left (by rw [flatS_length]; exact h), flatS, List.getElem?_map, List.getElem?_eq_getElem h]
  simp [List.getD, List.getElem?_eq_getElem h]
theorem flatS_set {X : List (List Int)} {sp : List Value} {i off : Nat} {s : List Int} (e : off = i) (h : i < X.length) : SetAt (flat eS X ++ sp) off (vS s) (flat eS (X.set i s) ++ sp) := by
  subst e
  have := SetAt.set (l := flat eS X ++ sp) (n := off) (v := vS s) (by rw [List.length_append, flatS_length]; omega)
  rw [List.set_append_left _ _ (by rw [flatS_length]; exact h)] at this
  have e : (flat eS X).set off (vS s) = flat eS (X.set off s) := by rw [flatS, flatS, List.map_set]
  rwa [e] at this
/-- Turned round at both ends, so far. -/
def revR (A : List (List Int)) (k : Nat) : List (List Int) := (List.range A.length).map fun x => if x < k ∨ A.length ≤ x + k then A.getD (A.length - 1 - x) dS else A.getD x dS
theorem revR_length {A : List (List Int)} {k : Nat} : (revR A k).length = A.length := by simp [revR]
theorem revR_get {A : List (List Int)} {k i : Nat} (h : i < A.length) : (revR A k).getD i dS = if i < k ∨ A.length ≤ i + k then A.getD (A.length - 1 - i) dS else A.getD i dS := by
  unfold revR
  simp [List.getD, List.getElem?_map, List.getElem?_range h]
theorem revR_zero {A : List (List Int)} : revR A 0 = A := by
  apply List.ext_getElem
  · exact revR_length
  · intro i h1 h2
    have := revR_get (k := 0) h2
    rw [if_neg (by omega)] at this
    simpa [List.getD, List.getElem?_eq_getElem h1, List.getElem?_eq_getElem h2] using this
theorem revR_step {A : List (List Int)} {k : Nat} (h : k + 1 + k < A.length) : ((revR A k).set k (A.getD (A.length - 1 - k) dS)).set (A.length - 1 - k) (A.getD k dS) = revR A (k + 1) := by
  apply List.ext_getElem
  · simp [revR_length]
  · intro i h1 h2
    rw [revR_length] at h2
    have e1 := revR_get (k := k) h2
    have e2 := revR_get (k := k + 1) h2
    rw [List.getD, List.getElem?_eq_getElem (by rw [revR_length]; exact h2)] at e1 e2
    simp only [Option.getD_some] at e1 e2
    rw [e2, List.getElem_set]
    by_cases hi : A.length - 1 - k = i
    · rw [if_pos hi, if_pos (by omega)]
      congr 1; omega
    · rw [if_neg hi, List.getElem_set]
      by_cases hk : k = i
      · subst hk
        rw [if_pos rfl, if_pos (by omega)]
      · rw [if_neg hk, e1]
        by_cases hc : i < k ∨ A.length ≤ i + k
        · rw [if_pos hc, if_pos (by omega)]
        · rw [if_neg hc, if_neg (by omega)]
theorem revR_all {A : List (List Int)} {k : Nat} (h : A.length ≤ k + 1 + k) : revR A k = A.reverse := by
  apply List.ext_getElem
  · rw [revR_length, List.length_reverse]
  · intro i h1 h2
    rw [revR_length] at h1
    have e1 := revR_get (k := k) h1
    rw [List.getD, List.getElem?_eq_getElem (by rw [revR_length]; exact h1)] at e1
    simp only [Option.getD_some] at e1
    rw [e1, List.getElem_reverse]
    have hn : A.length - 1 - i < A.length := by omega
    split
    · simp [List.getD, List.getElem?_eq_getElem hn]
    · have : i = A.length - 1 - i := by omega
      simp only [List.getD, List.getElem?_eq_getElem h1, Option.getD_some]
      congr 1
end Go.Proofs.YtjaeblkgjbncmaaDoor
namespace Go.Proofs.YtjaeblkgjbncmaaDoor
set_option maxRecDepth 20000
set_option linter.unusedSimpArgs false
set_option linter.unusedVariables false
open Go Go.Fw
attribute [local irreducible] CW OL OD FX Stp FnC Ret
set_option maxHeartbeats 800000

theorem reverse_spec (w : World) {A : List (List Int)} {n b cap : Nat} {sp : List Value} (hn : A.length = n) (hn1 : 1 ≤ n) (hs : n ≤ 1000) (hb : OB.ok ⟨some b, flat eS A ++ sp, 9⟩ w) :
    Ret Tryd.prog 30 [.slice (some ⟨b, 0, none⟩) n cap] w (fun _ m _ => ∃ cs', m = [⟨some b, cs', 9⟩] ∧ cs' = flat eS A.reverse ++ sp) := by
  refine enter (M := (View.of w).but [b]) (mutd := [⟨some b, flat eS A ++ sp, 9⟩]) Tryd.func30 rfl rfl rfl rfl (View.but_le _ _) (by simpa using hb) (by simp [View.but]) (by simp) ?_
  repeat' first
    | apply cw_seq
    | (refine cw_region_id 0 ?_; (apply ol_mv; exact rfl; exact rfl); (apply ol_val; exact rfl; apply stp_pur; apply s_len; exact rfl; exact el_52); (apply ol_val; exact rfl; apply stp_pur; apply s_sub64; exact rfl; exact rfl; omega); (apply ol_as; exact rfl; exact rfl); (apply ol_as; exact rfl; exact rfl); (apply ol_nil))
    | (apply cw_cond_true; exact rfl; (first | exact rfl | assumption))
    | (apply cw_cond_false; exact rfl; (first | exact rfl | assumption))
    | apply cw_skip
    | apply cw_ret
    | apply cw_block
    | apply cw_exit
  refine cw_loopK (σ := Nat) [0] (by (repeat (first | exact Keep.nil | (apply Keep.cons; exact rfl)))) (fun k => [(2, .int .i64 k), (3, .int .i64 ((n : Int) - 1 - k))]) (fun _ => (View.of w).but [b]) (fun k => [⟨some b, flat eS (revR A k) ++ sp, 9⟩]) (fun k => k ≤ n) (fun k => n - k) 0 (by rw [show ((n : Int) - 1 - ((0 : Nat) : Int)) = (n : Int) - 1 by omega]; (repeat (first | exact trivial | refine And.intro rfl ?_))) (View.le.refl _) (by rw [revR_zero]; (repeat (first | exact Pick.nil | (apply Pick.cons; (focus ((repeat (first | exact Spl.here | apply Spl.there)); done))) | exact Pick.refl))) (by omega) ?_
  intro k hk
  try dsimp only
  by_cases hk' : k + 1 + k < n
  · have hst := revR_step (A := A) (k := k) (by omega)
    have hl := revR_length (A := A) (k := k)
    have g1 := revR_get (A := A) (k := k) (i := k) (by omega)
    have g2 := revR_get (A := A) (k := k) (i := n - 1 - k) (by omega)
    rw [if_neg (by omega)] at g1 g2
    rw [hn] at hst hl
    have r1 := fun {off : Nat} (e : off = k) => flatS_get (X := revR A k) (sp := sp) (i := k) (off := off) (by omega) e
    have r2 := fun {off : Nat} (e : off = n - 1 - k) => flatS_get (X := revR A k) (sp := sp) (i := n - 1 - k) (off := off) (by omega) e
    rw [g1] at r1
    rw [g2] at r2
    clear g1 g2
    generalize A.getD k dS = P at *
    generalize A.getD (n - 1 - k) dS = Q at *
    generalize revR A k = X at *
    have s1 := fun {off : Nat} (e : off = k) => flatS_set (X := X) (sp := sp) (i := k) (off := off) (s := Q) e (by omega)
    have s2 := fun {off : Nat} (e : off = n - 1 - k) => flatS_set (X := X.set k Q) (sp := sp) (i := n - 1 - k) (off := off) (s := P) e (by rw [List.length_set]; omega)
    rw [hst] at s2
    repeat' first
      | apply cw_seq
      | (refine cw_region_id 1 ?_; (apply ol_mv; exact rfl; exact rfl); (apply ol_mv; exact rfl; exact rfl); (apply ol_val; exact rfl; apply stp_cmp; apply s_lss; exact rfl; exact rfl; all_goals (intro hc9; try (exfalso; (first | exact hc9 rfl | omega)))); all_goals (apply ol_nil))
      | (refine cw_draw (id := 3) 16 (.mv 0 (.mv 1 (.mv 2 (.mv 3 (.mv 4 (.mv 5 (.mv 6 (.mv 7 (.mv 8 (.mv 9 (.mv 10 (.mv 11 (.mv 12 (.fx 13 (.mv 14 (.fx 15 (PT.nil))))))))))))))))) mixed (by kernel_rfl) ?_; (apply od_mv; exact rfl; exact rfl; apply s_move; exact rfl); (apply od_mv; exact rfl; exact rfl; apply s_move; exact rfl); (apply od_mv; exact rfl; exact rfl; apply s_move; exact rfl); (apply od_mv; exact rfl; exact rfl; apply s_move; exact rfl); (apply od_mv; exact rfl; exact rfl; apply s_move; exact rfl); (apply od_mv; exact rfl; exact rfl; apply s_move; exact rfl); (apply od_mv; exact rfl; exact rfl; first | (apply s_indexK; exact rfl; exact rfl; exact el_52; exact sz_9; (first | exact rfl); omega) | (apply s_indexO; exact rfl; exact rfl; exact el_52; exact sz_9; (first | exact rfl); omega)); (apply od_mv; exact rfl; exact rfl; apply s_load1; exact rfl; exact rfl; (first | (apply RdN.own; (focus ((repeat constructor); done)); exact GetN.cons rfl GetN.nil) | (apply RdN.own; (repeat (first | exact Has.here | apply Has.there)); exact r1 (by omega)) | (apply RdN.own; (repeat (first | exact Has.here | apply Has.there)); exact r2 (by omega)))); (apply od_mv; exact rfl; exact rfl; apply s_move; exact rfl); (apply od_mv; exact rfl; exact rfl; apply s_move; exact rfl); (apply od_mv; exact rfl; exact rfl; first | (apply s_indexK; exact rfl; exact rfl; exact el_52; exact sz_9; (first | exact rfl); omega) | (apply s_indexO; exact rfl; exact rfl; exact el_52; exact sz_9; (first | exact rfl); omega)); (apply od_mv; exact rfl; exact rfl; apply s_load1; exact rfl; exact rfl; (first | (apply RdN.own; (focus ((repeat constructor); done)); exact GetN.cons rfl GetN.nil) | (apply RdN.own; (repeat (first | exact Has.here | apply Has.there)); exact r1 (by omega)) | (apply RdN.own; (repeat (first | exact Has.here | apply Has.there)); exact r2 (by omega)))); (apply od_mv; exact rfl; exact rfl; first | (apply s_indexK; exact rfl; exact rfl; exact el_52; exact sz_9; (first | exact rfl); omega) | (apply s_indexO; exact rfl; exact rfl; exact el_52; exact sz_9; (first | exact rfl); omega)); (apply od_fx; (first | exact Wk.refl _ _ | (focus (apply Wk.mk; (first | exact View.le.refl _ | assumption | exact View.le.trans (by assumption) (by assumption)); (repeat constructor); done))); (apply fx_eff; exact rfl; apply s_store1; exact rfl; exact rfl; exact sz_9; exact rfl; (focus ((repeat constructor); done)); (first | (focus ((repeat constructor); done)) | (apply setAt_ints_app; (first | omega | (simp; omega) | (simp; done))) | (apply setAt_ints; (first | omega | (simp; omega) | (simp; done))) | (exact s1 (by omega)) | (exact s2 (by omega)) | (apply SetAt.set; (first | omega | (simp; omega) | (simp; done)))))); (apply od_mv; exact rfl; exact rfl; first | (apply s_indexK; exact rfl; exact rfl; exact el_52; exact sz_9; (first | exact rfl); omega) | (apply s_indexO; exact rfl; exact rfl; exact el_52; exact sz_9; (first | exact rfl); omega)); (apply od_fx; (first | exact Wk.refl _ _ | (focus (apply Wk.mk; (first | exact View.le.refl _ | assumption | exact View.le.trans (by assumption) (by assumption)); (repeat constructor); done))); (apply fx_eff; exact rfl; apply s_store1; exact rfl; exact rfl; exact sz_9; exact rfl; (focus ((repeat constructor); done)); (first | (focus ((repeat constructor); done)) | (apply setAt_ints_app; (first | omega | (simp; omega) | (simp; done))) | (apply setAt_ints; (first | omega | (simp; omega) | (simp; done))) | (exact s1 (by omega)) | (exact s2 (by omega)) | (apply SetAt.set; (first | omega | (simp; omega) | (simp; done)))))); (apply od_nil; (first | exact Wk.refl _ _ | (focus (apply Wk.mk; (first | exact View.le.refl _ | assumption | exact View.le.trans (by assumption) (by assumption)); (repeat constructor); done)))); (apply ol_nil))
      | (refine cw_drawW (id := 3) (own0 := []) 16 (.mv 0 (.mv 1 (.mv 2 (.mv 3 (.mv 4 (.mv 5 (.mv 6 (.mv 8 (.mv 9 (.mv 10 (.br 7 (.fx 11 (.mv 12 (.fx 13 (.mv 14 (.fx 15 (PT.nil)))))) 11 (.fx 7 (.mv 12 (.fx 13 (.mv 14 (.fx 15 (PT.nil))))))))))))))))) mixed (by kernel_rfl) (by (first | exact Wk.refl _ _ | (focus (apply Wk.mk; (first | exact View.le.refl _ | assumption | exact View.le.trans (by assumption) (by assumption)); (repeat constructor); done)))) ?_; (apply od_mv; exact rfl; exact rfl; apply s_move; exact rfl); (apply od_mv; exact rfl; exact rfl; apply s_move; exact rfl); (apply od_mv; exact rfl; exact rfl; apply s_move; exact rfl); (apply od_mv; exact rfl; exact rfl; apply s_move; exact rfl); (apply od_mv; exact rfl; exact rfl; apply s_move; exact rfl); (apply od_mv; exact rfl; exact rfl; apply s_move; exact rfl); (apply od_mv; exact rfl; exact rfl; first | (apply s_indexK; exact rfl; exact rfl; exact el_52; exact sz_9; (first | exact rfl); omega) | (apply s_indexO; exact rfl; exact rfl; exact el_52; exact sz_9; (first | exact rfl); omega)); (apply od_mv; exact rfl; exact rfl; apply s_move; exact rfl); (apply od_mv; exact rfl; exact rfl; apply s_move; exact rfl); (apply od_mv; exact rfl; exact rfl; first | (apply s_indexK; exact rfl; exact rfl; exact el_52; exact sz_9; (first | exact rfl); omega) | (apply s_indexO; exact rfl; exact rfl; exact el_52; exact sz_9; (first | exact rfl); omega)); (apply od_br; (first | exact Wk.refl _ _ | (focus (apply Wk.mk; (first | exact View.le.refl _ | assumption | exact View.le.trans (by assumption) (by assumption)); (repeat constructor); done)))); all_goals (first | (refine fx_at 7 ?_; (apply fx_val; exact rfl; exact rfl; apply stp_pur; apply s_load1; exact rfl; exact rfl; (first | (apply RdN.own; (focus ((repeat constructor); done)); exact GetN.cons rfl GetN.nil) | (apply RdN.own; (repeat (first | exact Has.here | apply Has.there)); exact r1 (by omega)) | (apply RdN.own; (repeat (first | exact Has.here | apply Has.there)); exact r2 (by omega)))); (apply od_fx; (first | exact Wk.refl _ _ | (focus (apply Wk.mk; (first | exact View.le.refl _ | assumption | exact View.le.trans (by assumption) (by assumption)); (repeat constructor); done))); (apply fx_val; exact rfl; exact rfl; apply stp_pur; apply s_load1; exact rfl; exact rfl; (first | (apply RdN.own; (focus ((repeat constructor); done)); exact GetN.cons rfl GetN.nil) | (apply RdN.own; (repeat (first | exact Has.here | apply Has.there)); exact r1 (by omega)) | (apply RdN.own; (repeat (first | exact Has.here | apply Has.there)); exact r2 (by omega))))); (apply od_mv; exact rfl; exact rfl; first | (apply s_indexK; exact rfl; exact rfl; exact el_52; exact sz_9; (first | exact rfl); omega) | (apply s_indexO; exact rfl; exact rfl; exact el_52; exact sz_9; (first | exact rfl); omega)); (apply od_fx; (first | exact Wk.refl _ _ | (focus (apply Wk.mk; (first | exact View.le.refl _ | assumption | exact View.le.trans (by assumption) (by assumption)); (repeat constructor); done))); (apply fx_eff; exact rfl; apply s_store1; exact rfl; exact rfl; exact sz_9; exact rfl; (focus ((repeat constructor); done)); (first | (focus ((repeat constructor); done)) | (apply setAt_ints_app; (first | omega | (simp; omega) | (simp; done))) | (apply setAt_ints; (first | omega | (simp; omega) | (simp; done))) | (exact s1 (by omega)) | (exact s2 (by omega)) | (apply SetAt.set; (first | omega | (simp; omega) | (simp; done)))))); (apply od_mv; exact rfl; exact rfl; first | (apply s_indexK; exact rfl; exact rfl; exact el_52; exact sz_9; (first | exact rfl); omega) | (apply s_indexO; exact rfl; exact rfl; exact el_52; exact sz_9; (first | exact rfl); omega)); (apply od_fx; (first | exact Wk.refl _ _ | (focus (apply Wk.mk; (first | exact View.le.refl _ | assumption | exact View.le.trans (by assumption) (by assumption)); (repeat constructor); done))); (apply fx_eff; exact rfl; apply s_store1; exact rfl; exact rfl; exact sz_9; exact rfl; (focus ((repeat constructor); done)); (first | (focus ((repeat constructor); done)) | (apply setAt_ints_app; (first | omega | (simp; omega) | (simp; done))) | (apply setAt_ints; (first | omega | (simp; omega) | (simp; done))) | (exact s1 (by omega)) | (exact s2 (by omega)) | (apply SetAt.set; (first | omega | (simp; omega) | (simp; done)))))); (apply od_nil; (first | exact Wk.refl _ _ | (focus (apply Wk.mk; (first | exact View.le.refl _ | assumption | exact View.le.trans (by assumption) (by assumption)); (repeat constructor); done)))); (apply ol_nil)) | (refine fx_at 11 ?_; (apply fx_val; exact rfl; exact rfl; apply stp_pur; apply s_load1; exact rfl; exact rfl; (first | (apply RdN.own; (focus ((repeat constructor); done)); exact GetN.cons rfl GetN.nil) | (apply RdN.own; (repeat (first | exact Has.here | apply Has.there)); exact r1 (by omega)) | (apply RdN.own; (repeat (first | exact Has.here | apply Has.there)); exact r2 (by omega)))); (apply od_fx; (first | exact Wk.refl _ _ | (focus (apply Wk.mk; (first | exact View.le.refl _ | assumption | exact View.le.trans (by assumption) (by assumption)); (repeat constructor); done))); (apply fx_val; exact rfl; exact rfl; apply stp_pur; apply s_load1; exact rfl; exact rfl; (first | (apply RdN.own; (focus ((repeat constructor); done)); exact GetN.cons rfl GetN.nil) | (apply RdN.own; (repeat (first | exact Has.here | apply Has.there)); exact r1 (by omega)) | (apply RdN.own; (repeat (first | exact Has.here | apply Has.there)); exact r2 (by omega))))); (apply od_mv; exact rfl; exact rfl; first | (apply s_indexK; exact rfl; exact rfl; exact el_52; exact sz_9; (first | exact rfl); omega) | (apply s_indexO; exact rfl; exact rfl; exact el_52; exact sz_9; (first | exact rfl); omega)); (apply od_fx; (first | exact Wk.refl _ _ | (focus (apply Wk.mk; (first | exact View.le.refl _ | assumption | exact View.le.trans (by assumption) (by assumption)); (repeat constructor); done))); (apply fx_eff; exact rfl; apply s_store1; exact rfl; exact rfl; exact sz_9; exact rfl; (focus ((repeat constructor); done)); (first | (focus ((repeat constructor); done)) | (apply setAt_ints_app; (first | omega | (simp; omega) | (simp; done))) | (apply setAt_ints; (first | omega | (simp; omega) | (simp; done))) | (exact s1 (by omega)) | (exact s2 (by omega)) | (apply SetAt.set; (first | omega | (simp; omega) | (simp; done)))))); (apply od_mv; exact rfl; exact rfl; first | (apply s_indexK; exact rfl; exact rfl; exact el_52; exact sz_9; (first | exact rfl); omega) | (apply s_indexO; exact rfl; exact rfl; exact el_52; exact sz_9; (first | exact rfl); omega)); (apply od_fx; (first | exact Wk.refl _ _ | (focus (apply Wk.mk; (first | exact View.le.refl _ | assumption | exact View.le.trans (by assumption) (by assumption)); (repeat constructor); done))); (apply fx_eff; exact rfl; apply s_store1; exact rfl; exact rfl; exact sz_9; exact rfl; (focus ((repeat constructor); done)); (first | (focus ((repeat constructor); done)) | (apply setAt_ints_app; (first | omega | (simp; omega) | (simp; done))) | (apply setAt_ints; (first | omega | (simp; omega) | (simp; done))) | (exact s1 (by omega)) | (exact s2 (by omega)) | (apply SetAt.set; (first | omega | (simp; omega) | (simp; done)))))); (apply od_nil; (first | exact Wk.refl _ _ | (focus (apply Wk.mk; (first | exact View.le.refl _ | assumption | exact View.le.trans (by assumption) (by assumption)); (repeat constructor); done)))); (apply ol_nil))))
      | (refine cw_region_id 2 ?_; (apply ol_mv; exact rfl; exact rfl); (apply ol_val; exact rfl; apply stp_pur; apply s_add64; exact rfl; exact rfl; omega); (apply ol_mv; exact rfl; exact rfl); (apply ol_val; exact rfl; apply stp_pur; apply s_sub64; exact rfl; exact rfl; omega); (apply ol_as; exact rfl; exact rfl); (apply ol_as; exact rfl; exact rfl); (apply ol_nil))
      | (apply cw_cond_true; exact rfl; (first | exact rfl | assumption))
      | (apply cw_cond_false; exact rfl; (first | exact rfl | assumption))
      | apply cw_skip
      | apply cw_ret
      | apply cw_block
      | apply cw_exit
    iterate 2
     refine ⟨k + 1, ⟨?_, View.le.refl _, ?_, by omega, by omega⟩⟩
     · rw [show ((n : Int) - 1 - ((k + 1 : Nat) : Int)) = (n : Int) - 1 - k - 1 by omega]
       (repeat (first | exact trivial | refine And.intro rfl ?_))
     · (repeat (first | exact Pick.nil | (apply Pick.cons; (focus ((repeat (first | exact Spl.here | apply Spl.there)); done))) | exact Pick.refl))
  · have hall := revR_all (A := A) (k := k) (by omega)
    rw [hall]
    repeat' first
      | apply cw_seq
      | (refine cw_region_id 1 ?_; (apply ol_mv; exact rfl; exact rfl); (apply ol_mv; exact rfl; exact rfl); (apply ol_val; exact rfl; apply stp_cmp; apply s_lss; exact rfl; exact rfl; all_goals (intro hc9; try (exfalso; (first | exact hc9 rfl | omega)))); all_goals (apply ol_nil))
      | (refine cw_draw (id := 3) 16 (.mv 0 (.mv 1 (.mv 2 (.mv 3 (.mv 4 (.mv 5 (.mv 6 (.mv 7 (.mv 8 (.mv 9 (.mv 10 (.mv 11 (.mv 12 (.fx 13 (.mv 14 (.fx 15 (PT.nil))))))))))))))))) mixed (by kernel_rfl) ?_; (apply od_mv; exact rfl; exact rfl; apply s_move; exact rfl); (apply od_mv; exact rfl; exact rfl; apply s_move; exact rfl); (apply od_mv; exact rfl; exact rfl; apply s_move; exact rfl); (apply od_mv; exact rfl; exact rfl; apply s_move; exact rfl); (apply od_mv; exact rfl; exact rfl; apply s_move; exact rfl); (apply od_mv; exact rfl; exact rfl; apply s_move; exact rfl); (apply od_mv; exact rfl; exact rfl; first | (apply s_indexK; exact rfl; exact rfl; exact el_52; exact sz_9; (first | exact rfl); omega) | (apply s_indexO; exact rfl; exact rfl; exact el_52; exact sz_9; (first | exact rfl); omega)); (apply od_mv; exact rfl; exact rfl; apply s_load1; exact rfl; exact rfl; (apply RdN.own; (focus ((repeat constructor); done)); exact GetN.cons rfl GetN.nil)); (apply od_mv; exact rfl; exact rfl; apply s_move; exact rfl); (apply od_mv; exact rfl; exact rfl; apply s_move; exact rfl); (apply od_mv; exact rfl; exact rfl; first | (apply s_indexK; exact rfl; exact rfl; exact el_52; exact sz_9; (first | exact rfl); omega) | (apply s_indexO; exact rfl; exact rfl; exact el_52; exact sz_9; (first | exact rfl); omega)); (apply od_mv; exact rfl; exact rfl; apply s_load1; exact rfl; exact rfl; (apply RdN.own; (focus ((repeat constructor); done)); exact GetN.cons rfl GetN.nil)); (apply od_mv; exact rfl; exact rfl; first | (apply s_indexK; exact rfl; exact rfl; exact el_52; exact sz_9; (first | exact rfl); omega) | (apply s_indexO; exact rfl; exact rfl; exact el_52; exact sz_9; (first | exact rfl); omega)); (apply od_fx; (first | exact Wk.refl _ _ | (focus (apply Wk.mk; (first | exact View.le.refl _ | assumption | exact View.le.trans (by assumption) (by assumption)); (repeat constructor); done))); (apply fx_eff; exact rfl; apply s_store1; exact rfl; exact rfl; exact sz_9; exact rfl; (focus ((repeat constructor); done)); (first | (focus ((repeat constructor); done)) | (apply setAt_ints_app; (first | omega | (simp; omega) | (simp; done))) | (apply setAt_ints; (first | omega | (simp; omega) | (simp; done))) | (apply SetAt.set; (first | omega | (simp; omega) | (simp; done)))))); (apply od_mv; exact rfl; exact rfl; first | (apply s_indexK; exact rfl; exact rfl; exact el_52; exact sz_9; (first | exact rfl); omega) | (apply s_indexO; exact rfl; exact rfl; exact el_52; exact sz_9; (first | exact rfl); omega)); (apply od_fx; (first | exact Wk.refl _ _ | (focus (apply Wk.mk; (first | exact View.le.refl _ | assumption | exact View.le.trans (by assumption) (by assumption)); (repeat constructor); done))); (apply fx_eff; exact rfl; apply s_store1; exact rfl; exact rfl; exact sz_9; exact rfl; (focus ((repeat constructor); done)); (first | (focus ((repeat constructor); done)) | (apply setAt_ints_app; (first | omega | (simp; omega) | (simp; done))) | (apply setAt_ints; (first | omega | (simp; omega) | (simp; done))) | (apply SetAt.set; (first | omega | (simp; omega) | (simp; done)))))); (apply od_nil; (first | exact Wk.refl _ _ | (focus (apply Wk.mk; (first | exact View.le.refl _ | assumption | exact View.le.trans (by assumption) (by assumption)); (repeat constructor); done)))); (apply ol_nil))
      | (refine cw_region_id 2 ?_; (apply ol_mv; exact rfl; exact rfl); (apply ol_val; exact rfl; apply stp_pur; apply s_add64; exact rfl; exact rfl; omega); (apply ol_mv; exact rfl; exact rfl); (apply ol_val; exact rfl; apply stp_pur; apply s_sub64; exact rfl; exact rfl; omega); (apply ol_as; exact rfl; exact rfl); (apply ol_as; exact rfl; exact rfl); (apply ol_nil))
      | (apply cw_cond_true; exact rfl; (first | exact rfl | assumption))
      | (apply cw_cond_false; exact rfl; (first | exact rfl | assumption))
      | apply cw_skip
      | apply cw_ret
      | apply cw_block
      | apply cw_exit
    refine endsM [⟨some b, flat eS A.reverse ++ sp, 9⟩] [] RVal.nil (by (repeat (first | exact Pick.nil | (apply Pick.cons; (focus ((repeat (first | exact Spl.here | apply Spl.there)); done))) | exact Pick.refl))) rfl ⟨_, rfl, rfl⟩
end Go.Proofs.YtjaeblkgjbncmaaDoor
