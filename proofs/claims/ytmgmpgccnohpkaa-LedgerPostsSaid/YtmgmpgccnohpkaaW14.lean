/-
  The reference's Post in the words of the ledger's Post.
-/
import Derived.Test.YtmgmpgccnohpkaaW13
namespace Go.Proofs.Ytmgmpgccnohpkaa
set_option maxRecDepth 20000
set_option linter.unusedSimpArgs false
set_option linter.unusedVariables false
open Go Go.Fw
attribute [local irreducible] CW OL OD FX Stp FnC Ret
set_option maxHeartbeats 4000000

/-- For a valid ledger the reference's Post answers what the ledger's does. -/
theorem refPost' {M : View} {w : World} (hM : View.le M (View.of w)) {bal : List Int} {ents : List Ent} {x : Ent} {a1 a2 : Option Addr} {c1 b2 o2 c2 : Nat} (hv : validB bal ents = true) (s2 : SlA M Ent.enc 4 a2 ents b2 o2) :
    FnC Try.prog 21 [.agg [.slice a1 bal.length c1, .slice a2 ents.length c2].toArray, .agg x.enc.toArray] w (fun v new => LedRes (PostM bal ents x).1 (PostM bal ents x).2.1 (PostM bal ents x).2.2 v new) := by
  obtain ⟨g1, g2, g3, g4⟩ := validB_spec hv
  rw [chk_eq] at g4
  split at g4
  · rename_i ha
    have hall : ∀ i (h : i < ents.length), entryB bal.length ents[i] = true := fun i h => List.all_eq_true.1 ha _ (List.getElem_mem h)
    have hbal : balsM (List.replicate bal.length 0) (ents ++ [x]) = if lowB bal x = true then none else some (postL bal x) := by rw [balsM_append, g4]; rfl
    refine (refPost_spec M w hM bal.length g2 ents x (a1 := a1) (c1 := c1) (c2 := c2) rfl s2 (by omega) hall).mono ?_
    intro v new h
    unfold PostM
    rw [if_neg (by simp [hv])]
    rcases h with ⟨h1, h⟩ | ⟨h1, h2, h⟩ | ⟨h1, h2, ⟨h3, h⟩ | ⟨bal', h3, h⟩⟩
    · rw [if_pos h1]; exact h
    · rw [if_neg (by simp [h1]), if_pos (by omega)]; exact h
    · rw [if_neg (by simp [h1]), if_neg (by omega)]
      rw [hbal] at h3
      split at h3
      · rename_i hlow; rw [if_pos hlow]; exact h
      · cases h3
    · rw [if_neg (by simp [h1]), if_neg (by omega)]
      rw [hbal] at h3
      split at h3
      · cases h3
      · rename_i hlow
        rw [if_neg hlow]
        injection h3 with h3
        subst h3
        exact h
  · cases g4
end Go.Proofs.Ytmgmpgccnohpkaa
