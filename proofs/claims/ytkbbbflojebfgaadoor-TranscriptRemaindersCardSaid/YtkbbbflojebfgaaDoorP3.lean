/-
  TranscriptRemainders holds: whatever the arguments, the law answers true, and the arguments read afterwards as they read before; the
  listed variables hold what the program's text lays.
  No further condition.
-/
import Derived.Test.YtkbbbflojebfgaaDoorPC
import Derived.Test.YtkbbbflojebfgaaDoorX28
namespace Go.Proofs.YtkbbbflojebfgaaDoor
set_option maxRecDepth 20000
set_option linter.unusedSimpArgs false
set_option linter.unusedVariables false
open Go Go.Fw Go.ChangeShapes Go.WideShapes Go.ChangeAt Go.RowKit

set_option maxRecDepth 100000 in
theorem remainders_lifted (os : Os) (started : os.Started) (H : Type) (enc : TypeId × Value → H) :
    ReturnsInHanded {} Tryd.checked os 3 .any (fun w args => (Rows.transcriptRemaindersSpec.pre enc Tryd.prog Tryd.f3 [] false w args ∧ laidMetH Tryd.prog laidL w) ∧ sizedMet enc Tryd.prog Tryd.f3 (OpenSpec.ofChange Rows.transcriptRemaindersSpec) false w args)
      (Rows.transcriptRemaindersSpec.post enc Tryd.prog Tryd.f3 false true false false) := by
  refine returnsInHanded_of_change_and (C := Tryd.checked) (X := fun w _ => laidMetH Tryd.prog laidL w) (fun _ _ _ hh h => h.of_heap hh) Tryd.own started (by kernel_rfl) Tryd.func3
    (ChangeSpec.witness_at (enc := enc) (C := Tryd.checked) (os := os) (X := fun w _ => laidMetH Tryd.prog laidL w) false (World.laidAll Tryd.prog os laidL) #[.agg (trE (List.replicate 32 0) 0).toArray, .string .empty, .int .u32 0, .int .u32 0] 8 (World.laidAll_os _ _ _) (by kernel_rfl) (by kernel_rfl) (by kernel_rfl) (by kernel_rfl) (by kernel_rfl) (laidMetH_of (by rfl) (laidMet_laidAll _ (by kernel_rfl) (by kernel_rfl)))) ?_
  intro W base args ds gs before hval0 hW _ _ hX _
  have hL := laid_ok hX
  have hval : ∀ (j : Nat) t v, Tryd.f3.params[j]? = some t → args[j]? = some v → Value.okWide Tryd.prog W .any base t v := hval0
  refine law_contract (tb := 4) Tryd.laidOut (by kernel_rfl) (by kernel_rfl) rfl rfl (by kernel_rfl) ?_ W args ds gs before hW ?_
  · intro ds h
    match ds, h with
    | [d1, d2, d3, d4], _ => exact ⟨rfl, rfl, rfl⟩
  · intro p hA0
    have hA : DataW.TrodAll enc Tryd.prog W 0 (fun _ => true) true Tryd.f3.params.toList args.toList ds p := hA0
    rw [Tryd.params3] at hA hval
    obtain ⟨v0, v1, v2, v3, d0, d1, d2, d3, p0, p1, p2, p3, rfl, rfl, rfl, h0, h1, h2, h3⟩ := trodAll_four hA
    obtain ⟨S0, x0, rfl, l0, q0⟩ := open_tr (hval 0 25 v0 rfl rfl) h0
    obtain ⟨x1, rfl, rfl, rfl, _⟩ := Go.ChangeMaps.open_string Tryd.underlying9 (hval 1 9 v1 rfl rfl) h1
    obtain ⟨x2, rfl, rfl, rfl, q2⟩ := open_int Tryd.underlying26 (hval 2 26 v2 rfl rfl) h2
    obtain ⟨x3, rfl, rfl, rfl, q3⟩ := open_int Tryd.underlying26 (hval 3 26 v3 rfl rfl) h3
    have hb := intsB_b x1
    have e := strOf_intsB x1
    generalize intsB x1 = l at hb e
    subst e
    exact law_remainders (View.le.refl _) hL l0 q0 x0 hb (wf_u32 q2) (wf_u32 q3)

theorem remainders_row : Rows.TranscriptRemaindersSaid :=
  OpenClaim.holds_of_wide 3 Tryd.f3 rfl rfl rfl rfl rfl rfl rfl ⟨rfl, rfl, rfl, rfl, rfl⟩ rfl rfl rfl rfl rfl (by kernel_rfl) Tryd.func3 (by kernel_rfl)
    (of_decide_eq_true (by kernel_rfl)) (by unfold Func.isWrapper; rw [if_neg (of_decide_eq_false (by kernel_rfl))]; exact ⟨rfl, rfl⟩)
    (fun os started H enc _ => remainders_lifted os started H enc)

theorem remainders_holds : Rows.TranscriptRemaindersCardSaid :=
  Claim7.holds_tied_plain_at .later [] [.data, .data] true (true, "c9daa5694c653aa0ce38212cb456b94913a999a3a0c5e3b7c478dde6fa3e3e18") false
    remainders_row (fun _ h => by cases h) (by kernel_rfl) (fun _ h => by cases h) transcriptRemainders_row_tie rfl ⟨rfl, rfl⟩ (by kernel_rfl) rfl
    (fun f fn hf hfn => by
      obtain rfl : f = 3 := Option.some.inj ((show Tryd.prog.funcNamed "specie/specielaw08.TranscriptRemainders" = some 3 by kernel_rfl).symm.trans hf) |>.symm
      obtain rfl : fn = Tryd.f3 := (Option.some.inj (Tryd.func3.symm.trans hfn)).symm
      exact ⟨by kernel_rfl, fun j t ht => by
        rw [Tryd.params3] at ht
        have h1 : [25, 9, 26, 26].all (fun t => !Tryd.prog.wantsStandIn t) = true := by kernel_rfl
        have h2 : t ∈ [25, 9, 26, 26] := by
          have := List.mem_of_getElem? (l := [25, 9, 26, 26]) (i := j) (by simpa using ht)
          exact this
        have h3 := List.all_eq_true.1 h1 t h2
        rw [Bool.not_eq_true'] at h3
        exact h3⟩)
    (by kernel_rfl)
end Go.Proofs.YtkbbbflojebfgaaDoor
