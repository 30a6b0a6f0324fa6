/-
  JournalSafe holds: whatever the arguments, the law answers true, and the arguments read afterwards as they read before; the two
  listed variables hold what the program's text lays.
  No further condition.
-/
import Derived.Test.YtelidojkpbaofaaDoorPE
import Derived.Test.YtelidojkpbaofaaDoorJ21
namespace Go.Proofs.YtelidojkpbaofaaDoor
set_option maxRecDepth 20000
set_option linter.unusedSimpArgs false
set_option linter.unusedVariables false
open Go Go.Fw Go.ChangeShapes Go.WideShapes Go.ChangeAt Go.RowKit

set_option maxRecDepth 100000 in
theorem safe_lifted (os : Os) (started : os.Started) (H : Type) (enc : TypeId × Value → H) :
    ReturnsInHanded {} Tryd.checked os 9 .any (fun w args => (Rows.journalSafeSpec.pre enc Tryd.prog Tryd.f9 [] false w args ∧ laidMetH Tryd.prog laidL w) ∧ sizedMet enc Tryd.prog Tryd.f9 (OpenSpec.ofChange Rows.journalSafeSpec) false w args)
      (Rows.journalSafeSpec.post enc Tryd.prog Tryd.f9 false true false false) := by
  refine returnsInHanded_of_change_and (C := Tryd.checked) (X := fun w _ => laidMetH Tryd.prog laidL w) (fun _ _ _ hh h => h.of_heap hh) Tryd.own started (by kernel_rfl) Tryd.func9
    (ChangeSpec.witness_at (enc := enc) (C := Tryd.checked) (os := os) (X := fun w _ => laidMetH Tryd.prog laidL w) false (World.laidAll Tryd.prog os laidL) #[.int .u16 0, .slice none 0 0] 8 (World.laidAll_os _ _ _) (by kernel_rfl) (by kernel_rfl) (by kernel_rfl) (by kernel_rfl) (by kernel_rfl) (laidMetH_of (by rfl) (laidMet_laidAll _ (by kernel_rfl) (by kernel_rfl)))) ?_
  intro W base args ds gs before hval0 hW _ _ hX _
  have hL := laid_ok hX
  have hval : ∀ (j : Nat) t v, Tryd.f9.params[j]? = some t → args[j]? = some v → Value.okWide Tryd.prog W .any base t v := hval0
  refine law_contract (tb := 4) Tryd.laidOut (by kernel_rfl) (by kernel_rfl) rfl rfl (by kernel_rfl) ?_ W args ds gs before hW ?_
  · intro ds h
    match ds, h with
    | [d1, d2], _ => exact ⟨rfl, rfl, rfl⟩
  · intro p hA0
    have hA : DataW.TrodAll enc Tryd.prog W 0 (fun _ => true) true Tryd.f9.params.toList args.toList ds p := hA0
    rw [Tryd.params9] at hA hval
    obtain ⟨v0, v1, d0, d1, p0, p1, rfl, rfl, rfl, h0, h1⟩ := trodAll_two hA
    obtain ⟨x0, rfl, rfl, rfl, q0⟩ := open_int Tryd.underlying48 (hval 0 48 v0 rfl rfl) h0
    obtain ⟨a1, x1, b1, o1, c1, rfl, s1, q1, k1⟩ := open_acts (hval 1 51 v1 rfl rfl) h1
    exact law_safe (View.le.refl _) hL (wf_u16 q0) rfl k1 s1 q1

theorem safe_row : Rows.JournalSafeSaid :=
  OpenClaim.holds_of_wide 9 Tryd.f9 rfl rfl rfl rfl rfl rfl rfl ⟨rfl, rfl, rfl, rfl, rfl⟩ rfl rfl rfl rfl rfl (by kernel_rfl) Tryd.func9 (by kernel_rfl)
    (of_decide_eq_true (by kernel_rfl)) (by unfold Func.isWrapper; rw [if_neg (of_decide_eq_false (by kernel_rfl))]; exact ⟨rfl, rfl⟩)
    (fun os started H enc _ => safe_lifted os started H enc)

theorem safe_holds : Rows.JournalSafeCardSaid :=
  Claim7.holds_tied_plain_at .later [] [.data, .data] true (true, "e2ca8b6cd336f9739a4a70aa15d85a284fc6c613485fe534c672dfff7e1def56") false
    safe_row (fun _ h => by cases h) (by kernel_rfl) (fun _ h => by cases h) journalSafe_row_tie rfl ⟨rfl, rfl⟩ (by kernel_rfl) rfl
    (fun f fn hf hfn => by
      obtain rfl : f = 9 := Option.some.inj ((show Tryd.prog.funcNamed "specie/specielaw41.JournalSafe" = some 9 by kernel_rfl).symm.trans hf) |>.symm
      obtain rfl : fn = Tryd.f9 := (Option.some.inj (Tryd.func9.symm.trans hfn)).symm
      exact ⟨by kernel_rfl, fun j t ht => by
        rw [Tryd.params9] at ht
        have h1 : [48, 51].all (fun t => !Tryd.prog.wantsStandIn t) = true := by kernel_rfl
        have h2 : t ∈ [48, 51] := by
          have := List.mem_of_getElem? (l := [48, 51]) (i := j) (by simpa using ht)
          exact this
        have h3 := List.all_eq_true.1 h1 t h2
        rw [Bool.not_eq_true'] at h3
        exact h3⟩)
    (by kernel_rfl)
end Go.Proofs.YtelidojkpbaofaaDoor
