/-
  DigestCongruent holds: whatever the arguments, the law answers true, and the arguments read afterwards as they read before; the two
  listed variables hold what the program's text lays.
  No further condition.
-/
import Derived.Test.YthhhleplbmpakaaDoorPC
import Derived.Test.YthhhleplbmpakaaDoorG5
namespace Go.Proofs.YthhhleplbmpakaaDoor
set_option maxRecDepth 20000
set_option linter.unusedSimpArgs false
set_option linter.unusedVariables false
open Go Go.Fw Go.ChangeShapes Go.WideShapes Go.ChangeAt Go.RowKit

set_option maxRecDepth 100000 in
theorem congruent_lifted (os : Os) (started : os.Started) (H : Type) (enc : TypeId × Value → H) :
    ReturnsInHanded {} Tryd.checked os 9 .any (fun w args => (Rows.digestCongruentSpec.pre enc Tryd.prog Tryd.f9 [] false w args ∧ laidMetH Tryd.prog laidL w) ∧ sizedMet enc Tryd.prog Tryd.f9 (OpenSpec.ofChange Rows.digestCongruentSpec) false w args)
      (Rows.digestCongruentSpec.post enc Tryd.prog Tryd.f9 false true false false) := by
  refine returnsInHanded_of_change_and (C := Tryd.checked) (X := fun w _ => laidMetH Tryd.prog laidL w) (fun _ _ _ hh h => h.of_heap hh) Tryd.own started (by kernel_rfl) Tryd.func9
    (ChangeSpec.witness_at (enc := enc) (C := Tryd.checked) (os := os) (X := fun w _ => laidMetH Tryd.prog laidL w) false (World.laidAll Tryd.prog os laidL) #[.agg (Array.replicate 32 (.int .u8 0)), .int .u32 0, .int .u32 0, .int .u8 0] 8 (World.laidAll_os _ _ _) (by kernel_rfl) (by kernel_rfl) (by kernel_rfl) (by kernel_rfl) (by kernel_rfl) (laidMetH_of (by rfl) (laidMet_laidAll _ (by kernel_rfl) (by kernel_rfl)))) ?_
  intro W base args ds gs before hval0 hW _ _ hX _
  have hL := laid_ok hX
  have hval : ∀ (j : Nat) t v, Tryd.f9.params[j]? = some t → args[j]? = some v → Value.okWide Tryd.prog W .any base t v := hval0
  refine law_contract (tb := 4) Tryd.laidOut (by kernel_rfl) (by kernel_rfl) rfl rfl (by kernel_rfl) ?_ W args ds gs before hW ?_
  · intro ds h
    match ds, h with
    | [d1, d2, d3, d4], _ => exact ⟨rfl, rfl, rfl⟩
  · intro p hA0
    have hA : DataW.TrodAll enc Tryd.prog W 0 (fun _ => true) true Tryd.f9.params.toList args.toList ds p := hA0
    rw [Tryd.params9] at hA hval
    obtain ⟨v0, v1, v2, v3, d0, d1, d2, d3, p0, p1, p2, p3, rfl, rfl, rfl, h0, h1, h2, h3⟩ := trodAll_four hA
    obtain ⟨x0, rfl, l0, q0⟩ := open_arrayK (show Tryd.prog.underlying 25 = some (.array 32 5) by kernel_rfl) Tryd.underlying5 cellsOf_5 cellsOf_25 (hval 0 25 v0 rfl rfl) h0
    obtain ⟨x1, rfl, rfl, rfl, q1⟩ := open_int Tryd.underlying53 (hval 1 53 v1 rfl rfl) h1
    obtain ⟨x2, rfl, rfl, rfl, q2⟩ := open_int Tryd.underlying53 (hval 2 53 v2 rfl rfl) h2
    obtain ⟨x3, rfl, rfl, rfl, q3⟩ := open_int Tryd.underlying5 (hval 3 5 v3 rfl rfl) h3
    exact law_congruent (View.le.refl _) hL l0 (hash_b q0) (wf_u32 q1) (wf_u32 q2) (wf_u8 q3)

theorem congruent_row : Rows.DigestCongruentSaid :=
  OpenClaim.holds_of_wide 9 Tryd.f9 rfl rfl rfl rfl rfl rfl rfl ⟨rfl, rfl, rfl, rfl, rfl⟩ rfl rfl rfl rfl rfl (by kernel_rfl) Tryd.func9 (by kernel_rfl)
    (of_decide_eq_true (by kernel_rfl)) (by unfold Func.isWrapper; rw [if_neg (of_decide_eq_false (by kernel_rfl))]; exact ⟨rfl, rfl⟩)
    (fun os started H enc _ => congruent_lifted os started H enc)

theorem congruent_holds : Rows.DigestCongruentCardSaid :=
  Claim7.holds_tied_plain_at .later [] [.data, .data] true (true, "08843c5bdf6d42cad994064e543745747c2a2b32748fe87f73fde19d54754c45") false
    congruent_row (fun _ h => by cases h) (by kernel_rfl) (fun _ h => by cases h) digestCongruent_row_tie rfl ⟨rfl, rfl⟩ (by kernel_rfl) rfl
    (fun f fn hf hfn => by
      obtain rfl : f = 9 := Option.some.inj ((show Tryd.prog.funcNamed "specie/specielaw06.DigestCongruent" = some 9 by kernel_rfl).symm.trans hf) |>.symm
      obtain rfl : fn = Tryd.f9 := (Option.some.inj (Tryd.func9.symm.trans hfn)).symm
      exact ⟨by kernel_rfl, fun j t ht => by
        rw [Tryd.params9] at ht
        have h1 : [25, 53, 53, 5].all (fun t => !Tryd.prog.wantsStandIn t) = true := by kernel_rfl
        have h2 : t ∈ [25, 53, 53, 5] := by
          have := List.mem_of_getElem? (l := [25, 53, 53, 5]) (i := j) (by simpa using ht)
          exact this
        have h3 := List.all_eq_true.1 h1 t h2
        rw [Bool.not_eq_true'] at h3
        exact h3⟩)
    (by kernel_rfl)
end Go.Proofs.YthhhleplbmpakaaDoor
