/-
  NettingTransfers holds: whatever the arguments, the law answers true, and its arguments read afterwards as they read before.
  No condition.
-/
import Derived.Test.YtidjoikheklpiaaPC
import Derived.Test.YtidjoikheklpiaaW11
namespace Go.Proofs.Ytidjoikheklpiaa
set_option maxRecDepth 20000
set_option linter.unusedSimpArgs false
set_option linter.unusedVariables false
open Go Go.Fw Go.ChangeShapes Go.WideShapes Go.ChangeAt Go.RowKit

set_option maxRecDepth 100000 in
theorem transfers_lifted (os : Os) (started : os.Started) (H : Type) (enc : TypeId × Value → H) :
    ReturnsInHanded {} Try.checked os 3 .any (Rows.nettingTransfersSpec.pre6 enc Try.prog Try.f3 Rows.nettingTransfersRow.domain false) (Rows.nettingTransfersSpec.post enc Try.prog Try.f3 false true false false) := by
  refine returnsInHanded_of_change_sized (C := Try.checked) Try.own started (by kernel_rfl) Try.func3
    (ChangeSpec.witness6 (enc := enc) (C := Try.checked) false ⟨#[], #[.slice none 0 0, .slice none 0 0], []⟩ 8 (by kernel_rfl) (by kernel_rfl) (by kernel_rfl) (by kernel_rfl)) ?_
  intro W base args ds gs before hval0 hW _ hz _
  have hval : ∀ (j : Nat) t v, Try.f3.params[j]? = some t → args[j]? = some v → Value.okWide Try.prog W .any base t v := hval0
  refine law_contract (tb := 4) Try.laidOut (by kernel_rfl) (by kernel_rfl) rfl rfl (by kernel_rfl) ?_ W args ds gs before hW ?_
  · intro ds h
    match ds, h with
    | [d1, d2], _ => exact ⟨rfl, rfl, rfl⟩
  · intro p hA0
    have hA : DataW.TrodAll enc Try.prog W 0 (fun _ => true) true Try.f3.params.toList args.toList ds p := hA0
    rw [Try.params3] at hA hval hz
    obtain ⟨v0, v1, d0, d1, p0, p1, rfl, rfl, rfl, h0, h1⟩ := trodAll_two hA
    obtain ⟨a0, x0, b0, o0, c0, rfl, s0, _⟩ := open_row Try.underlying22 (sz := 1) (by kernel_rfl) (by decide) int_el (hval 0 22 v0 rfl rfl) h0
    have z0 := row_small (P := Try.prog) (j := 0) (t := 22) hz rfl rfl Try.underlying22 h0
    have y0 : Try.prog.bytesOf 3 = 8 := by kernel_rfl
    rw [y0] at z0
    obtain ⟨a1, x1, b1, o1, c1, rfl, s1, _⟩ := open_row Try.underlying23 (sz := 3) (by kernel_rfl) (by decide) transfer_el (hval 1 23 v1 rfl rfl) h1
    have z1 := row_small (P := Try.prog) (j := 1) (t := 23) hz rfl rfl Try.underlying23 h1
    have y1 : Try.prog.bytesOf 33 = 24 := by kernel_rfl
    rw [y1] at z1
    exact law_transfers (View.of W) W (View.le.refl _) x0 x1 s0 s1 (by omega) (by omega)

theorem transfers_holds : Rows.NettingTransfersSaid :=
  OpenClaim.holds_of_wide 3 Try.f3 rfl rfl rfl rfl rfl rfl rfl ⟨rfl, rfl, rfl, rfl, rfl⟩ rfl rfl rfl rfl rfl (by kernel_rfl) Try.func3 (by kernel_rfl)
    (of_decide_eq_true (by kernel_rfl)) (by unfold Func.isWrapper; rw [if_neg (of_decide_eq_false (by kernel_rfl))]; exact ⟨rfl, rfl⟩)
    (fun os started H enc _ => transfers_lifted os started H enc)
end Go.Proofs.Ytidjoikheklpiaa
