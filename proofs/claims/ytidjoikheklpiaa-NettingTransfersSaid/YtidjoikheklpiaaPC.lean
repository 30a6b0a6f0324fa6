/-
  The arguments of netting's laws, opened: numbers, positions, claims, transfers.
-/
import Derived.Test.YtidjoikheklpiaaRows
import Derived.Test.YtidjoikheklpiaaFw12
import Derived.Test.YtidjoikheklpiaaL1
namespace Go.Proofs.Ytidjoikheklpiaa
set_option maxRecDepth 20000
set_option linter.unusedSimpArgs false
set_option linter.unusedVariables false
open Go Go.Fw Go.ChangeShapes Go.WideShapes Go.ChangeAt Go.RowKit

theorem Try.own : ownKnob Try.prog.godebug = none := by kernel_rfl
theorem Try.laidOut : laidOutB Try.prog = true := by kernel_rfl

section
variable {H : Type} {enc : TypeId × Value → H} {W : World} {sp : Nat → Bool}

theorem three_ints {cs : List Value} (hl : cs.length = 3) (hf : ∀ j, j < 3 → ∃ x : Int, cs[j]? = some (.int .i64 x)) : ∃ u : C3, cs = u.enc := by
  obtain ⟨x0, g0⟩ := hf 0 (by omega)
  obtain ⟨x1, g1⟩ := hf 1 (by omega)
  obtain ⟨x2, g2⟩ := hf 2 (by omega)
  refine ⟨⟨x0, x1, x2⟩, ?_⟩
  match cs, hl with
  | [d0, d1, d2], _ =>
    simp at g0 g1 g2
    subst g0 g1 g2
    rfl

theorem int_cell {n : Nat} {v : Value} {y : DataW H × List MemPlace} (h : DataW.trod enc Try.prog W 0 sp true n 3 [v] = some y) : ∃ x : Int, v = .int .i64 x := by
  obtain ⟨x, e, _⟩ := DataW.trod_int Try.underlying3 h
  exact ⟨x, by simpa using e⟩

theorem int_el (n : Nat) (cs : List Value) (y : DataW H × List MemPlace) (h : DataW.trod enc Try.prog W 0 sp true n 3 cs = some y) : ∃ u : Int, True ∧ cs = enc1 u := by
  obtain ⟨x, e, _⟩ := DataW.trod_int Try.underlying3 h
  exact ⟨x, trivial, e⟩

theorem transfer_el (n : Nat) (cs : List Value) (y : DataW H × List MemPlace) (h : DataW.trod enc Try.prog W 0 sp true n 33 cs = some y) : ∃ u : C3, True ∧ cs = u.enc := by
  obtain ⟨hl, hf⟩ := open_fields (Try.underlying33) (by kernel_rfl) (by kernel_rfl) h
  obtain ⟨u, hu⟩ := three_ints hl (fun j hj => by
    match j, hj with
    | 0, _ => obtain ⟨c, y, n, g, t⟩ := hf 0 _ rfl; obtain ⟨x, rfl⟩ := int_cell t; exact ⟨x, g⟩
    | 1, _ => obtain ⟨c, y, n, g, t⟩ := hf 1 _ rfl; obtain ⟨x, rfl⟩ := int_cell t; exact ⟨x, g⟩
    | 2, _ => obtain ⟨c, y, n, g, t⟩ := hf 2 _ rfl; obtain ⟨x, rfl⟩ := int_cell t; exact ⟨x, g⟩)
  exact ⟨u, trivial, hu⟩

theorem claim_el (n : Nat) (cs : List Value) (y : DataW H × List MemPlace) (h : DataW.trod enc Try.prog W 0 sp true n 57 cs = some y) : ∃ u : C3, True ∧ cs = u.enc := by
  obtain ⟨hl, hf⟩ := open_fields (Try.underlying57) (by kernel_rfl) (by kernel_rfl) h
  obtain ⟨u, hu⟩ := three_ints hl (fun j hj => by
    match j, hj with
    | 0, _ => obtain ⟨c, y, n, g, t⟩ := hf 0 _ rfl; obtain ⟨x, rfl⟩ := int_cell t; exact ⟨x, g⟩
    | 1, _ => obtain ⟨c, y, n, g, t⟩ := hf 1 _ rfl; obtain ⟨x, rfl⟩ := int_cell t; exact ⟨x, g⟩
    | 2, _ => obtain ⟨c, y, n, g, t⟩ := hf 2 _ rfl; obtain ⟨x, rfl⟩ := int_cell t; exact ⟨x, g⟩)
  exact ⟨u, trivial, hu⟩
end
end Go.Proofs.Ytidjoikheklpiaa
