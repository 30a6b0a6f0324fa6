/-
  A list of operations among the arguments, opened.
-/
import Derived.Test.YtelidojkpbaofaaDoorPD
import Derived.Test.YtelidojkpbaofaaDoorJ20
namespace Go.Proofs.YtelidojkpbaofaaDoor
set_option maxRecDepth 20000
set_option linter.unusedSimpArgs false
set_option linter.unusedVariables false
open Go Go.Fw Go.ChangeShapes Go.WideShapes Go.ChangeAt Go.RowKit
theorem cellsOf_53 : Tryd.prog.cellsOf 53 = 3 := by kernel_rfl
theorem und_51 : Tryd.prog.underlying 51 = some (.slice 53) := by kernel_rfl
theorem und_48 : Tryd.prog.underlying 48 = some (.int .u16) := by kernel_rfl
section
variable {H : Type} {enc : TypeId × Value → H} {W : World} {sp : Nat → Bool}
theorem act_el (n : Nat) (cs : List Value) (y : DataW H × List MemPlace) (h : DataW.trod enc Tryd.prog W 0 sp true n 53 cs = some y) : ∃ u : ActV, u.Ok (View.of W) ∧ cs = u.enc := by
  obtain ⟨hl, hf⟩ := open_fields (Tryd.underlying53) (by kernel_rfl) (by kernel_rfl) h
  obtain ⟨v0, y0, n0, g0, t0⟩ := hf 0 _ rfl
  obtain ⟨v1, y1, n1, g1, t1⟩ := hf 1 _ rfl
  obtain ⟨v2, y2, n2, g2, t2⟩ := hf 2 _ rfl
  obtain ⟨x0, w0, e0⟩ := int_elK und_5 n0 [v0] y0 t0
  obtain ⟨a, l, b, o, c, e1, s1, q1, hc, _⟩ := open_cell_row und_22 cellsOf_5 (by decide) (fun n cs y hy => byte_el n cs y hy) t1
  obtain ⟨x2, w2, e2⟩ := int_elK und_48 n2 [v2] y2 t2
  obtain rfl : v0 = .int .u8 x0 := List.head_eq_of_cons_eq e0
  obtain rfl : v2 = .int .u16 x2 := List.head_eq_of_cons_eq e2
  subst e1
  refine ⟨⟨x0, ⟨l, a, b, o, c⟩, x2⟩, ⟨wf_u8 w0, ⟨s1, isB_of q1⟩, wf_u16 w2⟩, ?_⟩
  have hl3 : cs.length = 3 := hl
  match cs, hl3 with
  | [p, q, r], _ =>
    simp at g0 g1 g2
    rw [g0, g1, g2]
theorem open_acts {B : Nat} {v : Value} {d : DataW H} {ps : List MemPlace} (hok : Value.okWide Tryd.prog W .any B 51 v) (h : DataW.Trod enc Tryd.prog W 0 sp true 51 v d ps) :
    ∃ (a : Option Addr) (l : List ActV) (b o c : Nat), v = .slice a l.length c ∧ SlA (View.of W) ActV.enc 3 a l b o ∧ (∀ x ∈ l, x.Ok (View.of W)) ∧ l.length ≤ c := by
  obtain ⟨a, l, b, o, c, h1, h2, h3, h4, _⟩ := open_row und_51 cellsOf_53 (by decide) (fun n cs y hy => act_el n cs y hy) hok h
  exact ⟨a, l, b, o, c, h1, h2, at_mem h3, h4⟩
end
end Go.Proofs.YtelidojkpbaofaaDoor
