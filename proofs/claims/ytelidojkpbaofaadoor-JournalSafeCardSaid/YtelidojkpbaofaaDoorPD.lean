/-
  Rows of rows of bytes among the arguments, opened.
-/
import Derived.Test.YtelidojkpbaofaaDoorPC
namespace Go.Proofs.YtelidojkpbaofaaDoor
set_option maxRecDepth 20000
set_option linter.unusedSimpArgs false
set_option linter.unusedVariables false
open Go Go.Fw Go.ChangeShapes Go.WideShapes Go.ChangeAt Go.RowKit
theorem cellsOf_22 : Tryd.prog.cellsOf 22 = 1 := by kernel_rfl
theorem und_36 : Tryd.prog.underlying 36 = some (.slice 22) := by kernel_rfl
theorem at_mem {α : Type} {Q : α → Prop} {l : List α} (h : ∀ i (h : i < l.length), Q l[i]) : ∀ x ∈ l, Q x := fun x hx => by
  obtain ⟨i, hi, rfl⟩ := List.mem_iff_getElem.1 hx
  exact h i hi
theorem wf_u16 {x : Int} (h : (Lit.int .u16 x).wf = true) : 0 ≤ x ∧ x ≤ 65535 := by have := wf_fit h; simpa [lowK, highK] using this
section
variable {H : Type} {enc : TypeId × Value → H} {W : World} {sp : Nat → Bool}
theorem row_el (n : Nat) (cs : List Value) (y : DataW H × List MemPlace) (h : DataW.trod enc Tryd.prog W 0 sp true n 22 cs = some y) : ∃ u : Sl Int, (SlA (View.of W) (eK .u8) 1 u.a u.xs u.b u.o ∧ isB u.xs) ∧ cs = Sl.enc u := by
  obtain ⟨v, rfl⟩ : ∃ v, cs = [v] := by
    rcases Go.Deep.open_slice und_22 h with ⟨hcs, _⟩ | ⟨_, _, _, _, _, _, _, hcs, _⟩
    · exact ⟨_, hcs⟩
    · exact ⟨_, hcs⟩
  obtain ⟨a, l, b, o, c, e0, s1, q1, hc, _⟩ := open_cell_row und_22 cellsOf_5 (by decide) (fun n cs y hy => byte_el n cs y hy) h
  exact ⟨⟨l, a, b, o, c⟩, ⟨s1, isB_of q1⟩, by rw [e0]⟩
theorem open_records {B : Nat} {v : Value} {d : DataW H} {ps : List MemPlace} (hok : Value.okWide Tryd.prog W .any B 36 v) (h : DataW.Trod enc Tryd.prog W 0 sp true 36 v d ps) :
    ∃ (a : Option Addr) (l : List (Sl Int)) (b o c : Nat), v = .slice a l.length c ∧ SlA (View.of W) Sl.enc 1 a l b o ∧ (∀ x ∈ l, SlA (View.of W) (eK .u8) 1 x.a x.xs x.b x.o ∧ isB x.xs) ∧ l.length ≤ c := by
  obtain ⟨a, l, b, o, c, h1, h2, h3, h4, _⟩ := open_row und_36 cellsOf_22 (by decide) (fun n cs y hy => row_el n cs y hy) hok h
  exact ⟨a, l, b, o, c, h1, h2, at_mem h3, h4⟩
end
end Go.Proofs.YtelidojkpbaofaaDoor
