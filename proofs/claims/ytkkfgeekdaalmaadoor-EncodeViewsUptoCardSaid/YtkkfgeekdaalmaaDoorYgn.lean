/-
  Texts joined: Fw24.
-/
import Derived.Test.YtkkfgeekdaalmaaDoorYgm
import Derived.LoopNIn
set_option linter.unusedSimpArgs false
set_option linter.unusedVariables false
namespace Go.Fw
open Go Go.RowKit
def mkD (D : Nat) : Deferred := { target := .collected D, args := #[] }
/-- A frame that bears marks. -/
structure StM (C : Pr) (ms : List Nat) (fm : FM) (M : View) (own : List OB) (a : Act) (w : World) : Prop where
  fr : FrOk C.n { a with defers := [] } fm
  ds : a.defers = ms.map mkD
  st : St C.wE C.mu M own w
abbrev SPM := List Nat → SP
def realM (C : Pr) (N : SPM) (a : Act) (w : World) : Prop := ∃ ms fm M own, StM C ms fm M own a w ∧ N ms fm M own
def postM (C : Pr) (N : SPM) (X : Nat → SPM) (R : SPM) : Exit → Act → World → Prop
  | .normal, a, w => realM C N a w
  | .exit i, a, w => realM C (X i) a w
  | .ret, a, w => realM C R a w
  | _, _, _ => False
def CWM (C : Pr) (c : Code) (ms : List Nat) (fm : FM) (M : View) (own : List OB) (N : SPM) (X : Nat → SPM) (R : SPM) : Prop :=
  ∀ a w, StM C ms fm M own a w → c.wpIn (Fr none) 0 C.P (postM C N X R) a w
/-- The blocks that the marks name. -/
def MK (C : Pr) (ms : List Nat) (M : View) : Prop := ms.Nodup ∧ ∀ D ∈ ms, M D = some (.deferred (some [])) ∧ C.wE.heap.size ≤ D
section
variable {C : Pr} {ms : List Nat} {fm : FM} {M : View} {own : List OB} {N : SPM} {X : Nat → SPM} {R : SPM}
end
def View.cellsOnly (F : View) : Prop := ∀ b o, F b = some o → ∃ cs T fz, o = .cells cs T fz
/-- What the end of such a function must show: its results lie in slots. -/
def EndsVM (C : Pr) (rs : List ResultVar) (Ψ : Value → View → List OB → Prop) : SPM := fun ms fm M own =>
  MK C ms M ∧ ∃ vs new F, RVal C.P fm View.nil [] rs vs ∧ Pick own new ∧ View.le F M ∧ View.fresh F C.wE ∧ View.cellsOnly F ∧ Ψ (tup vs) F new
end Go.Fw
