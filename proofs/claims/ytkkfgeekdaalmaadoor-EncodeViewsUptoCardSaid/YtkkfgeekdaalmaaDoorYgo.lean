/-
  Texts joined: Fw25 Fw26.
-/
import Derived.Test.YtkkfgeekdaalmaaDoorYgn
import Derived.OrdersIn
set_option linter.unusedSimpArgs false
set_option linter.unusedVariables false
namespace Go.Fw
open Go Go.RowKit
section
variable {ro : Option Nat} {P : Program} {ops : Array Oper} {Q : Exit → Act → World → Prop}
end
section
variable {ro : Option Nat} {C : Pr} {l : List Oper} {fm : FM} {M M0 : View} {own own0 : List OB} {N : SP}
end
section
variable {C : Pr} {ms : List Nat} {fm : FM} {M : View} {own : List OB} {N : SPM} {X : Nat → SPM} {R : SPM}
/-- A block of the view, read as a row. -/
theorem SlA.ofCells {α : Type} {enc : α → List Value} {sz : Nat} (he : ∀ x, (enc x).length = sz) {b : Nat} {xs : List α} {sp : List Value} {T : TypeId} {fz : Nat × Nat} (h : M b = some (.cells (flat enc xs ++ sp).toArray T fz)) : SlA M enc sz (some ⟨b, 0, none⟩) xs b 0 := by
  refine ⟨fun _ => rfl, fun i hi => ?_⟩
  refine (getN_flat he (sp := sp) hi).mono fun j v hv => ?_
  simp only [View.cell, h]
  simpa using hv
end
section
variable {C : Pr} {fm : FM} {M : View} {own : List OB} {K : Value → View → List OB → Prop} {d : Option Nat} {ty : TypeId} {pos : String} {af : Array Edge} {g : Option (Nat × Bool)}
end
end Go.Fw
set_option linter.unusedSimpArgs false
set_option linter.unusedVariables false
namespace Go.Fw
open Go Go.RowKit
section
variable {C : Pr} {fm : FM} {M : View} {own : List OB} {d : Option Nat} {ty : TypeId} {pos : String} {af : Array Edge} {g : Option (Nat × Bool)}
end
end Go.Fw
