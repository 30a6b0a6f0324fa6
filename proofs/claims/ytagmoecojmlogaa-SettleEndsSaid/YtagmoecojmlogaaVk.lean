/-
  Texts joined: Fw17.
-/
import Derived.Test.YtagmoecojmlogaaVj
import Derived.OpenShut
import Derived.ChangeMaps5
import Derived.LaidHandle
set_option linter.unusedSimpArgs false
set_option linter.unusedVariables false
namespace Go.Fw
open Go Go.ChangeShapes Go.WideShapes Go.ChangeAt Go.RowKit Go.Deep
section
variable {H : Type} {enc : TypeId × Value → H} {P : Program} {W : World} {sp : Nat → Bool} {held : Bool}
theorem int_elK {e : TypeId} {k : IntKind} (he : P.underlying e = some (.int k)) (n : Nat) (cs : List Value) (y : DataW H × List MemPlace) (h : DataW.trod enc P W 0 sp held n e cs = some y) : ∃ u : Int, (Lit.int k u).wf = true ∧ cs = eK k u := by
  obtain ⟨x, e, _, hw⟩ := DataW.trod_int he h
  exact ⟨x, hw, e⟩
end
end Go.Fw
