/-
  Texts joined: Fw12.
-/
import Derived.Test.YtkkfgeekdaalmaaDoorYgf
import Derived.SizedLaws
set_option linter.unusedSimpArgs false
set_option linter.unusedVariables false
namespace Go.Fw
open Go Go.ChangeShapes Go.WideShapes Go.ChangeAt Go.RowKit Go.Deep
section
variable {H : Type} {enc : TypeId × Value → H} {P : Program}
theorem wf_fit {k : IntKind} {n : Int} (h : (Lit.int k n).wf = true) : lowK k ≤ n ∧ n ≤ highK k := by
  cases k <;> simp [Lit.wf, IntKind.min, IntKind.max, IntKind.bits, IntKind.signed] at h <;> simp [lowK, highK] <;> omega
end
end Go.Fw
