/-
  Texts joined: Fw17.
-/
import Derived.Test.YtagmoecojmlogaaGj
import Derived.OpenShut
import Derived.ChangeMaps5
import Derived.LaidHandle
set_option linter.unusedSimpArgs false
set_option linter.unusedVariables false
namespace Go.Fw
open Go Go.ChangeShapes Go.WideShapes Go.ChangeAt Go.RowKit Go.Deep
section
variable {H : Type} {enc : TypeId × Value → H} {P : Program} {W : World} {sp : Nat → Bool} {held : Bool}
end
end Go.Fw
