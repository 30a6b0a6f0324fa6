/-
  Texts joined: Fw23.
-/
import Derived.Test.YtkkfgeekdaalmaaDoorYgl
import Derived.RangeFuncLeaves
import Derived.RangeFuncRecord
import Derived.TacticsIn
set_option linter.unusedSimpArgs false
set_option linter.unusedVariables false
namespace Go.Fw
open Go Go.RowKit
/-- The fence of frames that are out of a round, or in one. -/
def Fr (ro : Option Nat) : Fence := { Fence.wide with round := ro }
/-- Code that is walked in a frame of this kind, and ends. -/
def CR (ro : Option Nat) (C : Pr) (c : Code) (fm : FM) (M : View) (own : List OB) (N : SP) : Prop :=
  ∀ a w, FrOk C.n a fm → St C.wE C.mu M own w → c.wpIn (Fr ro) 0 C.P (fun e a' w' => e = .normal ∧ real C N a' w') a w
section
variable {ro : Option Nat} {C : Pr} {fm : FM} {M : View} {own : List OB} {N : SP}
end
end Go.Fw
