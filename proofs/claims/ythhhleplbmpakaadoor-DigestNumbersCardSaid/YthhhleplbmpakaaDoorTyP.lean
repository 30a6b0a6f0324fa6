/-
  Facts on pointers' types.
-/
import Derived.Test.YthhhleplbmpakaaDoorTy
import Derived.Test.YthhhleplbmpakaaDoorFw14
namespace Go.Proofs.YthhhleplbmpakaaDoor
set_option maxRecDepth 20000
set_option linter.unusedSimpArgs false
set_option linter.unusedVariables false
open Go Go.Fw
theorem pu_68 : Tryd.prog.underlying 68 = some (.pointer 70) := by kernel_rfl
theorem pu_86 : Tryd.prog.underlying 86 = some (.pointer 5) := by kernel_rfl
theorem uu_88 : Tryd.prog.underlying 88 = some .unsafePointer := by kernel_rfl
theorem ce_5 : Tryd.prog.cellsOf 5 = 1 := by kernel_rfl
theorem li_70 : liesAt Tryd.prog Tryd.prog.depth 70 (2 / Tryd.prog.cellsOf 70) 0 70 1 = true := by kernel_rfl
theorem en_60 : (Tryd.f60.name == "runtime.NumGoroutine") = false := by kernel_rfl
theorem eb_60 : Tryd.f60.body.isNone = true := by kernel_rfl
theorem ex_60 : Extern.findNext Tryd.f60 = none := by kernel_rfl
theorem ef_60 : Extern.find Tryd.f60 = some Extern.AbiNoEscape.same := by kernel_rfl
end Go.Proofs.YthhhleplbmpakaaDoor
