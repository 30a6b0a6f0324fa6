import Derived.Test.YthhhleplbmpakaaDoorS1
import Derived.KernelRfl
namespace Go.Proofs.YthhhleplbmpakaaDoor
set_option maxRecDepth 20000
set_option linter.unusedSimpArgs false
set_option linter.unusedVariables false
open Go Go.Fw
theorem sha_abc : (sha [97, 98, 99]).take 4 = [186, 120, 22, 191] := by kernel_rfl
theorem sha_nil : (sha []).take 4 = [227, 176, 196, 66] := by kernel_rfl
end Go.Proofs.YthhhleplbmpakaaDoor
