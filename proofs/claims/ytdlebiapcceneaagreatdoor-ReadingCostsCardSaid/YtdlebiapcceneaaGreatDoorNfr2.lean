/-
  The executor, run on the call of Of in alive; no conditions.
-/
import Derived.Test.YtdlebiapcceneaaGreatDoorNfb1
set_option linter.unusedVariables false
set_option linter.unusedSimpArgs false
set_option linter.unusedSectionVars false
namespace Go.AX
theorem run_of : fixOf.done (callN E0 1000 100 37 fixOf.args fixOf.h0) = true := by kernel_rfl
end Go.AX
