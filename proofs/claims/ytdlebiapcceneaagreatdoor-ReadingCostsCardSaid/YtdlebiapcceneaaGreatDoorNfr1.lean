/-
  The executor, run on the call of Parse in alive; no conditions.
-/
import Derived.Test.YtdlebiapcceneaaGreatDoorNfb1
set_option linter.unusedVariables false
set_option linter.unusedSimpArgs false
set_option linter.unusedSectionVars false
namespace Go.AX
open Go Go.Proofs Go.RowKit
noncomputable def parseF : CallF := fun f args h => ifT (Nat.beq f 16) (parseR E0 (callN E0 1000 100) 1000 args h) none
theorem run_parse : fixParse.done (parseF 16 fixParse.args fixParse.h0) = true := by kernel_rfl
end Go.AX
