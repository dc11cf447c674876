/-
  The values between the calls of the function alive; definitions alone.
-/
import Derived.Test.YtdlebiapcceneaaGreatDoorAx3
set_option linter.unusedVariables false
set_option linter.unusedSimpArgs false
set_option linter.unusedSectionVars false
namespace Go.AX
noncomputable def rowsA : List (Nat × List AVal × TypeId) :=
  [(804, [.slice 31 0 1 1 true, .slice 314 0 2 2 false, .slice 783 0 3 3 false], 55), (31, [.str [99], .int .i64 0], 57), (314, [.str [97], .int .i64 0, .str [101], .int .i64 2], 57),
   (783, [.str [114, 110], .int .i64 0, .str [109], .int .i64 1, .str [], .int .i64 9], 57)]
noncomputable def cellsA : AVal := .slice 804 0 3 3 false
noncomputable def textA : AVal := .str [99, 40, 97, 124, 101, 58, 50, 41, 40, 114, 110, 124, 109, 58, 49, 124, 58, 57, 41]
noncomputable def fixParse : Fix := ⟨0, [textA], [], .tup [cellsA, .int .i64 0], rowsA, 863⟩
noncomputable def rowsB : List (Nat × List AVal × TypeId) :=
  [(8400, [.int .i64 0, .int .i64 1, .int .u8 99, .int .i64 0, .int .i64 1, .int .i64 2, .int .u8 97, .int .i64 0, .int .i64 1, .int .i64 2, .int .u8 101, .int .i64 2, .int .i64 2, .int .i64 3, .int .u8 114, .int .i64 0, .int .i64 2, .int .i64 4, .int .u8 109, .int .i64 1, .int .i64 3, .int .i64 4, .int .u8 110, .int .i64 0], 84),
   (8402, [.int .i64 2, .int .i64 9, .int .i64 4, .int .i64 0], 87)]
noncomputable def autoA : AVal := .agg [.int .i64 5, .slice 8400 0 6 6 false, .slice 8402 0 2 2 false]
noncomputable def fixOf : Fix := ⟨863, [cellsA], rowsA, .tup [autoA, .int .i64 0], rowsB, 8909⟩
noncomputable def rowsR : List (Nat × List AVal × TypeId) := [(18150, [.str [99, 97, 114, 110], .int .i64 0, .str [99, 97, 109], .int .i64 1, .str [99, 101, 114, 110], .int .i64 2, .str [99, 101, 109], .int .i64 3, .str [99, 97], .int .i64 9, .str [99, 101], .int .i64 11], 71)]
noncomputable def readA : AVal := .slice 18150 0 6 6 false
noncomputable def fixBest : Fix := ⟨8910, [autoA, .int .i64 10], rowsB, .tup [readA, .int .i64 0], rowsR, 18153⟩
end Go.AX

