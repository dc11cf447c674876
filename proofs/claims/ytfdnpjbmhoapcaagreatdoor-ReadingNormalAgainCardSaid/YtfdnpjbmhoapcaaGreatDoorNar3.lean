/-
  A call of alive returns true, on every tape and in every memory in which the tables are laid as the program lays them.
-/
import Derived.Test.YtfdnpjbmhoapcaaGreatDoorNab1
set_option linter.all false
set_option maxHeartbeats 32000000
namespace Go.AX
open Go Go.Proofs Go.RowKit
noncomputable def Y9:b9:=λf args h=>aO (Nat.beq f 14) (Lt E0 (ba E0 1000 100) 1000 args h) none
def UM:vv.done (Y9 14 vv.args vv.h0)=true:=by kernel_rfl
end Go.AX
