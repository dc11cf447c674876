/-
  A call of alive returns true, on every tape and in every memory in which the tables are laid as the program lays them.
-/
import Derived.Test.YtfdnpjbmhoapcaaGreatDoorNab1
set_option linter.all false
set_option maxHeartbeats 32000000
namespace Go.AX
def ads:Gs.done (ba E0 1000 100 13 Gs.args Gs.h0)=true:=by kernel_rfl
end Go.AX
