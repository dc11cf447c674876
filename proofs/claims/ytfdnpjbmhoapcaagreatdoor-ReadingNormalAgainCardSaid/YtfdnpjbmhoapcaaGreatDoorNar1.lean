/-
  A call of alive returns true, on every tape and in every memory in which the tables are laid as the program lays them.
-/
import Derived.Test.YtfdnpjbmhoapcaaGreatDoorNab1
set_option linter.all false
set_option maxHeartbeats 32000000
namespace Go.AX
open Go Go.Proofs Go.RowKit
noncomputable def Uu:b9:=λf args h=>aO (Nat.beq f 12) (EM E0 (ba E0 1000 100) 1000 args h) none
def Pz:r5.done (Uu 12 r5.args r5.h0)=true:=by kernel_rfl
end Go.AX
