/-
  Contracts of functions of this seat, for every input that each theorem names.
-/
import Derived.SevenTiedAt
import Derived.ChangeOld
import Derived.Carry
import Derived.KernelRfl
import Derived.JoinedOf
import Derived.Test.YtfdnpjbmhoapcaaGreatDoorTie
import Derived.Test.YtfdnpjbmhoapcaaGreatDoorCards
set_option linter.all false
set_option maxHeartbeats 32000000
namespace Go.Proofs.YtfdnpjbmhoapcaaGreatDoor.bU
open Go Go.Proofs
def j9:(λ(P:Program)(f:FuncId)(fn:Func)(s:ChangeSpec)(c:OpenClaim)=>(c.inPlace == P.inPlace f)) Tryz.pinned.checked.prog 3 Tryz.f3 Rows.readingNormalAgainSpec Rows.readingNormalAgainRow=true:=by kernel_rfl
def j10:(λ(P:Program)(f:FuncId)(fn:Func)(s:ChangeSpec)(c:OpenClaim)=>(c.unfollowed == P.unfollowed f)) Tryz.pinned.checked.prog 3 Tryz.f3 Rows.readingNormalAgainSpec Rows.readingNormalAgainRow=true:=by kernel_rfl
end Go.Proofs.YtfdnpjbmhoapcaaGreatDoor.bU
