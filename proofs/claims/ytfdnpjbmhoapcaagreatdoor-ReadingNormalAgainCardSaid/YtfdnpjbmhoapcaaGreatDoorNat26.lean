/-
  Contracts of functions of this seat, for every input that each theorem names.
-/
import Derived.SevenTiedAt
import Derived.ChangeOld
import Derived.Carry
import Derived.KernelRfl
import Derived.JoinedOf
import Derived.Test.YtfdnpjbmhoapcaaGreatDoorTie
import Derived.Test.YtfdnpjbmhoapcaaGreatDoorCards
set_option linter.all false
set_option maxHeartbeats 32000000
namespace Go.Proofs.YtfdnpjbmhoapcaaGreatDoor.bU
open Go Go.Proofs
def cwf:Rows.readingNormalAgainRow.wfByText (OpenSpec.ofChange Rows.readingNormalAgainSpec)=true:=by kernel_rfl
def aeO:Tryz.pinned.checked.prog.mainIs=some (true,("b850eaa2e0fea673580a735ca44b7370d4ead15612b2110e3fd4cf8614c0681b":String).toList):=by kernel_rfl
def aaW:true=Tryz.pinned.checked.prog.looks []:=by kernel_rfl
def aa6:([25,9].all λu=>!Tryz.prog.wantsStandIn u)=true:=by kernel_rfl
def aeK:false=Rows.readingNormalAgainRow.goesBy Tryz.pinned.checked.prog:=by kernel_rfl
def aeP:Tryz.prog.funcNamed "restante/restantelaw01.ReadingNormalAgain" = some 3:=by kernel_rfl
def own:ownKnob Tryz.prog.godebug=none:=by kernel_rfl
end Go.Proofs.YtfdnpjbmhoapcaaGreatDoor.bU
