/-
  Contracts of functions of this seat, for every input that each theorem names.
-/
import Derived.SevenTiedAt
import Derived.ChangeOld
import Derived.Carry
import Derived.KernelRfl
import Derived.JoinedOf
import Derived.Test.YtfdnpjbmhoapcaaGreatDoorTie
import Derived.Test.YtfdnpjbmhoapcaaGreatDoorCards
set_option linter.all false
set_option maxHeartbeats 32000000
namespace Go.Proofs.YtfdnpjbmhoapcaaGreatDoor.bU
open Go Go.Proofs
def j0:(λ(P:Program)(f:FuncId)(fn:Func)(s:ChangeSpec)(c:OpenClaim)=>c.wf (OpenSpec.ofChange s)) Tryz.pinned.checked.prog 3 Tryz.f3 Rows.readingNormalAgainSpec Rows.readingNormalAgainRow=true:=by kernel_rfl
def j3:(λ(P:Program)(f:FuncId)(fn:Func)(s:ChangeSpec)(c:OpenClaim)=>fn.params.all (P.readableRec ·)) Tryz.pinned.checked.prog 3 Tryz.f3 Rows.readingNormalAgainSpec Rows.readingNormalAgainRow=true:=by kernel_rfl
def j4:(λ(P:Program)(f:FuncId)(fn:Func)(s:ChangeSpec)(c:OpenClaim)=>namedTie P c.named s.vars) Tryz.pinned.checked.prog 3 Tryz.f3 Rows.readingNormalAgainSpec Rows.readingNormalAgainRow=true:=by kernel_rfl
def j5:(λ(P:Program)(f:FuncId)(fn:Func)(s:ChangeSpec)(c:OpenClaim)=>(c.stops == [])) Tryz.pinned.checked.prog 3 Tryz.f3 Rows.readingNormalAgainSpec Rows.readingNormalAgainRow=true:=by kernel_rfl
def j6:(λ(P:Program)(f:FuncId)(fn:Func)(s:ChangeSpec)(c:OpenClaim)=>(P.stops == [])) Tryz.pinned.checked.prog 3 Tryz.f3 Rows.readingNormalAgainSpec Rows.readingNormalAgainRow=true:=by kernel_rfl
def j7:(λ(P:Program)(f:FuncId)(fn:Func)(s:ChangeSpec)(c:OpenClaim)=>(c.knobs == [])) Tryz.pinned.checked.prog 3 Tryz.f3 Rows.readingNormalAgainSpec Rows.readingNormalAgainRow=true:=by kernel_rfl
def j8:(λ(P:Program)(f:FuncId)(fn:Func)(s:ChangeSpec)(c:OpenClaim)=>(P.stopKnobs == [])) Tryz.pinned.checked.prog 3 Tryz.f3 Rows.readingNormalAgainSpec Rows.readingNormalAgainRow=true:=by kernel_rfl
def j13:(λ(P:Program)(f:FuncId)(fn:Func)(s:ChangeSpec)(c:OpenClaim)=>(c.maps == (fn.params.toList++s.plain.varTypes P).any (P.mapsRec ·))) Tryz.pinned.checked.prog 3 Tryz.f3 Rows.readingNormalAgainSpec Rows.readingNormalAgainRow=true:=by kernel_rfl
def j14:(λ(P:Program)(f:FuncId)(fn:Func)(s:ChangeSpec)(c:OpenClaim)=>(c.ifaces == (fn.params.toList++s.plain.varTypes P).any (P.ifacesRec ·))) Tryz.pinned.checked.prog 3 Tryz.f3 Rows.readingNormalAgainSpec Rows.readingNormalAgainRow=true:=by kernel_rfl
def j15:(λ(P:Program)(f:FuncId)(fn:Func)(s:ChangeSpec)(c:OpenClaim)=>(c.mapsOut == P.mapsAmong fn.resultTypes.toList)) Tryz.pinned.checked.prog 3 Tryz.f3 Rows.readingNormalAgainSpec Rows.readingNormalAgainRow=true:=by kernel_rfl
def j16:(λ(P:Program)(f:FuncId)(fn:Func)(s:ChangeSpec)(c:OpenClaim)=>(c.loops == (fn.params.toList++s.plain.varTypes P).any (P.loopsFrom ·))) Tryz.pinned.checked.prog 3 Tryz.f3 Rows.readingNormalAgainSpec Rows.readingNormalAgainRow=true:=by kernel_rfl
def j17:(λ(P:Program)(f:FuncId)(fn:Func)(s:ChangeSpec)(c:OpenClaim)=>(c.wideKeys == (fn.params.toList++s.plain.varTypes P++fn.resultTypes.toList).any (P.wideKeysFrom ·))) Tryz.pinned.checked.prog 3 Tryz.f3 Rows.readingNormalAgainSpec Rows.readingNormalAgainRow=true:=by kernel_rfl
def j18:(λ(P:Program)(f:FuncId)(fn:Func)(s:ChangeSpec)(c:OpenClaim)=>s.vars.all (P.varReadable ·)) Tryz.pinned.checked.prog 3 Tryz.f3 Rows.readingNormalAgainSpec Rows.readingNormalAgainRow=true:=by kernel_rfl
def j19:(λ(P:Program)(f:FuncId)(fn:Func)(s:ChangeSpec)(c:OpenClaim)=>fn.resultTypes.all (λt=>P.readableRec t && decide (t<P.types.size))) Tryz.pinned.checked.prog 3 Tryz.f3 Rows.readingNormalAgainSpec Rows.readingNormalAgainRow=true:=by kernel_rfl
def j20:(λ(P:Program)(f:FuncId)(fn:Func)(s:ChangeSpec)(c:OpenClaim)=>(c.ifacesOut == fn.resultTypes.toList.any (P.ifacesRec ·))) Tryz.pinned.checked.prog 3 Tryz.f3 Rows.readingNormalAgainSpec Rows.readingNormalAgainRow=true:=by kernel_rfl
def j21:(λ(P:Program)(f:FuncId)(fn:Func)(s:ChangeSpec)(c:OpenClaim)=>(c.loopsOut == fn.resultTypes.toList.any (P.loopsFrom ·))) Tryz.pinned.checked.prog 3 Tryz.f3 Rows.readingNormalAgainSpec Rows.readingNormalAgainRow=true:=by kernel_rfl
def j22:(λ(P:Program)(f:FuncId)(fn:Func)(s:ChangeSpec)(c:OpenClaim)=>(c.plainKeys == P.plainKeys)) Tryz.pinned.checked.prog 3 Tryz.f3 Rows.readingNormalAgainSpec Rows.readingNormalAgainRow=true:=by kernel_rfl
def j23:(λ(P:Program)(f:FuncId)(fn:Func)(s:ChangeSpec)(c:OpenClaim)=>c.shortTexts.isNone) Tryz.pinned.checked.prog 3 Tryz.f3 Rows.readingNormalAgainSpec Rows.readingNormalAgainRow=true:=by kernel_rfl
def j24:(λ(P:Program)(f:FuncId)(fn:Func)(s:ChangeSpec)(c:OpenClaim)=>P.stopsHeard) Tryz.pinned.checked.prog 3 Tryz.f3 Rows.readingNormalAgainSpec Rows.readingNormalAgainRow=true:=by kernel_rfl
def j28:(λ(P:Program)(f:FuncId)(fn:Func)(s:ChangeSpec)(c:OpenClaim)=>(c.kinds == (if c.domain.isEmpty then[] else fn.params.toList.map λt=>match P.underlying t with|some (.int k)=>some k|_=>none))) Tryz.pinned.checked.prog 3 Tryz.f3 Rows.readingNormalAgainSpec Rows.readingNormalAgainRow=true:=by kernel_rfl
def j29:(λ(P:Program)(f:FuncId)(fn:Func)(s:ChangeSpec)(c:OpenClaim)=>(c.pinned == c.pinnedBy)) Tryz.pinned.checked.prog 3 Tryz.f3 Rows.readingNormalAgainSpec Rows.readingNormalAgainRow=true:=by kernel_rfl
def j30:(λ(P:Program)(f:FuncId)(fn:Func)(s:ChangeSpec)(c:OpenClaim)=>(c.veiled == (fn.params.toList++s.plain.varTypes P++fn.resultTypes.toList).any (P.veiledRec ·))) Tryz.pinned.checked.prog 3 Tryz.f3 Rows.readingNormalAgainSpec Rows.readingNormalAgainRow=true:=by kernel_rfl
def j31:(λ(P:Program)(f:FuncId)(fn:Func)(s:ChangeSpec)(c:OpenClaim)=>c.veiledFits P fn.params.toList (fn.params.toList++s.plain.varTypes P++fn.resultTypes.toList)) Tryz.pinned.checked.prog 3 Tryz.f3 Rows.readingNormalAgainSpec Rows.readingNormalAgainRow=true:=by kernel_rfl
def af3:Tryz.f3.isInstance Tryz.pinned.checked.prog Rows.readingNormalAgainRow.origin Rows.readingNormalAgainRow.targs:=of_decide_eq_true (by kernel_rfl)
def Tz:Tryz.f3.isWrapper Tryz.pinned.checked.prog Rows.readingNormalAgainRow.wrapper Rows.readingNormalAgainRow.mainSum:=by unfold Func.isWrapper;first|(rw[if_pos (by decide +kernel)];kernel_rfl)|(rw[if_neg (by decide +kernel)];exact⟨rfl,rfl⟩)
def ab5:Tryz.pinned.checked.prog.funcNamed Rows.readingNormalAgainRow.func=some 3:=by kernel_rfl
end Go.Proofs.YtfdnpjbmhoapcaaGreatDoor.bU
