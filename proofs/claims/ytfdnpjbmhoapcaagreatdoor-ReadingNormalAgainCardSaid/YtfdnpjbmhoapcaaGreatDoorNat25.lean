/-
  Contracts of functions of this seat, for every input that each theorem names.
-/
import Derived.Test.YtfdnpjbmhoapcaaGreatDoorNat18
import Derived.Test.YtfdnpjbmhoapcaaGreatDoorNat19
import Derived.Test.YtfdnpjbmhoapcaaGreatDoorNat20
import Derived.Test.YtfdnpjbmhoapcaaGreatDoorNat21
import Derived.Test.YtfdnpjbmhoapcaaGreatDoorNat22
import Derived.Test.YtfdnpjbmhoapcaaGreatDoorNat23
import Derived.Test.YtfdnpjbmhoapcaaGreatDoorNat24
set_option linter.all false
set_option maxHeartbeats 32000000
namespace Go.Proofs.YtfdnpjbmhoapcaaGreatDoor.bU
open Go Go.Proofs
def jL {a b:Bool}(h:a=true)(g:b=true):(a && b)=true:=by rw[h,g];rfl
set_option maxRecDepth 100000 in
def acC:joinedFacts Tryz.pinned.checked.prog 3 Tryz.f3 Rows.readingNormalAgainSpec Rows.readingNormalAgainRow=true:=by
 unfold joinedFacts;refine jL ?_ j31;refine jL ?_ j30;refine jL ?_ j29;refine jL ?_ j28;refine jL ?_ j27;refine jL ?_ j26;refine jL ?_ j25;refine jL ?_ j24;refine jL ?_ j23;refine jL ?_ j22;refine jL ?_ j21;refine jL ?_ j20;refine jL ?_ j19;refine jL ?_ j18;refine jL ?_ j17;refine jL ?_ j16;refine jL ?_ j15;refine jL ?_ j14;refine jL ?_ j13;refine jL ?_ j12;refine jL ?_ j11;refine jL ?_ j10;refine jL ?_ j9;refine jL ?_ j8;refine jL ?_ j7;refine jL ?_ j6;refine jL ?_ j5;refine jL ?_ j4;refine jL ?_ j3;refine jL ?_ j2;refine jL ?_ j1;exact j0
end Go.Proofs.YtfdnpjbmhoapcaaGreatDoor.bU
