/-
  Contracts of functions of this seat, for every input that each theorem names.
-/
import Derived.Test.YtfdnpjbmhoapcaaGreatDoorNaw1
import Derived.Sort.Grow
import Derived.Deep.Draws
import Derived.Test.YtfdnpjbmhoapcaaGreatDoorNat7
import Derived.Lib.Walk
import Derived.WalkKit
import Derived.Deep.LoopGhost
set_option linter.all false
set_option maxHeartbeats 32000000
namespace Go.AX
open Go.RowKit
noncomputable section
def Xi {W w':World}(Z0:w'.os=W.os)(htp:w'.tape=W.tape)(hd:W.drawn<=w'.drawn)(J1:w'.output=W.output)(iq:W.heap.size<=w'.heap.size)(hk:∀b,b<W.heap.size->w'.heap[b]?=W.heap[b]?) :
 ∃q os,w'=Sort.grow (W.drewN q) os:=by
 refine⟨w'.drawn-W.drawn,w'.heap.extract W.heap.size w'.heap.size,?_⟩;cases w' with
 |mk hp tp dr o out =>
  unfold Sort.grow World.drewN;simp only at Z0 htp hd J1 iq hk ⊢;subst Z0;subst htp;subst J1;congr 1
  .apply Array.ext_getElem?;intro i;rw[Array.getElem?_append];split
   .rename_i h;exact hk i h
   .rename_i h;rw[Array.getElem?_extract];split
    .congr 1;omega
    .rename_i h2;rw[Array.getElem?_eq_none];omega
  .omega
end
end Go.AX
namespace Go.Proofs
open Go.Shelf Go.RowKit Go.Lib Go.Sort
end Go.Proofs
