/-
  The tied card of ReadingChecks holds: for every automaton Check returns what the reference returns; conditions: those of the row, no others.
-/
import Derived.Test.YtdlebiapcceneaaGreatDoorKp1
import Derived.Test.YtdlebiapcceneaaGreatDoorKs1
import Derived.Test.YtdlebiapcceneaaGreatDoorKv1
set_option linter.unusedVariables false
set_option linter.unusedSimpArgs false
set_option linter.unusedSectionVars false
namespace Go.Proofs.YtdlebiapcceneaaGreatDoor.Checks
open Go Go.Proofs Go.RowKit Go.AX
open Go.Proofs.YtdlebiapcceneaaGreatDoor.Leaf Go.Proofs.YtdlebiapcceneaaGreatDoorW.PrintWords
theorem walked : Walked := by
  intro a0 arcs ends w A c B e hC hc hE he hb hw
  obtain ⟨k, r, h1, h2⟩ := check_ok a0 arcs ends hb
  exact checks_walk a0 arcs ends w A c B e r hC hc hE he (fun w A c B e hC hc hE he => reading_Check.calls k a0 A c arcs B e ends r w hC hc hE he h1) (fun w A c B e hC hc hE he => restanteref01_Check.calls k a0 A c arcs B e ends r w hC hc hE he h2) hw
theorem card_holds : Rows.ReadingChecksCardSaid := card_of walked
#print axioms card_holds
end Go.Proofs.YtdlebiapcceneaaGreatDoor.Checks
