/-
  DERIVED. GIVEN WITH THE SEED: THE CARDS: each row of YtfdnpjbmhoapcaaGreatDoorRows.lean that lists a variable, with what it lists TIED to the program's text (the seventh form; the later family's looks); each row that meets fmt, with fmt's text TOLD by the authors' own Lean function (tested against real Go, not proved from fmt's source: count such statements apart). THE CARD IS WHAT COUNTS. Prove the row's statement (the work); the ties are given (YtfdnpjbmhoapcaaGreatDoorTie.lean); close each card by the builder's one call (the guide's Derived/Test/ToyasCard.lean, 'card_holds'). Laid BY PROGRAM, IN A SANDBOX (cutbox-door.mjs). By AI agents, Wed Nov 11 2026. No macro, syntax, notation, axiom, sorry.
-/
import Derived.Test.YtfdnpjbmhoapcaaGreatDoorRows
import GoSem.ClaimSeven
namespace Go.Proofs.YtfdnpjbmhoapcaaGreatDoor
namespace Rows

/-- THE TIED CARD OF 'restantelaw01.ReadingNormalAgain'. -/
def readingNormalAgainCard : Claim7 := { stood := { row := readingNormalAgainRow, standIns := [], harness := (true, "b850eaa2e0fea673580a735ca44b7370d4ead15612b2110e3fd4cf8614c0681b"), looks := true }, kinds := [], alts := [], laidByText := true, laidKinds := [.data, .data, .data, .sentinel, .sentinel], laidTests := true, laidLooks := .later }
def ReadingNormalAgainCardSaid : Prop := Claim7.holds Tryz.pinned (.plain (OpenSpec.ofChange readingNormalAgainSpec)) readingNormalAgainCard

/-- THE SECOND FORM's CARD OF 'restantelaw01.ReadingNormalAgain'. -/
def readingNormalAgainUptoCard : Claim7 := { stood := { row := readingNormalAgainUptoRow, standIns := [], harness := (true, "b850eaa2e0fea673580a735ca44b7370d4ead15612b2110e3fd4cf8614c0681b"), looks := true }, kinds := [], alts := [], laidByText := true, laidKinds := [.data, .data, .data, .sentinel, .sentinel], laidTests := true, laidLooks := .later }
def ReadingNormalAgainUptoCardSaid : Prop := Claim7.holds Tryz.pinned (.plain (OpenSpec.upto readingNormalAgainSpec)) readingNormalAgainUptoCard
end Rows
end Go.Proofs.YtfdnpjbmhoapcaaGreatDoor
