/-
  DERIVED. GIVEN WITH THE SEED: THE CARDS: each row of YtdlebiapcceneaaGreatDoorRows.lean that lists a variable, with what it lists TIED to the program's text (the seventh form; the later family's looks); each row that meets fmt, with fmt's text TOLD by the authors' own Lean function (tested against real Go, not proved from fmt's source: count such statements apart). THE CARD IS WHAT COUNTS. Prove the row's statement (the work); the ties are given (YtdlebiapcceneaaGreatDoorTie.lean); close each card by the builder's one call (the guide's Derived/Test/ToyasCard.lean, 'card_holds'). Laid BY PROGRAM, IN A SANDBOX (cutbox-door.mjs). By AI agents, Wed Nov 11 2026. No macro, syntax, notation, axiom, sorry.
-/
import Derived.Test.YtdlebiapcceneaaGreatDoorRows
import GoSem.ClaimSeven
namespace Go.Proofs.YtdlebiapcceneaaGreatDoor
namespace Rows

/-- THE TIED CARD OF 'restantelaw01.ReadingCells'. -/
def readingCellsCard : Claim7 := { stood := { row := readingCellsRow, standIns := [], harness := (true, "73877024234fc0bedd2288bd1958e758679464b1bf90dc6b6bffaef126394ab8"), looks := true }, kinds := [], alts := [], laidByText := true, laidKinds := [.data, .data, .data, .sentinel, .sentinel], laidTests := true, laidLooks := .later }
def ReadingCellsCardSaid : Prop := Claim7.holds Tryz.pinned (.plain (OpenSpec.ofChange readingCellsSpec)) readingCellsCard

/-- THE TIED CARD OF 'restantelaw01.ReadingParses'. -/
def readingParsesCard : Claim7 := { stood := { row := readingParsesRow, standIns := [], harness := (true, "73877024234fc0bedd2288bd1958e758679464b1bf90dc6b6bffaef126394ab8"), looks := true }, kinds := [], alts := [], laidByText := true, laidKinds := [.data, .data, .data, .sentinel, .sentinel], laidTests := true, laidLooks := .later }
def ReadingParsesCardSaid : Prop := Claim7.holds Tryz.pinned (.plain (OpenSpec.ofChange readingParsesSpec)) readingParsesCard

/-- THE TIED CARD OF 'restantelaw01.ReadingPrints'. -/
def readingPrintsCard : Claim7 := { stood := { row := readingPrintsRow, standIns := [], harness := (true, "73877024234fc0bedd2288bd1958e758679464b1bf90dc6b6bffaef126394ab8"), looks := true }, kinds := [], alts := [], laidByText := true, laidKinds := [.data, .data, .data, .sentinel, .sentinel], laidTests := true, laidLooks := .later }
def ReadingPrintsCardSaid : Prop := Claim7.holds Tryz.pinned (.plain (OpenSpec.ofChange readingPrintsSpec)) readingPrintsCard

/-- THE TIED CARD OF 'restantelaw01.ReadingChecks'. -/
def readingChecksCard : Claim7 := { stood := { row := readingChecksRow, standIns := [], harness := (true, "73877024234fc0bedd2288bd1958e758679464b1bf90dc6b6bffaef126394ab8"), looks := true }, kinds := [], alts := [], laidByText := true, laidKinds := [.data, .data, .data, .sentinel, .sentinel], laidTests := true, laidLooks := .later }
def ReadingChecksCardSaid : Prop := Claim7.holds Tryz.pinned (.plain (OpenSpec.ofChange readingChecksSpec)) readingChecksCard

/-- THE TIED CARD OF 'restantelaw01.ReadingCosts'. -/
def readingCostsCard : Claim7 := { stood := { row := readingCostsRow, standIns := [], harness := (true, "73877024234fc0bedd2288bd1958e758679464b1bf90dc6b6bffaef126394ab8"), looks := true }, kinds := [], alts := [], laidByText := true, laidKinds := [.data, .data, .data, .sentinel, .sentinel], laidTests := true, laidLooks := .later }
def ReadingCostsCardSaid : Prop := Claim7.holds Tryz.pinned (.plain (OpenSpec.ofChange readingCostsSpec)) readingCostsCard

/-- THE TIED CARD OF 'restantelaw01.ReadingLetters'. -/
def readingLettersCard : Claim7 := { stood := { row := readingLettersRow, standIns := [], harness := (true, "73877024234fc0bedd2288bd1958e758679464b1bf90dc6b6bffaef126394ab8"), looks := true }, kinds := [], alts := [], laidByText := true, laidKinds := [.data, .data, .data, .sentinel, .sentinel], laidTests := true, laidLooks := .later }
def ReadingLettersCardSaid : Prop := Claim7.holds Tryz.pinned (.plain (OpenSpec.ofChange readingLettersSpec)) readingLettersCard

/-- THE TIED CARD OF 'restantelaw01.ReadingWords'. -/
def readingWordsCard : Claim7 := { stood := { row := readingWordsRow, standIns := [], harness := (true, "73877024234fc0bedd2288bd1958e758679464b1bf90dc6b6bffaef126394ab8"), looks := true }, kinds := [], alts := [], laidByText := true, laidKinds := [.data, .data, .data, .sentinel, .sentinel], laidTests := true, laidLooks := .later }
def ReadingWordsCardSaid : Prop := Claim7.holds Tryz.pinned (.plain (OpenSpec.ofChange readingWordsSpec)) readingWordsCard

/-- THE TIED CARD OF 'restantelaw01.ReadingNarrows'. -/
def readingNarrowsCard : Claim7 := { stood := { row := readingNarrowsRow, standIns := [], harness := (true, "73877024234fc0bedd2288bd1958e758679464b1bf90dc6b6bffaef126394ab8"), looks := true }, kinds := [], alts := [], laidByText := true, laidKinds := [.data, .data, .data, .sentinel, .sentinel], laidTests := true, laidLooks := .later }
def ReadingNarrowsCardSaid : Prop := Claim7.holds Tryz.pinned (.plain (OpenSpec.ofChange readingNarrowsSpec)) readingNarrowsCard

/-- THE SECOND FORM's CARD OF 'restantelaw01.ReadingCells'. -/
def readingCellsUptoCard : Claim7 := { stood := { row := readingCellsUptoRow, standIns := [], harness := (true, "73877024234fc0bedd2288bd1958e758679464b1bf90dc6b6bffaef126394ab8"), looks := true }, kinds := [], alts := [], laidByText := true, laidKinds := [.data, .data, .data, .sentinel, .sentinel], laidTests := true, laidLooks := .later }
def ReadingCellsUptoCardSaid : Prop := Claim7.holds Tryz.pinned (.plain (OpenSpec.upto readingCellsSpec)) readingCellsUptoCard

/-- THE SECOND FORM's CARD OF 'restantelaw01.ReadingParses'. -/
def readingParsesUptoCard : Claim7 := { stood := { row := readingParsesUptoRow, standIns := [], harness := (true, "73877024234fc0bedd2288bd1958e758679464b1bf90dc6b6bffaef126394ab8"), looks := true }, kinds := [], alts := [], laidByText := true, laidKinds := [.data, .data, .data, .sentinel, .sentinel], laidTests := true, laidLooks := .later }
def ReadingParsesUptoCardSaid : Prop := Claim7.holds Tryz.pinned (.plain (OpenSpec.upto readingParsesSpec)) readingParsesUptoCard

/-- THE SECOND FORM's CARD OF 'restantelaw01.ReadingPrints'. -/
def readingPrintsUptoCard : Claim7 := { stood := { row := readingPrintsUptoRow, standIns := [], harness := (true, "73877024234fc0bedd2288bd1958e758679464b1bf90dc6b6bffaef126394ab8"), looks := true }, kinds := [], alts := [], laidByText := true, laidKinds := [.data, .data, .data, .sentinel, .sentinel], laidTests := true, laidLooks := .later }
def ReadingPrintsUptoCardSaid : Prop := Claim7.holds Tryz.pinned (.plain (OpenSpec.upto readingPrintsSpec)) readingPrintsUptoCard

/-- THE SECOND FORM's CARD OF 'restantelaw01.ReadingChecks'. -/
def readingChecksUptoCard : Claim7 := { stood := { row := readingChecksUptoRow, standIns := [], harness := (true, "73877024234fc0bedd2288bd1958e758679464b1bf90dc6b6bffaef126394ab8"), looks := true }, kinds := [], alts := [], laidByText := true, laidKinds := [.data, .data, .data, .sentinel, .sentinel], laidTests := true, laidLooks := .later }
def ReadingChecksUptoCardSaid : Prop := Claim7.holds Tryz.pinned (.plain (OpenSpec.upto readingChecksSpec)) readingChecksUptoCard

/-- THE SECOND FORM's CARD OF 'restantelaw01.ReadingCosts'. -/
def readingCostsUptoCard : Claim7 := { stood := { row := readingCostsUptoRow, standIns := [], harness := (true, "73877024234fc0bedd2288bd1958e758679464b1bf90dc6b6bffaef126394ab8"), looks := true }, kinds := [], alts := [], laidByText := true, laidKinds := [.data, .data, .data, .sentinel, .sentinel], laidTests := true, laidLooks := .later }
def ReadingCostsUptoCardSaid : Prop := Claim7.holds Tryz.pinned (.plain (OpenSpec.upto readingCostsSpec)) readingCostsUptoCard

/-- THE SECOND FORM's CARD OF 'restantelaw01.ReadingLetters'. -/
def readingLettersUptoCard : Claim7 := { stood := { row := readingLettersUptoRow, standIns := [], harness := (true, "73877024234fc0bedd2288bd1958e758679464b1bf90dc6b6bffaef126394ab8"), looks := true }, kinds := [], alts := [], laidByText := true, laidKinds := [.data, .data, .data, .sentinel, .sentinel], laidTests := true, laidLooks := .later }
def ReadingLettersUptoCardSaid : Prop := Claim7.holds Tryz.pinned (.plain (OpenSpec.upto readingLettersSpec)) readingLettersUptoCard

/-- THE SECOND FORM's CARD OF 'restantelaw01.ReadingWords'. -/
def readingWordsUptoCard : Claim7 := { stood := { row := readingWordsUptoRow, standIns := [], harness := (true, "73877024234fc0bedd2288bd1958e758679464b1bf90dc6b6bffaef126394ab8"), looks := true }, kinds := [], alts := [], laidByText := true, laidKinds := [.data, .data, .data, .sentinel, .sentinel], laidTests := true, laidLooks := .later }
def ReadingWordsUptoCardSaid : Prop := Claim7.holds Tryz.pinned (.plain (OpenSpec.upto readingWordsSpec)) readingWordsUptoCard

/-- THE SECOND FORM's CARD OF 'restantelaw01.ReadingNarrows'. -/
def readingNarrowsUptoCard : Claim7 := { stood := { row := readingNarrowsUptoRow, standIns := [], harness := (true, "73877024234fc0bedd2288bd1958e758679464b1bf90dc6b6bffaef126394ab8"), looks := true }, kinds := [], alts := [], laidByText := true, laidKinds := [.data, .data, .data, .sentinel, .sentinel], laidTests := true, laidLooks := .later }
def ReadingNarrowsUptoCardSaid : Prop := Claim7.holds Tryz.pinned (.plain (OpenSpec.upto readingNarrowsSpec)) readingNarrowsUptoCard
end Rows
end Go.Proofs.YtdlebiapcceneaaGreatDoor
