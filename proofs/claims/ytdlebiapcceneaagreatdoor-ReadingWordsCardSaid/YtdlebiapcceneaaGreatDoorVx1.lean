/-
  The tied card of ReadingWords holds: for every string and every cost Word returns what the reference returns; conditions: those of the row, no others.
-/
import Derived.Test.YtdlebiapcceneaaGreatDoorVc1
import Derived.Test.YtdlebiapcceneaaGreatDoorVw1
import Derived.Test.YtdlebiapcceneaaGreatDoorVr1
set_option linter.unusedVariables false
set_option linter.unusedSimpArgs false
set_option linter.unusedSectionVars false
namespace Go.Proofs.YtdlebiapcceneaaGreatDoor.Words
open Go Go.Proofs Go.RowKit Go.AX
open Go.Proofs.YtdlebiapcceneaaGreatDoor.Leaf

theorem walked : Walked := by
  intro s c w hw
  obtain ⟨k, r1, r2, r3, r4, h1, h2, h3, h4⟩ := word_ok s c
  exact words_walk s c w r1 r2 r3 r4 (fun w => reading_Word.calls k s c r1 r2 r3 r4 w h1) (fun w => restanteref01_Word.calls (k + 41) s c r1 r2 r3 r4 w h2) h3 h4 hw
theorem card_holds : Rows.ReadingWordsCardSaid := card_of walked
#print axioms card_holds
end Go.Proofs.YtdlebiapcceneaaGreatDoor.Words

