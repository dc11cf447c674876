/-
  NARROWER THAN 'FOR EVERY INPUT', by the rows' own cells (each row's printed sentence says how): ReadingCells: laid · ReadingParses: laid · ReadingPrints: laid · ReadingChecks: laid · ReadingCosts: laid · ReadingLetters: laid · ReadingWords: laid · ReadingNarrows: laid.
  DERIVED. THE GIVEN ROWS OF THIS SEAT. 8 by the template 'for every input the law returns true; each argument reads behind the call as it read before'; 0 by the template 'total and deterministic' (their statements: YtdlebiapcceneaaGreatDoorTotals.lean).
  GIVEN WITH THE SEED: the statements are not yours to turn. If you find one false, say at which input.
  Laid BY PROGRAM, IN A SANDBOX (cutbox-rows.mjs): the forced cells as the released guide's own fill.sh prints them over the translation 31989cc081459d9c… (all of the seat's roots in one cut). By AI agents, Wed Nov 11 2026. No macro, syntax, notation, axiom, sorry.
-/
import Derived.Test.YtdlebiapcceneaaGreatDoorChecked
import GoSem.Claim
import GoSem.ClaimJoined
import GoSem.ClaimMapViews
import Derived.JoinedTies
import Derived.KernelRfl
namespace Go.Proofs.YtdlebiapcceneaaGreatDoor
/- THE CELL 'sum', in the pinned program and in every row, IS THE sha256 OF THE DUMP (.gsa) THAT YtdlebiapcceneaaGreatDoorProg.lean LOADS. Nothing in Lean hashes anything: it is a label: what it is worth is what the hold of that sum in a sandbox is worth. -/
noncomputable def Tryz.pinned : Pinned := { name := "ytdlebiapcceneaagreatdoor", sum := "31989cc081459d9ca45437aaa77232fe4efee1cf8666a631e40a43e2e95d3793", checked := Tryz.checked }
namespace Rows
def none {H : Type} : Left H := { results := [], args := [] }

/- WHAT THE LISTED PACKAGE-LEVEL VARIABLES READ AS WHEN THE CALL BEGINS. Each datum BY PROGRAM (the guide's laid-datum.mjs) off the statement by which the dump's own 'gosem.cut.vars' lays the variable. In a bare row this is a premise. The card (YtdlebiapcceneaaGreatDoorCards.lean) ties it to the program's text. -/
def laid_math_bits_deBruijn32tab {H : Type} : DataW H := .agg [.lit (.int .u8 0), .lit (.int .u8 1), .lit (.int .u8 28), .lit (.int .u8 2), .lit (.int .u8 29), .lit (.int .u8 14), .lit (.int .u8 24), .lit (.int .u8 3), .lit (.int .u8 30), .lit (.int .u8 22), .lit (.int .u8 20), .lit (.int .u8 15), .lit (.int .u8 25), .lit (.int .u8 17), .lit (.int .u8 4), .lit (.int .u8 8), .lit (.int .u8 31), .lit (.int .u8 27), .lit (.int .u8 13), .lit (.int .u8 23), .lit (.int .u8 21), .lit (.int .u8 19), .lit (.int .u8 16), .lit (.int .u8 7), .lit (.int .u8 26), .lit (.int .u8 12), .lit (.int .u8 18), .lit (.int .u8 6), .lit (.int .u8 11), .lit (.int .u8 5), .lit (.int .u8 10), .lit (.int .u8 9)]
def laid_math_bits_deBruijn64tab {H : Type} : DataW H := .agg [.lit (.int .u8 0), .lit (.int .u8 1), .lit (.int .u8 56), .lit (.int .u8 2), .lit (.int .u8 57), .lit (.int .u8 49), .lit (.int .u8 28), .lit (.int .u8 3), .lit (.int .u8 61), .lit (.int .u8 58), .lit (.int .u8 42), .lit (.int .u8 50), .lit (.int .u8 38), .lit (.int .u8 29), .lit (.int .u8 17), .lit (.int .u8 4), .lit (.int .u8 62), .lit (.int .u8 47), .lit (.int .u8 59), .lit (.int .u8 36), .lit (.int .u8 45), .lit (.int .u8 43), .lit (.int .u8 51), .lit (.int .u8 22), .lit (.int .u8 53), .lit (.int .u8 39), .lit (.int .u8 33), .lit (.int .u8 30), .lit (.int .u8 24), .lit (.int .u8 18), .lit (.int .u8 12), .lit (.int .u8 5), .lit (.int .u8 63), .lit (.int .u8 55), .lit (.int .u8 48), .lit (.int .u8 27), .lit (.int .u8 60), .lit (.int .u8 41), .lit (.int .u8 37), .lit (.int .u8 16), .lit (.int .u8 46), .lit (.int .u8 35), .lit (.int .u8 44), .lit (.int .u8 21), .lit (.int .u8 52), .lit (.int .u8 32), .lit (.int .u8 23), .lit (.int .u8 11), .lit (.int .u8 54), .lit (.int .u8 26), .lit (.int .u8 40), .lit (.int .u8 15), .lit (.int .u8 34), .lit (.int .u8 20), .lit (.int .u8 31), .lit (.int .u8 10), .lit (.int .u8 25), .lit (.int .u8 14), .lit (.int .u8 19), .lit (.int .u8 9), .lit (.int .u8 13), .lit (.int .u8 8), .lit (.int .u8 7), .lit (.int .u8 6)]
def laid_internal_strconv_uint64pow10 {H : Type} : DataW H := .agg [.lit (.int .u64 1), .lit (.int .u64 10), .lit (.int .u64 100), .lit (.int .u64 1000), .lit (.int .u64 10000), .lit (.int .u64 100000), .lit (.int .u64 1000000), .lit (.int .u64 10000000), .lit (.int .u64 100000000), .lit (.int .u64 1000000000), .lit (.int .u64 10000000000), .lit (.int .u64 100000000000), .lit (.int .u64 1000000000000), .lit (.int .u64 10000000000000), .lit (.int .u64 100000000000000), .lit (.int .u64 1000000000000000), .lit (.int .u64 10000000000000000), .lit (.int .u64 100000000000000000), .lit (.int .u64 1000000000000000000), .lit (.int .u64 10000000000000000000)]
def laid_strconv_ErrRange {H : Type} : DataW H := .iface "*errors.errorString" (.ptr (.agg [.lit (.string [118, 97, 108, 117, 101, 32, 111, 117, 116, 32, 111, 102, 32, 114, 97, 110, 103, 101])]))
def laid_strconv_ErrSyntax {H : Type} : DataW H := .iface "*errors.errorString" (.ptr (.agg [.lit (.string [105, 110, 118, 97, 108, 105, 100, 32, 115, 121, 110, 116, 97, 120])]))

/-- 'restantelaw01.ReadingCells': WHATEVER THE INPUT: true; the input reads as it did. -/
def readingCellsSpec : ChangeSpec := { name := "readingCells", fn := fun _ => fun
  | [d] => { results := [.lit (.bool true)], args := [d] }
  | _ => none }
def readingCellsRow : OpenClaim := { program := "ytdlebiapcceneaagreatdoor", sum := "31989cc081459d9ca45437aaa77232fe4efee1cf8666a631e40a43e2e95d3793", func := "restante/restantelaw01.ReadingCells", spec := "readingCells", inPlace := ["internal/abi.NoEscape"], unfollowed := true, recurses := true, named := ["internal/strconv.uint64pow10", "math/bits.deBruijn32tab", "math/bits.deBruijn64tab", "strconv.ErrSyntax", "strconv.ErrRange"], plainKeys := false, apart := false, laid := [("math/bits.deBruijn32tab", laid_math_bits_deBruijn32tab), ("math/bits.deBruijn64tab", laid_math_bits_deBruijn64tab), ("internal/strconv.uint64pow10", laid_internal_strconv_uint64pow10), ("strconv.ErrRange", laid_strconv_ErrRange), ("strconv.ErrSyntax", laid_strconv_ErrSyntax)] }
def ReadingCellsSaid : Prop := readingCellsRow.holds Tryz.pinned (OpenSpec.ofChange readingCellsSpec)

/-- ITS FALSE NEIGHBOUR: 'it returns false'. Refute it at one input. -/
def readingCellsWrong : ChangeSpec := { name := "readingCells", fn := fun _ => fun
  | [d] => { results := [.lit (.bool false)], args := [d] }
  | _ => none }
def ReadingCellsWrongFalsely : Prop := readingCellsRow.holds Tryz.pinned (OpenSpec.ofChange readingCellsWrong)

/-- 'restantelaw01.ReadingParses': WHATEVER THE INPUT: true; the input reads as it did. -/
def readingParsesSpec : ChangeSpec := { name := "readingParses", fn := fun _ => fun
  | [d] => { results := [.lit (.bool true)], args := [d] }
  | _ => none }
def readingParsesRow : OpenClaim := { program := "ytdlebiapcceneaagreatdoor", sum := "31989cc081459d9ca45437aaa77232fe4efee1cf8666a631e40a43e2e95d3793", func := "restante/restantelaw01.ReadingParses", spec := "readingParses", inPlace := ["internal/abi.NoEscape"], unfollowed := true, recurses := true, named := ["strconv.ErrSyntax", "strconv.ErrRange", "internal/strconv.uint64pow10", "math/bits.deBruijn32tab", "math/bits.deBruijn64tab"], plainKeys := false, apart := false, laid := [("math/bits.deBruijn32tab", laid_math_bits_deBruijn32tab), ("math/bits.deBruijn64tab", laid_math_bits_deBruijn64tab), ("internal/strconv.uint64pow10", laid_internal_strconv_uint64pow10), ("strconv.ErrRange", laid_strconv_ErrRange), ("strconv.ErrSyntax", laid_strconv_ErrSyntax)] }
def ReadingParsesSaid : Prop := readingParsesRow.holds Tryz.pinned (OpenSpec.ofChange readingParsesSpec)

/-- ITS FALSE NEIGHBOUR: 'it returns false'. Refute it at one input. -/
def readingParsesWrong : ChangeSpec := { name := "readingParses", fn := fun _ => fun
  | [d] => { results := [.lit (.bool false)], args := [d] }
  | _ => none }
def ReadingParsesWrongFalsely : Prop := readingParsesRow.holds Tryz.pinned (OpenSpec.ofChange readingParsesWrong)

/-- 'restantelaw01.ReadingPrints': WHATEVER THE INPUT: true; the input reads as it did. -/
def readingPrintsSpec : ChangeSpec := { name := "readingPrints", fn := fun _ => fun
  | [d] => { results := [.lit (.bool true)], args := [d] }
  | _ => none }
def readingPrintsRow : OpenClaim := { program := "ytdlebiapcceneaagreatdoor", sum := "31989cc081459d9ca45437aaa77232fe4efee1cf8666a631e40a43e2e95d3793", func := "restante/restantelaw01.ReadingPrints", spec := "readingPrints", inPlace := ["internal/abi.NoEscape"], unfollowed := true, recurses := true, named := ["internal/strconv.uint64pow10", "math/bits.deBruijn32tab", "math/bits.deBruijn64tab", "strconv.ErrSyntax", "strconv.ErrRange"], plainKeys := false, apart := false, laid := [("math/bits.deBruijn32tab", laid_math_bits_deBruijn32tab), ("math/bits.deBruijn64tab", laid_math_bits_deBruijn64tab), ("internal/strconv.uint64pow10", laid_internal_strconv_uint64pow10), ("strconv.ErrRange", laid_strconv_ErrRange), ("strconv.ErrSyntax", laid_strconv_ErrSyntax)] }
def ReadingPrintsSaid : Prop := readingPrintsRow.holds Tryz.pinned (OpenSpec.ofChange readingPrintsSpec)

/-- ITS FALSE NEIGHBOUR: 'it returns false'. Refute it at one input. -/
def readingPrintsWrong : ChangeSpec := { name := "readingPrints", fn := fun _ => fun
  | [d] => { results := [.lit (.bool false)], args := [d] }
  | _ => none }
def ReadingPrintsWrongFalsely : Prop := readingPrintsRow.holds Tryz.pinned (OpenSpec.ofChange readingPrintsWrong)

/-- 'restantelaw01.ReadingChecks': WHATEVER THE INPUT: true; the input reads as it did. -/
def readingChecksSpec : ChangeSpec := { name := "readingChecks", fn := fun _ => fun
  | [d] => { results := [.lit (.bool true)], args := [d] }
  | _ => none }
def readingChecksRow : OpenClaim := { program := "ytdlebiapcceneaagreatdoor", sum := "31989cc081459d9ca45437aaa77232fe4efee1cf8666a631e40a43e2e95d3793", func := "restante/restantelaw01.ReadingChecks", spec := "readingChecks", inPlace := ["internal/abi.NoEscape"], unfollowed := true, recurses := true, named := ["strconv.ErrSyntax", "strconv.ErrRange", "internal/strconv.uint64pow10", "math/bits.deBruijn32tab", "math/bits.deBruijn64tab"], plainKeys := false, apart := false, laid := [("math/bits.deBruijn32tab", laid_math_bits_deBruijn32tab), ("math/bits.deBruijn64tab", laid_math_bits_deBruijn64tab), ("internal/strconv.uint64pow10", laid_internal_strconv_uint64pow10), ("strconv.ErrRange", laid_strconv_ErrRange), ("strconv.ErrSyntax", laid_strconv_ErrSyntax)] }
def ReadingChecksSaid : Prop := readingChecksRow.holds Tryz.pinned (OpenSpec.ofChange readingChecksSpec)

/-- ITS FALSE NEIGHBOUR: 'it returns false'. Refute it at one input. -/
def readingChecksWrong : ChangeSpec := { name := "readingChecks", fn := fun _ => fun
  | [d] => { results := [.lit (.bool false)], args := [d] }
  | _ => none }
def ReadingChecksWrongFalsely : Prop := readingChecksRow.holds Tryz.pinned (OpenSpec.ofChange readingChecksWrong)

/-- 'restantelaw01.ReadingCosts': WHATEVER THE INPUT: true; the input reads as it did. -/
def readingCostsSpec : ChangeSpec := { name := "readingCosts", fn := fun _ => fun
  | [d1, d2] => { results := [.lit (.bool true)], args := [d1, d2] }
  | _ => none }
def readingCostsRow : OpenClaim := { program := "ytdlebiapcceneaagreatdoor", sum := "31989cc081459d9ca45437aaa77232fe4efee1cf8666a631e40a43e2e95d3793", func := "restante/restantelaw01.ReadingCosts", spec := "readingCosts", inPlace := ["internal/abi.NoEscape"], unfollowed := true, recurses := true, named := ["strconv.ErrSyntax", "strconv.ErrRange", "internal/strconv.uint64pow10", "math/bits.deBruijn32tab", "math/bits.deBruijn64tab"], plainKeys := false, apart := false, laid := [("math/bits.deBruijn32tab", laid_math_bits_deBruijn32tab), ("math/bits.deBruijn64tab", laid_math_bits_deBruijn64tab), ("internal/strconv.uint64pow10", laid_internal_strconv_uint64pow10), ("strconv.ErrRange", laid_strconv_ErrRange), ("strconv.ErrSyntax", laid_strconv_ErrSyntax)] }
def ReadingCostsSaid : Prop := readingCostsRow.holds Tryz.pinned (OpenSpec.ofChange readingCostsSpec)

/-- ITS FALSE NEIGHBOUR: 'it returns false'. Refute it at one input. -/
def readingCostsWrong : ChangeSpec := { name := "readingCosts", fn := fun _ => fun
  | [d1, d2] => { results := [.lit (.bool false)], args := [d1, d2] }
  | _ => none }
def ReadingCostsWrongFalsely : Prop := readingCostsRow.holds Tryz.pinned (OpenSpec.ofChange readingCostsWrong)

/-- 'restantelaw01.ReadingLetters': WHATEVER THE INPUT: true; the input reads as it did. -/
def readingLettersSpec : ChangeSpec := { name := "readingLetters", fn := fun _ => fun
  | [d1, d2] => { results := [.lit (.bool true)], args := [d1, d2] }
  | _ => none }
def readingLettersRow : OpenClaim := { program := "ytdlebiapcceneaagreatdoor", sum := "31989cc081459d9ca45437aaa77232fe4efee1cf8666a631e40a43e2e95d3793", func := "restante/restantelaw01.ReadingLetters", spec := "readingLetters", inPlace := ["internal/abi.NoEscape"], unfollowed := true, recurses := true, named := ["strconv.ErrSyntax", "strconv.ErrRange", "internal/strconv.uint64pow10", "math/bits.deBruijn32tab", "math/bits.deBruijn64tab"], plainKeys := false, apart := false, laid := [("math/bits.deBruijn32tab", laid_math_bits_deBruijn32tab), ("math/bits.deBruijn64tab", laid_math_bits_deBruijn64tab), ("internal/strconv.uint64pow10", laid_internal_strconv_uint64pow10), ("strconv.ErrRange", laid_strconv_ErrRange), ("strconv.ErrSyntax", laid_strconv_ErrSyntax)] }
def ReadingLettersSaid : Prop := readingLettersRow.holds Tryz.pinned (OpenSpec.ofChange readingLettersSpec)

/-- ITS FALSE NEIGHBOUR: 'it returns false'. Refute it at one input. -/
def readingLettersWrong : ChangeSpec := { name := "readingLetters", fn := fun _ => fun
  | [d1, d2] => { results := [.lit (.bool false)], args := [d1, d2] }
  | _ => none }
def ReadingLettersWrongFalsely : Prop := readingLettersRow.holds Tryz.pinned (OpenSpec.ofChange readingLettersWrong)

/-- 'restantelaw01.ReadingWords': WHATEVER THE INPUT: true; the input reads as it did. -/
def readingWordsSpec : ChangeSpec := { name := "readingWords", fn := fun _ => fun
  | [d1, d2] => { results := [.lit (.bool true)], args := [d1, d2] }
  | _ => none }
def readingWordsRow : OpenClaim := { program := "ytdlebiapcceneaagreatdoor", sum := "31989cc081459d9ca45437aaa77232fe4efee1cf8666a631e40a43e2e95d3793", func := "restante/restantelaw01.ReadingWords", spec := "readingWords", inPlace := ["internal/abi.NoEscape"], unfollowed := true, recurses := true, named := ["strconv.ErrSyntax", "strconv.ErrRange", "internal/strconv.uint64pow10", "math/bits.deBruijn32tab", "math/bits.deBruijn64tab"], plainKeys := false, apart := false, laid := [("math/bits.deBruijn32tab", laid_math_bits_deBruijn32tab), ("math/bits.deBruijn64tab", laid_math_bits_deBruijn64tab), ("internal/strconv.uint64pow10", laid_internal_strconv_uint64pow10), ("strconv.ErrRange", laid_strconv_ErrRange), ("strconv.ErrSyntax", laid_strconv_ErrSyntax)] }
def ReadingWordsSaid : Prop := readingWordsRow.holds Tryz.pinned (OpenSpec.ofChange readingWordsSpec)

/-- ITS FALSE NEIGHBOUR: 'it returns false'. Refute it at one input. -/
def readingWordsWrong : ChangeSpec := { name := "readingWords", fn := fun _ => fun
  | [d1, d2] => { results := [.lit (.bool false)], args := [d1, d2] }
  | _ => none }
def ReadingWordsWrongFalsely : Prop := readingWordsRow.holds Tryz.pinned (OpenSpec.ofChange readingWordsWrong)

/-- 'restantelaw01.ReadingNarrows': WHATEVER THE INPUT: true; the input reads as it did. -/
def readingNarrowsSpec : ChangeSpec := { name := "readingNarrows", fn := fun _ => fun
  | [d1, d2] => { results := [.lit (.bool true)], args := [d1, d2] }
  | _ => none }
def readingNarrowsRow : OpenClaim := { program := "ytdlebiapcceneaagreatdoor", sum := "31989cc081459d9ca45437aaa77232fe4efee1cf8666a631e40a43e2e95d3793", func := "restante/restantelaw01.ReadingNarrows", spec := "readingNarrows", inPlace := ["internal/abi.NoEscape"], unfollowed := true, recurses := true, named := ["internal/strconv.uint64pow10", "math/bits.deBruijn32tab", "math/bits.deBruijn64tab", "strconv.ErrSyntax", "strconv.ErrRange"], plainKeys := false, apart := false, laid := [("math/bits.deBruijn32tab", laid_math_bits_deBruijn32tab), ("math/bits.deBruijn64tab", laid_math_bits_deBruijn64tab), ("internal/strconv.uint64pow10", laid_internal_strconv_uint64pow10), ("strconv.ErrRange", laid_strconv_ErrRange), ("strconv.ErrSyntax", laid_strconv_ErrSyntax)] }
def ReadingNarrowsSaid : Prop := readingNarrowsRow.holds Tryz.pinned (OpenSpec.ofChange readingNarrowsSpec)

/-- ITS FALSE NEIGHBOUR: 'it returns false'. Refute it at one input. -/
def readingNarrowsWrong : ChangeSpec := { name := "readingNarrows", fn := fun _ => fun
  | [d1, d2] => { results := [.lit (.bool false)], args := [d1, d2] }
  | _ => none }
def ReadingNarrowsWrongFalsely : Prop := readingNarrowsRow.holds Tryz.pinned (OpenSpec.ofChange readingNarrowsWrong)

/- THE SECOND FORM. 'bulk': how many values and letters a reading holds, each counted each time it is reached (what is shared counts as often as it is met; a slice's spare places count too). A statement '..UptoSaid' is the law's where the arguments, and the package variables that the reading takes, are together of bulk at most 1048576: NARROWER than '..Said'. Prove '..Said' where nothing that the law and all that it calls make is longer than what came in: it says more and counts as full. Else prove '..UptoSaid'. A law counts once. -/
mutual
def uptoBulk {H : Type} : DataW H → Nat
  | .lit (.string bytes) => bytes.length + 1
  | .lit _ => 1
  | .nil => 1
  | .ptr d => uptoBulk d + 1
  | .slice elems spare => uptoBulkAll elems + uptoBulkAll spare + 1
  | .agg parts => uptoBulkAll parts + 1
  | .iface _ d => uptoBulk d + 1
  | .map entries => uptoBulkEntries entries + 1
  | .held _ => 1
def uptoBulkAll {H : Type} : List (DataW H) → Nat
  | [] => 0
  | d :: r => uptoBulk d + uptoBulkAll r
def uptoBulkEntries {H : Type} : List (Lit × DataW H) → Nat
  | [] => 0
  | x :: r => uptoBulkEntry x + uptoBulkEntries r
def uptoBulkEntry {H : Type} : Lit × DataW H → Nat
  | (.string bytes, d) => bytes.length + uptoBulk d + 1
  | (_, d) => uptoBulk d + 1
 end
def uptoSmall : (H : Type) → List (DataW H) → Bool := fun _ ds => decide (uptoBulkAll ds ≤ 1048576)
def OpenSpec.upto (s : _root_.Go.ChangeSpec) : _root_.Go.OpenSpec := { _root_.Go.OpenSpec.ofChange s with cond := some uptoSmall }

/-- 'restantelaw01.ReadingCells', WHERE WHAT IT READS IS OF BULK AT MOST 1048576: true; the input reads as it did. -/
def readingCellsUptoRow : OpenClaim := { program := "ytdlebiapcceneaagreatdoor", sum := "31989cc081459d9ca45437aaa77232fe4efee1cf8666a631e40a43e2e95d3793", func := "restante/restantelaw01.ReadingCells", spec := "readingCells", inPlace := ["internal/abi.NoEscape"], unfollowed := true, recurses := true, named := ["internal/strconv.uint64pow10", "math/bits.deBruijn32tab", "math/bits.deBruijn64tab", "strconv.ErrSyntax", "strconv.ErrRange"], plainKeys := false, apart := false, laid := [("math/bits.deBruijn32tab", laid_math_bits_deBruijn32tab), ("math/bits.deBruijn64tab", laid_math_bits_deBruijn64tab), ("internal/strconv.uint64pow10", laid_internal_strconv_uint64pow10), ("strconv.ErrRange", laid_strconv_ErrRange), ("strconv.ErrSyntax", laid_strconv_ErrSyntax)], narrowed := true }
def ReadingCellsUptoSaid : Prop := readingCellsUptoRow.holds Tryz.pinned (OpenSpec.upto readingCellsSpec)

/-- 'restantelaw01.ReadingParses', WHERE WHAT IT READS IS OF BULK AT MOST 1048576: true; the input reads as it did. -/
def readingParsesUptoRow : OpenClaim := { program := "ytdlebiapcceneaagreatdoor", sum := "31989cc081459d9ca45437aaa77232fe4efee1cf8666a631e40a43e2e95d3793", func := "restante/restantelaw01.ReadingParses", spec := "readingParses", inPlace := ["internal/abi.NoEscape"], unfollowed := true, recurses := true, named := ["strconv.ErrSyntax", "strconv.ErrRange", "internal/strconv.uint64pow10", "math/bits.deBruijn32tab", "math/bits.deBruijn64tab"], plainKeys := false, apart := false, laid := [("math/bits.deBruijn32tab", laid_math_bits_deBruijn32tab), ("math/bits.deBruijn64tab", laid_math_bits_deBruijn64tab), ("internal/strconv.uint64pow10", laid_internal_strconv_uint64pow10), ("strconv.ErrRange", laid_strconv_ErrRange), ("strconv.ErrSyntax", laid_strconv_ErrSyntax)], narrowed := true }
def ReadingParsesUptoSaid : Prop := readingParsesUptoRow.holds Tryz.pinned (OpenSpec.upto readingParsesSpec)

/-- 'restantelaw01.ReadingPrints', WHERE WHAT IT READS IS OF BULK AT MOST 1048576: true; the input reads as it did. -/
def readingPrintsUptoRow : OpenClaim := { program := "ytdlebiapcceneaagreatdoor", sum := "31989cc081459d9ca45437aaa77232fe4efee1cf8666a631e40a43e2e95d3793", func := "restante/restantelaw01.ReadingPrints", spec := "readingPrints", inPlace := ["internal/abi.NoEscape"], unfollowed := true, recurses := true, named := ["internal/strconv.uint64pow10", "math/bits.deBruijn32tab", "math/bits.deBruijn64tab", "strconv.ErrSyntax", "strconv.ErrRange"], plainKeys := false, apart := false, laid := [("math/bits.deBruijn32tab", laid_math_bits_deBruijn32tab), ("math/bits.deBruijn64tab", laid_math_bits_deBruijn64tab), ("internal/strconv.uint64pow10", laid_internal_strconv_uint64pow10), ("strconv.ErrRange", laid_strconv_ErrRange), ("strconv.ErrSyntax", laid_strconv_ErrSyntax)], narrowed := true }
def ReadingPrintsUptoSaid : Prop := readingPrintsUptoRow.holds Tryz.pinned (OpenSpec.upto readingPrintsSpec)

/-- 'restantelaw01.ReadingChecks', WHERE WHAT IT READS IS OF BULK AT MOST 1048576: true; the input reads as it did. -/
def readingChecksUptoRow : OpenClaim := { program := "ytdlebiapcceneaagreatdoor", sum := "31989cc081459d9ca45437aaa77232fe4efee1cf8666a631e40a43e2e95d3793", func := "restante/restantelaw01.ReadingChecks", spec := "readingChecks", inPlace := ["internal/abi.NoEscape"], unfollowed := true, recurses := true, named := ["strconv.ErrSyntax", "strconv.ErrRange", "internal/strconv.uint64pow10", "math/bits.deBruijn32tab", "math/bits.deBruijn64tab"], plainKeys := false, apart := false, laid := [("math/bits.deBruijn32tab", laid_math_bits_deBruijn32tab), ("math/bits.deBruijn64tab", laid_math_bits_deBruijn64tab), ("internal/strconv.uint64pow10", laid_internal_strconv_uint64pow10), ("strconv.ErrRange", laid_strconv_ErrRange), ("strconv.ErrSyntax", laid_strconv_ErrSyntax)], narrowed := true }
def ReadingChecksUptoSaid : Prop := readingChecksUptoRow.holds Tryz.pinned (OpenSpec.upto readingChecksSpec)

/-- 'restantelaw01.ReadingCosts', WHERE WHAT IT READS IS OF BULK AT MOST 1048576: true; the input reads as it did. -/
def readingCostsUptoRow : OpenClaim := { program := "ytdlebiapcceneaagreatdoor", sum := "31989cc081459d9ca45437aaa77232fe4efee1cf8666a631e40a43e2e95d3793", func := "restante/restantelaw01.ReadingCosts", spec := "readingCosts", inPlace := ["internal/abi.NoEscape"], unfollowed := true, recurses := true, named := ["strconv.ErrSyntax", "strconv.ErrRange", "internal/strconv.uint64pow10", "math/bits.deBruijn32tab", "math/bits.deBruijn64tab"], plainKeys := false, apart := false, laid := [("math/bits.deBruijn32tab", laid_math_bits_deBruijn32tab), ("math/bits.deBruijn64tab", laid_math_bits_deBruijn64tab), ("internal/strconv.uint64pow10", laid_internal_strconv_uint64pow10), ("strconv.ErrRange", laid_strconv_ErrRange), ("strconv.ErrSyntax", laid_strconv_ErrSyntax)], narrowed := true }
def ReadingCostsUptoSaid : Prop := readingCostsUptoRow.holds Tryz.pinned (OpenSpec.upto readingCostsSpec)

/-- 'restantelaw01.ReadingLetters', WHERE WHAT IT READS IS OF BULK AT MOST 1048576: true; the input reads as it did. -/
def readingLettersUptoRow : OpenClaim := { program := "ytdlebiapcceneaagreatdoor", sum := "31989cc081459d9ca45437aaa77232fe4efee1cf8666a631e40a43e2e95d3793", func := "restante/restantelaw01.ReadingLetters", spec := "readingLetters", inPlace := ["internal/abi.NoEscape"], unfollowed := true, recurses := true, named := ["strconv.ErrSyntax", "strconv.ErrRange", "internal/strconv.uint64pow10", "math/bits.deBruijn32tab", "math/bits.deBruijn64tab"], plainKeys := false, apart := false, laid := [("math/bits.deBruijn32tab", laid_math_bits_deBruijn32tab), ("math/bits.deBruijn64tab", laid_math_bits_deBruijn64tab), ("internal/strconv.uint64pow10", laid_internal_strconv_uint64pow10), ("strconv.ErrRange", laid_strconv_ErrRange), ("strconv.ErrSyntax", laid_strconv_ErrSyntax)], narrowed := true }
def ReadingLettersUptoSaid : Prop := readingLettersUptoRow.holds Tryz.pinned (OpenSpec.upto readingLettersSpec)

/-- 'restantelaw01.ReadingWords', WHERE WHAT IT READS IS OF BULK AT MOST 1048576: true; the input reads as it did. -/
def readingWordsUptoRow : OpenClaim := { program := "ytdlebiapcceneaagreatdoor", sum := "31989cc081459d9ca45437aaa77232fe4efee1cf8666a631e40a43e2e95d3793", func := "restante/restantelaw01.ReadingWords", spec := "readingWords", inPlace := ["internal/abi.NoEscape"], unfollowed := true, recurses := true, named := ["strconv.ErrSyntax", "strconv.ErrRange", "internal/strconv.uint64pow10", "math/bits.deBruijn32tab", "math/bits.deBruijn64tab"], plainKeys := false, apart := false, laid := [("math/bits.deBruijn32tab", laid_math_bits_deBruijn32tab), ("math/bits.deBruijn64tab", laid_math_bits_deBruijn64tab), ("internal/strconv.uint64pow10", laid_internal_strconv_uint64pow10), ("strconv.ErrRange", laid_strconv_ErrRange), ("strconv.ErrSyntax", laid_strconv_ErrSyntax)], narrowed := true }
def ReadingWordsUptoSaid : Prop := readingWordsUptoRow.holds Tryz.pinned (OpenSpec.upto readingWordsSpec)

/-- 'restantelaw01.ReadingNarrows', WHERE WHAT IT READS IS OF BULK AT MOST 1048576: true; the input reads as it did. -/
def readingNarrowsUptoRow : OpenClaim := { program := "ytdlebiapcceneaagreatdoor", sum := "31989cc081459d9ca45437aaa77232fe4efee1cf8666a631e40a43e2e95d3793", func := "restante/restantelaw01.ReadingNarrows", spec := "readingNarrows", inPlace := ["internal/abi.NoEscape"], unfollowed := true, recurses := true, named := ["internal/strconv.uint64pow10", "math/bits.deBruijn32tab", "math/bits.deBruijn64tab", "strconv.ErrSyntax", "strconv.ErrRange"], plainKeys := false, apart := false, laid := [("math/bits.deBruijn32tab", laid_math_bits_deBruijn32tab), ("math/bits.deBruijn64tab", laid_math_bits_deBruijn64tab), ("internal/strconv.uint64pow10", laid_internal_strconv_uint64pow10), ("strconv.ErrRange", laid_strconv_ErrRange), ("strconv.ErrSyntax", laid_strconv_ErrSyntax)], narrowed := true }
def ReadingNarrowsUptoSaid : Prop := readingNarrowsUptoRow.holds Tryz.pinned (OpenSpec.upto readingNarrowsSpec)

end Rows
end Go.Proofs.YtdlebiapcceneaaGreatDoor
