/-
  NARROWER THAN 'FOR EVERY INPUT', by the rows' own cells (each row's printed sentence says how): RunesNumbers: laid · RunesFound: laid · RunesHalves: laid · RunesTimes: laid · RunesTrimmed: laid · NumDivides: laid · NumText: laid · NumSmall: laid · NumNamed: laid · NumPowers: laid · NumCommon: laid · NumAll: laid.
  DERIVED. THE GIVEN ROWS OF THIS SEAT. 12 by the template 'for every input the law returns true; each argument reads behind the call as it read before'; 0 by the template 'total and deterministic' (their statements: YtedcfddbfpgeaaaDoorTotals.lean).
  GIVEN WITH THE SEED: the statements are not yours to turn. If you find one false, say at which input.
  Laid BY PROGRAM, IN A SANDBOX (cutbox-rows.mjs): the forced cells as the released guide's own fill.sh prints them over the translation 11223486d7b42ebf… (all of the seat's roots in one cut). By AI agents, Wed Nov 11 2026. No macro, syntax, notation, axiom, sorry.
-/
import Derived.Test.YtedcfddbfpgeaaaDoorChecked
import GoSem.PinnedTables
import GoSem.Claim
import GoSem.ClaimJoined
import GoSem.ClaimMapViews
import Derived.JoinedTies
import Derived.KernelRfl
namespace Go.Proofs.YtedcfddbfpgeaaaDoor
/- THE CELL 'sum', in the pinned program and in every row, IS THE sha256 OF THE DUMP (.gsa) THAT YtedcfddbfpgeaaaDoorProg.lean LOADS. Nothing in Lean hashes anything: it is a label: what it is worth is what the hold of that sum in a sandbox is worth. -/
noncomputable def Tryd.pinned : Pinned := { name := "ytedcfddbfpgeaaadoor", sum := "11223486d7b42ebfabd97b711405fe83b08fdb06f80a5303b03c5eb5545ed30b", checked := Tryd.checked }
namespace Rows
def none {H : Type} : Left H := { results := [], args := [] }

/- WHAT THE LISTED PACKAGE-LEVEL VARIABLES READ AS WHEN THE CALL BEGINS. Each datum BY PROGRAM (the guide's laid-datum.mjs) off the statement by which the dump's own 'gosem.cut.vars' lays the variable. In a bare row this is a premise. The card (YtedcfddbfpgeaaaDoorCards.lean) ties it to the program's text. -/
def laid_unicode_utf8_acceptRanges {H : Type} : DataW H := .agg [.agg [.lit (.int .u8 128), .lit (.int .u8 191)], .agg [.lit (.int .u8 160), .lit (.int .u8 191)], .agg [.lit (.int .u8 128), .lit (.int .u8 159)], .agg [.lit (.int .u8 144), .lit (.int .u8 191)], .agg [.lit (.int .u8 128), .lit (.int .u8 143)], .agg [.lit (.int .u8 0), .lit (.int .u8 0)], .agg [.lit (.int .u8 0), .lit (.int .u8 0)], .agg [.lit (.int .u8 0), .lit (.int .u8 0)], .agg [.lit (.int .u8 0), .lit (.int .u8 0)], .agg [.lit (.int .u8 0), .lit (.int .u8 0)], .agg [.lit (.int .u8 0), .lit (.int .u8 0)], .agg [.lit (.int .u8 0), .lit (.int .u8 0)], .agg [.lit (.int .u8 0), .lit (.int .u8 0)], .agg [.lit (.int .u8 0), .lit (.int .u8 0)], .agg [.lit (.int .u8 0), .lit (.int .u8 0)], .agg [.lit (.int .u8 0), .lit (.int .u8 0)]]
/-- One of Go's own tables, pinned by name: the form's constant. -/
def laid_unicode_utf8_first : DataW Unit := Go.Pinned.utf8First
def laid_math_bits_deBruijn32tab {H : Type} : DataW H := .agg [.lit (.int .u8 0), .lit (.int .u8 1), .lit (.int .u8 28), .lit (.int .u8 2), .lit (.int .u8 29), .lit (.int .u8 14), .lit (.int .u8 24), .lit (.int .u8 3), .lit (.int .u8 30), .lit (.int .u8 22), .lit (.int .u8 20), .lit (.int .u8 15), .lit (.int .u8 25), .lit (.int .u8 17), .lit (.int .u8 4), .lit (.int .u8 8), .lit (.int .u8 31), .lit (.int .u8 27), .lit (.int .u8 13), .lit (.int .u8 23), .lit (.int .u8 21), .lit (.int .u8 19), .lit (.int .u8 16), .lit (.int .u8 7), .lit (.int .u8 26), .lit (.int .u8 12), .lit (.int .u8 18), .lit (.int .u8 6), .lit (.int .u8 11), .lit (.int .u8 5), .lit (.int .u8 10), .lit (.int .u8 9)]
def laid_math_bits_deBruijn64tab {H : Type} : DataW H := .agg [.lit (.int .u8 0), .lit (.int .u8 1), .lit (.int .u8 56), .lit (.int .u8 2), .lit (.int .u8 57), .lit (.int .u8 49), .lit (.int .u8 28), .lit (.int .u8 3), .lit (.int .u8 61), .lit (.int .u8 58), .lit (.int .u8 42), .lit (.int .u8 50), .lit (.int .u8 38), .lit (.int .u8 29), .lit (.int .u8 17), .lit (.int .u8 4), .lit (.int .u8 62), .lit (.int .u8 47), .lit (.int .u8 59), .lit (.int .u8 36), .lit (.int .u8 45), .lit (.int .u8 43), .lit (.int .u8 51), .lit (.int .u8 22), .lit (.int .u8 53), .lit (.int .u8 39), .lit (.int .u8 33), .lit (.int .u8 30), .lit (.int .u8 24), .lit (.int .u8 18), .lit (.int .u8 12), .lit (.int .u8 5), .lit (.int .u8 63), .lit (.int .u8 55), .lit (.int .u8 48), .lit (.int .u8 27), .lit (.int .u8 60), .lit (.int .u8 41), .lit (.int .u8 37), .lit (.int .u8 16), .lit (.int .u8 46), .lit (.int .u8 35), .lit (.int .u8 44), .lit (.int .u8 21), .lit (.int .u8 52), .lit (.int .u8 32), .lit (.int .u8 23), .lit (.int .u8 11), .lit (.int .u8 54), .lit (.int .u8 26), .lit (.int .u8 40), .lit (.int .u8 15), .lit (.int .u8 34), .lit (.int .u8 20), .lit (.int .u8 31), .lit (.int .u8 10), .lit (.int .u8 25), .lit (.int .u8 14), .lit (.int .u8 19), .lit (.int .u8 9), .lit (.int .u8 13), .lit (.int .u8 8), .lit (.int .u8 7), .lit (.int .u8 6)]
def laid_internal_strconv_uint64pow10 {H : Type} : DataW H := .agg [.lit (.int .u64 1), .lit (.int .u64 10), .lit (.int .u64 100), .lit (.int .u64 1000), .lit (.int .u64 10000), .lit (.int .u64 100000), .lit (.int .u64 1000000), .lit (.int .u64 10000000), .lit (.int .u64 100000000), .lit (.int .u64 1000000000), .lit (.int .u64 10000000000), .lit (.int .u64 100000000000), .lit (.int .u64 1000000000000), .lit (.int .u64 10000000000000), .lit (.int .u64 100000000000000), .lit (.int .u64 1000000000000000), .lit (.int .u64 10000000000000000), .lit (.int .u64 100000000000000000), .lit (.int .u64 1000000000000000000), .lit (.int .u64 10000000000000000000)]
def laid_strconv_ErrRange {H : Type} : DataW H := .iface "*errors.errorString" (.ptr (.agg [.lit (.string [118, 97, 108, 117, 101, 32, 111, 117, 116, 32, 111, 102, 32, 114, 97, 110, 103, 101])]))
def laid_strconv_ErrSyntax {H : Type} : DataW H := .iface "*errors.errorString" (.ptr (.agg [.lit (.string [105, 110, 118, 97, 108, 105, 100, 32, 115, 121, 110, 116, 97, 120])]))

/-- 'quadrillelaw5.RunesNumbers': WHATEVER THE INPUT: true; the input reads as it did. -/
def runesNumbersSpec : ChangeSpec := { name := "runesNumbers", fn := fun _ => fun
  | [d1, d2] => { results := [.lit (.bool true)], args := [d1, d2] }
  | _ => none }
def runesNumbersRow : OpenClaim := { program := "ytedcfddbfpgeaaadoor", sum := "11223486d7b42ebfabd97b711405fe83b08fdb06f80a5303b03c5eb5545ed30b", func := "quadrille/quadrillelaw5.RunesNumbers", spec := "runesNumbers", unfollowed := true, recurses := true, named := ["unicode/utf8.first", "unicode/utf8.acceptRanges"], apart := false, laid := [("unicode/utf8.acceptRanges", laid_unicode_utf8_acceptRanges), ("unicode/utf8.first", laid_unicode_utf8_first)] }
def RunesNumbersSaid : Prop := runesNumbersRow.holds Tryd.pinned (OpenSpec.ofChange runesNumbersSpec)

/-- ITS FALSE NEIGHBOUR: 'it returns false'. Refute it at one input. -/
def runesNumbersWrong : ChangeSpec := { name := "runesNumbers", fn := fun _ => fun
  | [d1, d2] => { results := [.lit (.bool false)], args := [d1, d2] }
  | _ => none }
def RunesNumbersWrongFalsely : Prop := runesNumbersRow.holds Tryd.pinned (OpenSpec.ofChange runesNumbersWrong)

/-- 'quadrillelaw5.RunesFound': WHATEVER THE INPUT: true; the input reads as it did. -/
def runesFoundSpec : ChangeSpec := { name := "runesFound", fn := fun _ => fun
  | [d1, d2, d3] => { results := [.lit (.bool true)], args := [d1, d2, d3] }
  | _ => none }
def runesFoundRow : OpenClaim := { program := "ytedcfddbfpgeaaadoor", sum := "11223486d7b42ebfabd97b711405fe83b08fdb06f80a5303b03c5eb5545ed30b", func := "quadrille/quadrillelaw5.RunesFound", spec := "runesFound", unfollowed := true, recurses := true, named := ["unicode/utf8.first", "unicode/utf8.acceptRanges"], apart := false, laid := [("unicode/utf8.acceptRanges", laid_unicode_utf8_acceptRanges), ("unicode/utf8.first", laid_unicode_utf8_first)] }
def RunesFoundSaid : Prop := runesFoundRow.holds Tryd.pinned (OpenSpec.ofChange runesFoundSpec)

/-- ITS FALSE NEIGHBOUR: 'it returns false'. Refute it at one input. -/
def runesFoundWrong : ChangeSpec := { name := "runesFound", fn := fun _ => fun
  | [d1, d2, d3] => { results := [.lit (.bool false)], args := [d1, d2, d3] }
  | _ => none }
def RunesFoundWrongFalsely : Prop := runesFoundRow.holds Tryd.pinned (OpenSpec.ofChange runesFoundWrong)

/-- 'quadrillelaw5.RunesHalves': WHATEVER THE INPUT: true; the input reads as it did. -/
def runesHalvesSpec : ChangeSpec := { name := "runesHalves", fn := fun _ => fun
  | [d1, d2, d3] => { results := [.lit (.bool true)], args := [d1, d2, d3] }
  | _ => none }
def runesHalvesRow : OpenClaim := { program := "ytedcfddbfpgeaaadoor", sum := "11223486d7b42ebfabd97b711405fe83b08fdb06f80a5303b03c5eb5545ed30b", func := "quadrille/quadrillelaw5.RunesHalves", spec := "runesHalves", unfollowed := true, recurses := true, named := ["unicode/utf8.first", "unicode/utf8.acceptRanges"], apart := false, laid := [("unicode/utf8.acceptRanges", laid_unicode_utf8_acceptRanges), ("unicode/utf8.first", laid_unicode_utf8_first)] }
def RunesHalvesSaid : Prop := runesHalvesRow.holds Tryd.pinned (OpenSpec.ofChange runesHalvesSpec)

/-- ITS FALSE NEIGHBOUR: 'it returns false'. Refute it at one input. -/
def runesHalvesWrong : ChangeSpec := { name := "runesHalves", fn := fun _ => fun
  | [d1, d2, d3] => { results := [.lit (.bool false)], args := [d1, d2, d3] }
  | _ => none }
def RunesHalvesWrongFalsely : Prop := runesHalvesRow.holds Tryd.pinned (OpenSpec.ofChange runesHalvesWrong)

/-- 'quadrillelaw5.RunesTimes': WHATEVER THE INPUT: true; the input reads as it did. -/
def runesTimesSpec : ChangeSpec := { name := "runesTimes", fn := fun _ => fun
  | [d1, d2, d3] => { results := [.lit (.bool true)], args := [d1, d2, d3] }
  | _ => none }
def runesTimesRow : OpenClaim := { program := "ytedcfddbfpgeaaadoor", sum := "11223486d7b42ebfabd97b711405fe83b08fdb06f80a5303b03c5eb5545ed30b", func := "quadrille/quadrillelaw5.RunesTimes", spec := "runesTimes", inPlace := ["internal/abi.NoEscape", "internal/bytealg.MakeNoZero"], unfollowed := true, recurses := true, named := ["unicode/utf8.first", "unicode/utf8.acceptRanges"], apart := false, laid := [("unicode/utf8.acceptRanges", laid_unicode_utf8_acceptRanges), ("unicode/utf8.first", laid_unicode_utf8_first)] }
def RunesTimesSaid : Prop := runesTimesRow.holds Tryd.pinned (OpenSpec.ofChange runesTimesSpec)

/-- ITS FALSE NEIGHBOUR: 'it returns false'. Refute it at one input. -/
def runesTimesWrong : ChangeSpec := { name := "runesTimes", fn := fun _ => fun
  | [d1, d2, d3] => { results := [.lit (.bool false)], args := [d1, d2, d3] }
  | _ => none }
def RunesTimesWrongFalsely : Prop := runesTimesRow.holds Tryd.pinned (OpenSpec.ofChange runesTimesWrong)

/-- 'quadrillelaw5.RunesTrimmed': WHATEVER THE INPUT: true; the input reads as it did. -/
def runesTrimmedSpec : ChangeSpec := { name := "runesTrimmed", fn := fun _ => fun
  | [d] => { results := [.lit (.bool true)], args := [d] }
  | _ => none }
def runesTrimmedRow : OpenClaim := { program := "ytedcfddbfpgeaaadoor", sum := "11223486d7b42ebfabd97b711405fe83b08fdb06f80a5303b03c5eb5545ed30b", func := "quadrille/quadrillelaw5.RunesTrimmed", spec := "runesTrimmed", inPlace := ["internal/bytealg.IndexByteString", "internal/bytealg.IndexString", "internal/abi.NoEscape"], unfollowed := true, recurses := true, named := ["unicode/utf8.first", "unicode/utf8.acceptRanges", "internal/bytealg.MaxLen"], apart := false, laid := [("unicode/utf8.acceptRanges", laid_unicode_utf8_acceptRanges), ("unicode/utf8.first", laid_unicode_utf8_first)] }
def RunesTrimmedSaid : Prop := runesTrimmedRow.holds Tryd.pinned (OpenSpec.ofChange runesTrimmedSpec)

/-- ITS FALSE NEIGHBOUR: 'it returns false'. Refute it at one input. -/
def runesTrimmedWrong : ChangeSpec := { name := "runesTrimmed", fn := fun _ => fun
  | [d] => { results := [.lit (.bool false)], args := [d] }
  | _ => none }
def RunesTrimmedWrongFalsely : Prop := runesTrimmedRow.holds Tryd.pinned (OpenSpec.ofChange runesTrimmedWrong)

/-- 'quadrillelaw1.NumDivides': WHATEVER THE INPUT: true; the input reads as it did. -/
def numDividesSpec : ChangeSpec := { name := "numDivides", fn := fun _ => fun
  | [d1, d2] => { results := [.lit (.bool true)], args := [d1, d2] }
  | _ => none }
def numDividesRow : OpenClaim := { program := "ytedcfddbfpgeaaadoor", sum := "11223486d7b42ebfabd97b711405fe83b08fdb06f80a5303b03c5eb5545ed30b", func := "quadrille/quadrillelaw1.NumDivides", spec := "numDivides", named := ["strconv.ErrSyntax", "strconv.ErrRange", "internal/strconv.uint64pow10", "math/bits.deBruijn32tab", "math/bits.deBruijn64tab"], apart := false, laid := [("math/bits.deBruijn32tab", laid_math_bits_deBruijn32tab), ("math/bits.deBruijn64tab", laid_math_bits_deBruijn64tab), ("internal/strconv.uint64pow10", laid_internal_strconv_uint64pow10), ("strconv.ErrRange", laid_strconv_ErrRange), ("strconv.ErrSyntax", laid_strconv_ErrSyntax)] }
def NumDividesSaid : Prop := numDividesRow.holds Tryd.pinned (OpenSpec.ofChange numDividesSpec)

/-- ITS FALSE NEIGHBOUR: 'it returns false'. Refute it at one input. -/
def numDividesWrong : ChangeSpec := { name := "numDivides", fn := fun _ => fun
  | [d1, d2] => { results := [.lit (.bool false)], args := [d1, d2] }
  | _ => none }
def NumDividesWrongFalsely : Prop := numDividesRow.holds Tryd.pinned (OpenSpec.ofChange numDividesWrong)

/-- 'quadrillelaw1.NumText': WHATEVER THE INPUT: true; the input reads as it did. -/
def numTextSpec : ChangeSpec := { name := "numText", fn := fun _ => fun
  | [d1, d2] => { results := [.lit (.bool true)], args := [d1, d2] }
  | _ => none }
def numTextRow : OpenClaim := { program := "ytedcfddbfpgeaaadoor", sum := "11223486d7b42ebfabd97b711405fe83b08fdb06f80a5303b03c5eb5545ed30b", func := "quadrille/quadrillelaw1.NumText", spec := "numText", named := ["strconv.ErrSyntax", "strconv.ErrRange", "internal/strconv.uint64pow10", "math/bits.deBruijn32tab", "math/bits.deBruijn64tab"], apart := false, laid := [("math/bits.deBruijn32tab", laid_math_bits_deBruijn32tab), ("math/bits.deBruijn64tab", laid_math_bits_deBruijn64tab), ("internal/strconv.uint64pow10", laid_internal_strconv_uint64pow10), ("strconv.ErrRange", laid_strconv_ErrRange), ("strconv.ErrSyntax", laid_strconv_ErrSyntax)] }
def NumTextSaid : Prop := numTextRow.holds Tryd.pinned (OpenSpec.ofChange numTextSpec)

/-- ITS FALSE NEIGHBOUR: 'it returns false'. Refute it at one input. -/
def numTextWrong : ChangeSpec := { name := "numText", fn := fun _ => fun
  | [d1, d2] => { results := [.lit (.bool false)], args := [d1, d2] }
  | _ => none }
def NumTextWrongFalsely : Prop := numTextRow.holds Tryd.pinned (OpenSpec.ofChange numTextWrong)

/-- 'quadrillelaw1.NumSmall': WHATEVER THE INPUT: true; the input reads as it did. -/
def numSmallSpec : ChangeSpec := { name := "numSmall", fn := fun _ => fun
  | [d1, d2] => { results := [.lit (.bool true)], args := [d1, d2] }
  | _ => none }
def numSmallRow : OpenClaim := { program := "ytedcfddbfpgeaaadoor", sum := "11223486d7b42ebfabd97b711405fe83b08fdb06f80a5303b03c5eb5545ed30b", func := "quadrille/quadrillelaw1.NumSmall", spec := "numSmall", named := ["strconv.ErrSyntax", "strconv.ErrRange", "internal/strconv.uint64pow10", "math/bits.deBruijn32tab", "math/bits.deBruijn64tab"], apart := false, laid := [("math/bits.deBruijn32tab", laid_math_bits_deBruijn32tab), ("math/bits.deBruijn64tab", laid_math_bits_deBruijn64tab), ("internal/strconv.uint64pow10", laid_internal_strconv_uint64pow10), ("strconv.ErrRange", laid_strconv_ErrRange), ("strconv.ErrSyntax", laid_strconv_ErrSyntax)] }
def NumSmallSaid : Prop := numSmallRow.holds Tryd.pinned (OpenSpec.ofChange numSmallSpec)

/-- ITS FALSE NEIGHBOUR: 'it returns false'. Refute it at one input. -/
def numSmallWrong : ChangeSpec := { name := "numSmall", fn := fun _ => fun
  | [d1, d2] => { results := [.lit (.bool false)], args := [d1, d2] }
  | _ => none }
def NumSmallWrongFalsely : Prop := numSmallRow.holds Tryd.pinned (OpenSpec.ofChange numSmallWrong)

/-- 'quadrillelaw1.NumNamed': WHATEVER THE INPUT: true; the input reads as it did. -/
def numNamedSpec : ChangeSpec := { name := "numNamed", fn := fun _ => fun
  | [d1, d2, d3, d4] => { results := [.lit (.bool true)], args := [d1, d2, d3, d4] }
  | _ => none }
def numNamedRow : OpenClaim := { program := "ytedcfddbfpgeaaadoor", sum := "11223486d7b42ebfabd97b711405fe83b08fdb06f80a5303b03c5eb5545ed30b", func := "quadrille/quadrillelaw1.NumNamed", spec := "numNamed", named := ["strconv.ErrSyntax", "strconv.ErrRange", "internal/strconv.uint64pow10", "math/bits.deBruijn32tab", "math/bits.deBruijn64tab"], apart := false, laid := [("math/bits.deBruijn32tab", laid_math_bits_deBruijn32tab), ("math/bits.deBruijn64tab", laid_math_bits_deBruijn64tab), ("internal/strconv.uint64pow10", laid_internal_strconv_uint64pow10), ("strconv.ErrRange", laid_strconv_ErrRange), ("strconv.ErrSyntax", laid_strconv_ErrSyntax)] }
def NumNamedSaid : Prop := numNamedRow.holds Tryd.pinned (OpenSpec.ofChange numNamedSpec)

/-- ITS FALSE NEIGHBOUR: 'it returns false'. Refute it at one input. -/
def numNamedWrong : ChangeSpec := { name := "numNamed", fn := fun _ => fun
  | [d1, d2, d3, d4] => { results := [.lit (.bool false)], args := [d1, d2, d3, d4] }
  | _ => none }
def NumNamedWrongFalsely : Prop := numNamedRow.holds Tryd.pinned (OpenSpec.ofChange numNamedWrong)

/-- 'quadrillelaw1.NumPowers': WHATEVER THE INPUT: true; the input reads as it did. -/
def numPowersSpec : ChangeSpec := { name := "numPowers", fn := fun _ => fun
  | [d1, d2, d3] => { results := [.lit (.bool true)], args := [d1, d2, d3] }
  | _ => none }
def numPowersRow : OpenClaim := { program := "ytedcfddbfpgeaaadoor", sum := "11223486d7b42ebfabd97b711405fe83b08fdb06f80a5303b03c5eb5545ed30b", func := "quadrille/quadrillelaw1.NumPowers", spec := "numPowers", named := ["strconv.ErrSyntax", "strconv.ErrRange", "internal/strconv.uint64pow10", "math/bits.deBruijn32tab", "math/bits.deBruijn64tab"], apart := false, laid := [("math/bits.deBruijn32tab", laid_math_bits_deBruijn32tab), ("math/bits.deBruijn64tab", laid_math_bits_deBruijn64tab), ("internal/strconv.uint64pow10", laid_internal_strconv_uint64pow10), ("strconv.ErrRange", laid_strconv_ErrRange), ("strconv.ErrSyntax", laid_strconv_ErrSyntax)] }
def NumPowersSaid : Prop := numPowersRow.holds Tryd.pinned (OpenSpec.ofChange numPowersSpec)

/-- ITS FALSE NEIGHBOUR: 'it returns false'. Refute it at one input. -/
def numPowersWrong : ChangeSpec := { name := "numPowers", fn := fun _ => fun
  | [d1, d2, d3] => { results := [.lit (.bool false)], args := [d1, d2, d3] }
  | _ => none }
def NumPowersWrongFalsely : Prop := numPowersRow.holds Tryd.pinned (OpenSpec.ofChange numPowersWrong)

/-- 'quadrillelaw1.NumCommon': WHATEVER THE INPUT: true; the input reads as it did. -/
def numCommonSpec : ChangeSpec := { name := "numCommon", fn := fun _ => fun
  | [d1, d2] => { results := [.lit (.bool true)], args := [d1, d2] }
  | _ => none }
def numCommonRow : OpenClaim := { program := "ytedcfddbfpgeaaadoor", sum := "11223486d7b42ebfabd97b711405fe83b08fdb06f80a5303b03c5eb5545ed30b", func := "quadrille/quadrillelaw1.NumCommon", spec := "numCommon", named := ["strconv.ErrSyntax", "strconv.ErrRange", "internal/strconv.uint64pow10", "math/bits.deBruijn32tab", "math/bits.deBruijn64tab"], apart := false, laid := [("math/bits.deBruijn32tab", laid_math_bits_deBruijn32tab), ("math/bits.deBruijn64tab", laid_math_bits_deBruijn64tab), ("internal/strconv.uint64pow10", laid_internal_strconv_uint64pow10), ("strconv.ErrRange", laid_strconv_ErrRange), ("strconv.ErrSyntax", laid_strconv_ErrSyntax)] }
def NumCommonSaid : Prop := numCommonRow.holds Tryd.pinned (OpenSpec.ofChange numCommonSpec)

/-- ITS FALSE NEIGHBOUR: 'it returns false'. Refute it at one input. -/
def numCommonWrong : ChangeSpec := { name := "numCommon", fn := fun _ => fun
  | [d1, d2] => { results := [.lit (.bool false)], args := [d1, d2] }
  | _ => none }
def NumCommonWrongFalsely : Prop := numCommonRow.holds Tryd.pinned (OpenSpec.ofChange numCommonWrong)

/-- 'quadrillelaw1.NumAll': WHATEVER THE INPUT: true; the input reads as it did. -/
def numAllSpec : ChangeSpec := { name := "numAll", fn := fun _ => fun
  | [d] => { results := [.lit (.bool true)], args := [d] }
  | _ => none }
def numAllRow : OpenClaim := { program := "ytedcfddbfpgeaaadoor", sum := "11223486d7b42ebfabd97b711405fe83b08fdb06f80a5303b03c5eb5545ed30b", func := "quadrille/quadrillelaw1.NumAll", spec := "numAll", named := ["strconv.ErrSyntax", "strconv.ErrRange", "internal/strconv.uint64pow10", "math/bits.deBruijn32tab", "math/bits.deBruijn64tab"], apart := false, laid := [("math/bits.deBruijn32tab", laid_math_bits_deBruijn32tab), ("math/bits.deBruijn64tab", laid_math_bits_deBruijn64tab), ("internal/strconv.uint64pow10", laid_internal_strconv_uint64pow10), ("strconv.ErrRange", laid_strconv_ErrRange), ("strconv.ErrSyntax", laid_strconv_ErrSyntax)] }
def NumAllSaid : Prop := numAllRow.holds Tryd.pinned (OpenSpec.ofChange numAllSpec)

/-- ITS FALSE NEIGHBOUR: 'it returns false'. Refute it at one input. -/
def numAllWrong : ChangeSpec := { name := "numAll", fn := fun _ => fun
  | [d] => { results := [.lit (.bool false)], args := [d] }
  | _ => none }
def NumAllWrongFalsely : Prop := numAllRow.holds Tryd.pinned (OpenSpec.ofChange numAllWrong)

/- THE SECOND FORM. 'bulk': how many values and letters a reading holds, each counted each time it is reached (what is shared counts as often as it is met; a slice's spare places count too). A statement '..UptoSaid' is the law's where the arguments, and the package variables that the reading takes, are together of bulk at most 1048576: NARROWER than '..Said'. Prove '..Said' where nothing that the law and all that it calls make is longer than what came in: it says more and counts as full. Else prove '..UptoSaid'. A law counts once. -/
mutual
def uptoBulk {H : Type} : DataW H → Nat
  | .lit (.string bytes) => bytes.length + 1
  | .lit _ => 1
  | .nil => 1
  | .ptr d => uptoBulk d + 1
  | .slice elems spare => uptoBulkAll elems + uptoBulkAll spare + 1
  | .agg parts => uptoBulkAll parts + 1
  | .iface _ d => uptoBulk d + 1
  | .map entries => uptoBulkEntries entries + 1
  | .held _ => 1
def uptoBulkAll {H : Type} : List (DataW H) → Nat
  | [] => 0
  | d :: r => uptoBulk d + uptoBulkAll r
def uptoBulkEntries {H : Type} : List (Lit × DataW H) → Nat
  | [] => 0
  | x :: r => uptoBulkEntry x + uptoBulkEntries r
def uptoBulkEntry {H : Type} : Lit × DataW H → Nat
  | (.string bytes, d) => bytes.length + uptoBulk d + 1
  | (_, d) => uptoBulk d + 1
 end
def uptoSmall : (H : Type) → List (DataW H) → Bool := fun _ ds => decide (uptoBulkAll ds ≤ 1048576)
def OpenSpec.upto (s : _root_.Go.ChangeSpec) : _root_.Go.OpenSpec := { _root_.Go.OpenSpec.ofChange s with cond := some uptoSmall }

/-- 'quadrillelaw5.RunesNumbers', WHERE WHAT IT READS IS OF BULK AT MOST 1048576: true; the input reads as it did. -/
def runesNumbersUptoRow : OpenClaim := { program := "ytedcfddbfpgeaaadoor", sum := "11223486d7b42ebfabd97b711405fe83b08fdb06f80a5303b03c5eb5545ed30b", func := "quadrille/quadrillelaw5.RunesNumbers", spec := "runesNumbers", unfollowed := true, recurses := true, named := ["unicode/utf8.first", "unicode/utf8.acceptRanges"], apart := false, laid := [("unicode/utf8.acceptRanges", laid_unicode_utf8_acceptRanges), ("unicode/utf8.first", laid_unicode_utf8_first)], narrowed := true }
def RunesNumbersUptoSaid : Prop := runesNumbersUptoRow.holds Tryd.pinned (OpenSpec.upto runesNumbersSpec)

/-- 'quadrillelaw5.RunesFound', WHERE WHAT IT READS IS OF BULK AT MOST 1048576: true; the input reads as it did. -/
def runesFoundUptoRow : OpenClaim := { program := "ytedcfddbfpgeaaadoor", sum := "11223486d7b42ebfabd97b711405fe83b08fdb06f80a5303b03c5eb5545ed30b", func := "quadrille/quadrillelaw5.RunesFound", spec := "runesFound", unfollowed := true, recurses := true, named := ["unicode/utf8.first", "unicode/utf8.acceptRanges"], apart := false, laid := [("unicode/utf8.acceptRanges", laid_unicode_utf8_acceptRanges), ("unicode/utf8.first", laid_unicode_utf8_first)], narrowed := true }
def RunesFoundUptoSaid : Prop := runesFoundUptoRow.holds Tryd.pinned (OpenSpec.upto runesFoundSpec)

/-- 'quadrillelaw5.RunesHalves', WHERE WHAT IT READS IS OF BULK AT MOST 1048576: true; the input reads as it did. -/
def runesHalvesUptoRow : OpenClaim := { program := "ytedcfddbfpgeaaadoor", sum := "11223486d7b42ebfabd97b711405fe83b08fdb06f80a5303b03c5eb5545ed30b", func := "quadrille/quadrillelaw5.RunesHalves", spec := "runesHalves", unfollowed := true, recurses := true, named := ["unicode/utf8.first", "unicode/utf8.acceptRanges"], apart := false, laid := [("unicode/utf8.acceptRanges", laid_unicode_utf8_acceptRanges), ("unicode/utf8.first", laid_unicode_utf8_first)], narrowed := true }
def RunesHalvesUptoSaid : Prop := runesHalvesUptoRow.holds Tryd.pinned (OpenSpec.upto runesHalvesSpec)

/-- 'quadrillelaw5.RunesTimes', WHERE WHAT IT READS IS OF BULK AT MOST 1048576: true; the input reads as it did. -/
def runesTimesUptoRow : OpenClaim := { program := "ytedcfddbfpgeaaadoor", sum := "11223486d7b42ebfabd97b711405fe83b08fdb06f80a5303b03c5eb5545ed30b", func := "quadrille/quadrillelaw5.RunesTimes", spec := "runesTimes", inPlace := ["internal/abi.NoEscape", "internal/bytealg.MakeNoZero"], unfollowed := true, recurses := true, named := ["unicode/utf8.first", "unicode/utf8.acceptRanges"], apart := false, laid := [("unicode/utf8.acceptRanges", laid_unicode_utf8_acceptRanges), ("unicode/utf8.first", laid_unicode_utf8_first)], narrowed := true }
def RunesTimesUptoSaid : Prop := runesTimesUptoRow.holds Tryd.pinned (OpenSpec.upto runesTimesSpec)

/-- 'quadrillelaw5.RunesTrimmed', WHERE WHAT IT READS IS OF BULK AT MOST 1048576: true; the input reads as it did. -/
def runesTrimmedUptoRow : OpenClaim := { program := "ytedcfddbfpgeaaadoor", sum := "11223486d7b42ebfabd97b711405fe83b08fdb06f80a5303b03c5eb5545ed30b", func := "quadrille/quadrillelaw5.RunesTrimmed", spec := "runesTrimmed", inPlace := ["internal/bytealg.IndexByteString", "internal/bytealg.IndexString", "internal/abi.NoEscape"], unfollowed := true, recurses := true, named := ["unicode/utf8.first", "unicode/utf8.acceptRanges", "internal/bytealg.MaxLen"], apart := false, laid := [("unicode/utf8.acceptRanges", laid_unicode_utf8_acceptRanges), ("unicode/utf8.first", laid_unicode_utf8_first)], narrowed := true }
def RunesTrimmedUptoSaid : Prop := runesTrimmedUptoRow.holds Tryd.pinned (OpenSpec.upto runesTrimmedSpec)

/-- 'quadrillelaw1.NumDivides', WHERE WHAT IT READS IS OF BULK AT MOST 1048576: true; the input reads as it did. -/
def numDividesUptoRow : OpenClaim := { program := "ytedcfddbfpgeaaadoor", sum := "11223486d7b42ebfabd97b711405fe83b08fdb06f80a5303b03c5eb5545ed30b", func := "quadrille/quadrillelaw1.NumDivides", spec := "numDivides", named := ["strconv.ErrSyntax", "strconv.ErrRange", "internal/strconv.uint64pow10", "math/bits.deBruijn32tab", "math/bits.deBruijn64tab"], apart := false, laid := [("math/bits.deBruijn32tab", laid_math_bits_deBruijn32tab), ("math/bits.deBruijn64tab", laid_math_bits_deBruijn64tab), ("internal/strconv.uint64pow10", laid_internal_strconv_uint64pow10), ("strconv.ErrRange", laid_strconv_ErrRange), ("strconv.ErrSyntax", laid_strconv_ErrSyntax)], narrowed := true }
def NumDividesUptoSaid : Prop := numDividesUptoRow.holds Tryd.pinned (OpenSpec.upto numDividesSpec)

/-- 'quadrillelaw1.NumText', WHERE WHAT IT READS IS OF BULK AT MOST 1048576: true; the input reads as it did. -/
def numTextUptoRow : OpenClaim := { program := "ytedcfddbfpgeaaadoor", sum := "11223486d7b42ebfabd97b711405fe83b08fdb06f80a5303b03c5eb5545ed30b", func := "quadrille/quadrillelaw1.NumText", spec := "numText", named := ["strconv.ErrSyntax", "strconv.ErrRange", "internal/strconv.uint64pow10", "math/bits.deBruijn32tab", "math/bits.deBruijn64tab"], apart := false, laid := [("math/bits.deBruijn32tab", laid_math_bits_deBruijn32tab), ("math/bits.deBruijn64tab", laid_math_bits_deBruijn64tab), ("internal/strconv.uint64pow10", laid_internal_strconv_uint64pow10), ("strconv.ErrRange", laid_strconv_ErrRange), ("strconv.ErrSyntax", laid_strconv_ErrSyntax)], narrowed := true }
def NumTextUptoSaid : Prop := numTextUptoRow.holds Tryd.pinned (OpenSpec.upto numTextSpec)

/-- 'quadrillelaw1.NumSmall', WHERE WHAT IT READS IS OF BULK AT MOST 1048576: true; the input reads as it did. -/
def numSmallUptoRow : OpenClaim := { program := "ytedcfddbfpgeaaadoor", sum := "11223486d7b42ebfabd97b711405fe83b08fdb06f80a5303b03c5eb5545ed30b", func := "quadrille/quadrillelaw1.NumSmall", spec := "numSmall", named := ["strconv.ErrSyntax", "strconv.ErrRange", "internal/strconv.uint64pow10", "math/bits.deBruijn32tab", "math/bits.deBruijn64tab"], apart := false, laid := [("math/bits.deBruijn32tab", laid_math_bits_deBruijn32tab), ("math/bits.deBruijn64tab", laid_math_bits_deBruijn64tab), ("internal/strconv.uint64pow10", laid_internal_strconv_uint64pow10), ("strconv.ErrRange", laid_strconv_ErrRange), ("strconv.ErrSyntax", laid_strconv_ErrSyntax)], narrowed := true }
def NumSmallUptoSaid : Prop := numSmallUptoRow.holds Tryd.pinned (OpenSpec.upto numSmallSpec)

/-- 'quadrillelaw1.NumNamed', WHERE WHAT IT READS IS OF BULK AT MOST 1048576: true; the input reads as it did. -/
def numNamedUptoRow : OpenClaim := { program := "ytedcfddbfpgeaaadoor", sum := "11223486d7b42ebfabd97b711405fe83b08fdb06f80a5303b03c5eb5545ed30b", func := "quadrille/quadrillelaw1.NumNamed", spec := "numNamed", named := ["strconv.ErrSyntax", "strconv.ErrRange", "internal/strconv.uint64pow10", "math/bits.deBruijn32tab", "math/bits.deBruijn64tab"], apart := false, laid := [("math/bits.deBruijn32tab", laid_math_bits_deBruijn32tab), ("math/bits.deBruijn64tab", laid_math_bits_deBruijn64tab), ("internal/strconv.uint64pow10", laid_internal_strconv_uint64pow10), ("strconv.ErrRange", laid_strconv_ErrRange), ("strconv.ErrSyntax", laid_strconv_ErrSyntax)], narrowed := true }
def NumNamedUptoSaid : Prop := numNamedUptoRow.holds Tryd.pinned (OpenSpec.upto numNamedSpec)

/-- 'quadrillelaw1.NumPowers', WHERE WHAT IT READS IS OF BULK AT MOST 1048576: true; the input reads as it did. -/
def numPowersUptoRow : OpenClaim := { program := "ytedcfddbfpgeaaadoor", sum := "11223486d7b42ebfabd97b711405fe83b08fdb06f80a5303b03c5eb5545ed30b", func := "quadrille/quadrillelaw1.NumPowers", spec := "numPowers", named := ["strconv.ErrSyntax", "strconv.ErrRange", "internal/strconv.uint64pow10", "math/bits.deBruijn32tab", "math/bits.deBruijn64tab"], apart := false, laid := [("math/bits.deBruijn32tab", laid_math_bits_deBruijn32tab), ("math/bits.deBruijn64tab", laid_math_bits_deBruijn64tab), ("internal/strconv.uint64pow10", laid_internal_strconv_uint64pow10), ("strconv.ErrRange", laid_strconv_ErrRange), ("strconv.ErrSyntax", laid_strconv_ErrSyntax)], narrowed := true }
def NumPowersUptoSaid : Prop := numPowersUptoRow.holds Tryd.pinned (OpenSpec.upto numPowersSpec)

/-- 'quadrillelaw1.NumCommon', WHERE WHAT IT READS IS OF BULK AT MOST 1048576: true; the input reads as it did. -/
def numCommonUptoRow : OpenClaim := { program := "ytedcfddbfpgeaaadoor", sum := "11223486d7b42ebfabd97b711405fe83b08fdb06f80a5303b03c5eb5545ed30b", func := "quadrille/quadrillelaw1.NumCommon", spec := "numCommon", named := ["strconv.ErrSyntax", "strconv.ErrRange", "internal/strconv.uint64pow10", "math/bits.deBruijn32tab", "math/bits.deBruijn64tab"], apart := false, laid := [("math/bits.deBruijn32tab", laid_math_bits_deBruijn32tab), ("math/bits.deBruijn64tab", laid_math_bits_deBruijn64tab), ("internal/strconv.uint64pow10", laid_internal_strconv_uint64pow10), ("strconv.ErrRange", laid_strconv_ErrRange), ("strconv.ErrSyntax", laid_strconv_ErrSyntax)], narrowed := true }
def NumCommonUptoSaid : Prop := numCommonUptoRow.holds Tryd.pinned (OpenSpec.upto numCommonSpec)

/-- 'quadrillelaw1.NumAll', WHERE WHAT IT READS IS OF BULK AT MOST 1048576: true; the input reads as it did. -/
def numAllUptoRow : OpenClaim := { program := "ytedcfddbfpgeaaadoor", sum := "11223486d7b42ebfabd97b711405fe83b08fdb06f80a5303b03c5eb5545ed30b", func := "quadrille/quadrillelaw1.NumAll", spec := "numAll", named := ["strconv.ErrSyntax", "strconv.ErrRange", "internal/strconv.uint64pow10", "math/bits.deBruijn32tab", "math/bits.deBruijn64tab"], apart := false, laid := [("math/bits.deBruijn32tab", laid_math_bits_deBruijn32tab), ("math/bits.deBruijn64tab", laid_math_bits_deBruijn64tab), ("internal/strconv.uint64pow10", laid_internal_strconv_uint64pow10), ("strconv.ErrRange", laid_strconv_ErrRange), ("strconv.ErrSyntax", laid_strconv_ErrSyntax)], narrowed := true }
def NumAllUptoSaid : Prop := numAllUptoRow.holds Tryd.pinned (OpenSpec.upto numAllSpec)

end Rows
end Go.Proofs.YtedcfddbfpgeaaaDoor
