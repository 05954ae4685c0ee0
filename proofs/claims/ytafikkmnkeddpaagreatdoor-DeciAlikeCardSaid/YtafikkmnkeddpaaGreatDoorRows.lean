/-
  NARROWER THAN 'FOR EVERY INPUT', by the rows' own cells (each row's printed sentence says how): DeciParses: laid · DeciRises: laid · DeciAlike: laid · DeciShortest: laid · DeciIntegers: laid · DeciDigits: laid · DeciLeast: laid · WholeReads: laid · DeciBack: laid · WholeShortest: laid · WholeTexts: laid.
  DERIVED. THE GIVEN ROWS OF THIS SEAT. 11 by the template 'for every input the law returns true; each argument reads behind the call as it read before'; 0 by the template 'total and deterministic' (their statements: YtafikkmnkeddpaaGreatDoorTotals.lean).
  GIVEN WITH THE SEED: the statements are not yours to turn. If you find one false, say at which input.
  Laid BY PROGRAM, IN A SANDBOX (cutbox-rows.mjs): the forced cells as the released guide's own fill.sh prints them over the translation 58fa7af00fe3d314… (all of the seat's roots in one cut). By AI agents, Wed Nov 11 2026. No macro, syntax, notation, axiom, sorry.
-/
import Derived.Test.YtafikkmnkeddpaaGreatDoorChecked
import GoSem.PinnedTables
import GoSem.Claim
import GoSem.ClaimJoined
import GoSem.ClaimMapViews
import Derived.JoinedTies
import Derived.KernelRfl
namespace Go.Proofs.YtafikkmnkeddpaaGreatDoor
/- THE CELL 'sum', in the pinned program and in every row, IS THE sha256 OF THE DUMP (.gsa) THAT YtafikkmnkeddpaaGreatDoorProg.lean LOADS. Nothing in Lean hashes anything: it is a label: what it is worth is what the hold of that sum in a sandbox is worth. -/
noncomputable def Tryz.pinned : Pinned := { name := "ytafikkmnkeddpaagreatdoor", sum := "58fa7af00fe3d3148fa63564ea24212b8ae7a696b584c52e683814d50b81170a", checked := Tryz.checked }
namespace Rows
def none {H : Type} : Left H := { results := [], args := [] }

/- WHAT THE LISTED PACKAGE-LEVEL VARIABLES READ AS WHEN THE CALL BEGINS. Each datum BY PROGRAM (the guide's laid-datum.mjs) off the statement by which the dump's own 'gosem.cut.vars' lays the variable. In a bare row this is a premise. The card (YtafikkmnkeddpaaGreatDoorCards.lean) ties it to the program's text. -/
def laid_math_bits_deBruijn32tab {H : Type} : DataW H := .agg [.lit (.int .u8 0), .lit (.int .u8 1), .lit (.int .u8 28), .lit (.int .u8 2), .lit (.int .u8 29), .lit (.int .u8 14), .lit (.int .u8 24), .lit (.int .u8 3), .lit (.int .u8 30), .lit (.int .u8 22), .lit (.int .u8 20), .lit (.int .u8 15), .lit (.int .u8 25), .lit (.int .u8 17), .lit (.int .u8 4), .lit (.int .u8 8), .lit (.int .u8 31), .lit (.int .u8 27), .lit (.int .u8 13), .lit (.int .u8 23), .lit (.int .u8 21), .lit (.int .u8 19), .lit (.int .u8 16), .lit (.int .u8 7), .lit (.int .u8 26), .lit (.int .u8 12), .lit (.int .u8 18), .lit (.int .u8 6), .lit (.int .u8 11), .lit (.int .u8 5), .lit (.int .u8 10), .lit (.int .u8 9)]
def laid_math_bits_deBruijn64tab {H : Type} : DataW H := .agg [.lit (.int .u8 0), .lit (.int .u8 1), .lit (.int .u8 56), .lit (.int .u8 2), .lit (.int .u8 57), .lit (.int .u8 49), .lit (.int .u8 28), .lit (.int .u8 3), .lit (.int .u8 61), .lit (.int .u8 58), .lit (.int .u8 42), .lit (.int .u8 50), .lit (.int .u8 38), .lit (.int .u8 29), .lit (.int .u8 17), .lit (.int .u8 4), .lit (.int .u8 62), .lit (.int .u8 47), .lit (.int .u8 59), .lit (.int .u8 36), .lit (.int .u8 45), .lit (.int .u8 43), .lit (.int .u8 51), .lit (.int .u8 22), .lit (.int .u8 53), .lit (.int .u8 39), .lit (.int .u8 33), .lit (.int .u8 30), .lit (.int .u8 24), .lit (.int .u8 18), .lit (.int .u8 12), .lit (.int .u8 5), .lit (.int .u8 63), .lit (.int .u8 55), .lit (.int .u8 48), .lit (.int .u8 27), .lit (.int .u8 60), .lit (.int .u8 41), .lit (.int .u8 37), .lit (.int .u8 16), .lit (.int .u8 46), .lit (.int .u8 35), .lit (.int .u8 44), .lit (.int .u8 21), .lit (.int .u8 52), .lit (.int .u8 32), .lit (.int .u8 23), .lit (.int .u8 11), .lit (.int .u8 54), .lit (.int .u8 26), .lit (.int .u8 40), .lit (.int .u8 15), .lit (.int .u8 34), .lit (.int .u8 20), .lit (.int .u8 31), .lit (.int .u8 10), .lit (.int .u8 25), .lit (.int .u8 14), .lit (.int .u8 19), .lit (.int .u8 9), .lit (.int .u8 13), .lit (.int .u8 8), .lit (.int .u8 7), .lit (.int .u8 6)]
def laid_internal_strconv_uint64pow10 {H : Type} : DataW H := .agg [.lit (.int .u64 1), .lit (.int .u64 10), .lit (.int .u64 100), .lit (.int .u64 1000), .lit (.int .u64 10000), .lit (.int .u64 100000), .lit (.int .u64 1000000), .lit (.int .u64 10000000), .lit (.int .u64 100000000), .lit (.int .u64 1000000000), .lit (.int .u64 10000000000), .lit (.int .u64 100000000000), .lit (.int .u64 1000000000000), .lit (.int .u64 10000000000000), .lit (.int .u64 100000000000000), .lit (.int .u64 1000000000000000), .lit (.int .u64 10000000000000000), .lit (.int .u64 100000000000000000), .lit (.int .u64 1000000000000000000), .lit (.int .u64 10000000000000000000)]
def laid_unicode_utf8_acceptRanges {H : Type} : DataW H := .agg [.agg [.lit (.int .u8 128), .lit (.int .u8 191)], .agg [.lit (.int .u8 160), .lit (.int .u8 191)], .agg [.lit (.int .u8 128), .lit (.int .u8 159)], .agg [.lit (.int .u8 144), .lit (.int .u8 191)], .agg [.lit (.int .u8 128), .lit (.int .u8 143)], .agg [.lit (.int .u8 0), .lit (.int .u8 0)], .agg [.lit (.int .u8 0), .lit (.int .u8 0)], .agg [.lit (.int .u8 0), .lit (.int .u8 0)], .agg [.lit (.int .u8 0), .lit (.int .u8 0)], .agg [.lit (.int .u8 0), .lit (.int .u8 0)], .agg [.lit (.int .u8 0), .lit (.int .u8 0)], .agg [.lit (.int .u8 0), .lit (.int .u8 0)], .agg [.lit (.int .u8 0), .lit (.int .u8 0)], .agg [.lit (.int .u8 0), .lit (.int .u8 0)], .agg [.lit (.int .u8 0), .lit (.int .u8 0)], .agg [.lit (.int .u8 0), .lit (.int .u8 0)]]
def laid_vernier_format_rows {H : Type} : DataW H := .agg [.agg [.lit (.int .i64 16), .lit (.int .i64 11), .lit (.int .i64 (-14)), .lit (.int .i64 15)], .agg [.lit (.int .i64 16), .lit (.int .i64 8), .lit (.int .i64 (-126)), .lit (.int .i64 127)], .agg [.lit (.int .i64 32), .lit (.int .i64 24), .lit (.int .i64 (-126)), .lit (.int .i64 127)], .agg [.lit (.int .i64 64), .lit (.int .i64 53), .lit (.int .i64 (-1022)), .lit (.int .i64 1023)]]
/-- One of Go's own tables, pinned by name: the form's constant. -/
def laid_unicode_CaseRanges : DataW Unit := Go.Pinned.caseRanges
/-- One of Go's own tables, pinned by name: the form's constant. -/
def laid_unicode_utf8_first : DataW Unit := Go.Pinned.utf8First
def laid_vernier_whole_kinds {H : Type} : DataW H := .agg [.agg [.lit (.int .u64 2147483648), .lit (.int .u64 2147483647)], .agg [.lit (.int .u64 9223372036854775808), .lit (.int .u64 9223372036854775807)], .agg [.lit (.int .u64 0), .lit (.int .u64 4294967295)], .agg [.lit (.int .u64 0), .lit (.int .u64 18446744073709551615)]]

/-- 'vernierlaw16.DeciParses': WHATEVER THE INPUT: true; the input reads as it did. -/
def deciParsesSpec : ChangeSpec := { name := "deciParses", fn := fun _ => fun
  | [d1, d2, d3] => { results := [.lit (.bool true)], args := [d1, d2, d3] }
  | _ => none }
def deciParsesRow : OpenClaim := { program := "ytafikkmnkeddpaagreatdoor", sum := "58fa7af00fe3d3148fa63564ea24212b8ae7a696b584c52e683814d50b81170a", func := "vernier/vernierlaw16.DeciParses", spec := "deciParses", inPlace := ["internal/abi.NoEscape", "internal/bytealg.MakeNoZero", "internal/bytealg.IndexByteString", "internal/bytealg.IndexString", "math/bits.Add64", "math/bits.Sub64"], unfollowed := true, recurses := true, named := ["vernier/format.rows", "unicode/utf8.first", "unicode/utf8.acceptRanges", "unicode.CaseRanges", "math/bits.divideError", "math/bits.overflowError", "math/bits.deBruijn64tab", "internal/strconv.uint64pow10", "math/bits.deBruijn32tab", "internal/bytealg.MaxLen"], apart := false, laid := [("math/bits.deBruijn32tab", laid_math_bits_deBruijn32tab), ("math/bits.deBruijn64tab", laid_math_bits_deBruijn64tab), ("internal/strconv.uint64pow10", laid_internal_strconv_uint64pow10), ("unicode/utf8.acceptRanges", laid_unicode_utf8_acceptRanges), ("vernier/format.rows", laid_vernier_format_rows), ("unicode.CaseRanges", laid_unicode_CaseRanges), ("unicode/utf8.first", laid_unicode_utf8_first)] }
def DeciParsesSaid : Prop := deciParsesRow.holds Tryz.pinned (OpenSpec.ofChange deciParsesSpec)

/-- ITS FALSE NEIGHBOUR: 'it returns false'. Refute it at one input. -/
def deciParsesWrong : ChangeSpec := { name := "deciParses", fn := fun _ => fun
  | [d1, d2, d3] => { results := [.lit (.bool false)], args := [d1, d2, d3] }
  | _ => none }
def DeciParsesWrongFalsely : Prop := deciParsesRow.holds Tryz.pinned (OpenSpec.ofChange deciParsesWrong)

/-- 'vernierlaw16.DeciRises': WHATEVER THE INPUT: true; the input reads as it did. -/
def deciRisesSpec : ChangeSpec := { name := "deciRises", fn := fun _ => fun
  | [d1, d2] => { results := [.lit (.bool true)], args := [d1, d2] }
  | _ => none }
def deciRisesRow : OpenClaim := { program := "ytafikkmnkeddpaagreatdoor", sum := "58fa7af00fe3d3148fa63564ea24212b8ae7a696b584c52e683814d50b81170a", func := "vernier/vernierlaw16.DeciRises", spec := "deciRises", inPlace := ["internal/abi.NoEscape", "internal/bytealg.MakeNoZero", "internal/bytealg.IndexByteString", "internal/bytealg.IndexString", "math/bits.Add64", "math/bits.Sub64"], unfollowed := true, recurses := true, named := ["vernier/format.rows", "unicode/utf8.first", "unicode/utf8.acceptRanges", "unicode.CaseRanges", "math/bits.divideError", "math/bits.overflowError", "math/bits.deBruijn64tab", "internal/strconv.uint64pow10", "math/bits.deBruijn32tab", "internal/bytealg.MaxLen"], apart := false, laid := [("math/bits.deBruijn32tab", laid_math_bits_deBruijn32tab), ("math/bits.deBruijn64tab", laid_math_bits_deBruijn64tab), ("internal/strconv.uint64pow10", laid_internal_strconv_uint64pow10), ("unicode/utf8.acceptRanges", laid_unicode_utf8_acceptRanges), ("vernier/format.rows", laid_vernier_format_rows), ("unicode.CaseRanges", laid_unicode_CaseRanges), ("unicode/utf8.first", laid_unicode_utf8_first)] }
def DeciRisesSaid : Prop := deciRisesRow.holds Tryz.pinned (OpenSpec.ofChange deciRisesSpec)

/-- ITS FALSE NEIGHBOUR: 'it returns false'. Refute it at one input. -/
def deciRisesWrong : ChangeSpec := { name := "deciRises", fn := fun _ => fun
  | [d1, d2] => { results := [.lit (.bool false)], args := [d1, d2] }
  | _ => none }
def DeciRisesWrongFalsely : Prop := deciRisesRow.holds Tryz.pinned (OpenSpec.ofChange deciRisesWrong)

/-- 'vernierlaw16.DeciAlike': WHATEVER THE INPUT: true; the input reads as it did. -/
def deciAlikeSpec : ChangeSpec := { name := "deciAlike", fn := fun _ => fun
  | [d] => { results := [.lit (.bool true)], args := [d] }
  | _ => none }
def deciAlikeRow : OpenClaim := { program := "ytafikkmnkeddpaagreatdoor", sum := "58fa7af00fe3d3148fa63564ea24212b8ae7a696b584c52e683814d50b81170a", func := "vernier/vernierlaw16.DeciAlike", spec := "deciAlike", inPlace := ["internal/abi.NoEscape", "internal/bytealg.MakeNoZero", "internal/bytealg.IndexByteString", "internal/bytealg.IndexString", "math/bits.Add64", "math/bits.Sub64"], unfollowed := true, recurses := true, named := ["vernier/format.rows", "unicode/utf8.first", "unicode/utf8.acceptRanges", "unicode.CaseRanges", "math/bits.divideError", "math/bits.overflowError", "math/bits.deBruijn64tab", "internal/strconv.uint64pow10", "math/bits.deBruijn32tab", "internal/bytealg.MaxLen"], apart := false, laid := [("math/bits.deBruijn32tab", laid_math_bits_deBruijn32tab), ("math/bits.deBruijn64tab", laid_math_bits_deBruijn64tab), ("internal/strconv.uint64pow10", laid_internal_strconv_uint64pow10), ("unicode/utf8.acceptRanges", laid_unicode_utf8_acceptRanges), ("vernier/format.rows", laid_vernier_format_rows), ("unicode.CaseRanges", laid_unicode_CaseRanges), ("unicode/utf8.first", laid_unicode_utf8_first)] }
def DeciAlikeSaid : Prop := deciAlikeRow.holds Tryz.pinned (OpenSpec.ofChange deciAlikeSpec)

/-- ITS FALSE NEIGHBOUR: 'it returns false'. Refute it at one input. -/
def deciAlikeWrong : ChangeSpec := { name := "deciAlike", fn := fun _ => fun
  | [d] => { results := [.lit (.bool false)], args := [d] }
  | _ => none }
def DeciAlikeWrongFalsely : Prop := deciAlikeRow.holds Tryz.pinned (OpenSpec.ofChange deciAlikeWrong)

/-- 'vernierlaw16.DeciShortest': WHATEVER THE INPUT: true; the input reads as it did. -/
def deciShortestSpec : ChangeSpec := { name := "deciShortest", fn := fun _ => fun
  | [d1, d2] => { results := [.lit (.bool true)], args := [d1, d2] }
  | _ => none }
def deciShortestRow : OpenClaim := { program := "ytafikkmnkeddpaagreatdoor", sum := "58fa7af00fe3d3148fa63564ea24212b8ae7a696b584c52e683814d50b81170a", func := "vernier/vernierlaw16.DeciShortest", spec := "deciShortest", inPlace := ["math/bits.Add64", "math/bits.Sub64", "internal/bytealg.IndexByteString", "internal/bytealg.IndexString", "internal/abi.NoEscape", "internal/bytealg.MakeNoZero"], unfollowed := true, recurses := true, named := ["vernier/format.rows", "math/bits.divideError", "math/bits.overflowError", "unicode/utf8.first", "unicode/utf8.acceptRanges", "internal/strconv.uint64pow10", "math/bits.deBruijn32tab", "math/bits.deBruijn64tab", "unicode.CaseRanges", "internal/bytealg.MaxLen"], apart := false, laid := [("math/bits.deBruijn32tab", laid_math_bits_deBruijn32tab), ("math/bits.deBruijn64tab", laid_math_bits_deBruijn64tab), ("internal/strconv.uint64pow10", laid_internal_strconv_uint64pow10), ("unicode/utf8.acceptRanges", laid_unicode_utf8_acceptRanges), ("vernier/format.rows", laid_vernier_format_rows), ("unicode.CaseRanges", laid_unicode_CaseRanges), ("unicode/utf8.first", laid_unicode_utf8_first)] }
def DeciShortestSaid : Prop := deciShortestRow.holds Tryz.pinned (OpenSpec.ofChange deciShortestSpec)

/-- ITS FALSE NEIGHBOUR: 'it returns false'. Refute it at one input. -/
def deciShortestWrong : ChangeSpec := { name := "deciShortest", fn := fun _ => fun
  | [d1, d2] => { results := [.lit (.bool false)], args := [d1, d2] }
  | _ => none }
def DeciShortestWrongFalsely : Prop := deciShortestRow.holds Tryz.pinned (OpenSpec.ofChange deciShortestWrong)

/-- 'vernierlaw16.DeciIntegers': WHATEVER THE INPUT: true; the input reads as it did. -/
def deciIntegersSpec : ChangeSpec := { name := "deciIntegers", fn := fun _ => fun
  | [d1, d2, d3] => { results := [.lit (.bool true)], args := [d1, d2, d3] }
  | _ => none }
def deciIntegersRow : OpenClaim := { program := "ytafikkmnkeddpaagreatdoor", sum := "58fa7af00fe3d3148fa63564ea24212b8ae7a696b584c52e683814d50b81170a", func := "vernier/vernierlaw16.DeciIntegers", spec := "deciIntegers", inPlace := ["internal/abi.NoEscape", "internal/bytealg.MakeNoZero", "internal/bytealg.IndexByteString", "internal/bytealg.IndexString", "math/bits.Add64", "math/bits.Sub64", "math.Float64bits"], unfollowed := true, recurses := true, named := ["vernier/format.rows", "unicode/utf8.first", "unicode/utf8.acceptRanges", "unicode.CaseRanges", "math/bits.divideError", "math/bits.overflowError", "math/bits.deBruijn64tab", "internal/strconv.uint64pow10", "math/bits.deBruijn32tab", "vernier/whole.kinds", "internal/bytealg.MaxLen"], apart := false, laid := [("math/bits.deBruijn32tab", laid_math_bits_deBruijn32tab), ("math/bits.deBruijn64tab", laid_math_bits_deBruijn64tab), ("internal/strconv.uint64pow10", laid_internal_strconv_uint64pow10), ("unicode/utf8.acceptRanges", laid_unicode_utf8_acceptRanges), ("vernier/format.rows", laid_vernier_format_rows), ("vernier/whole.kinds", laid_vernier_whole_kinds), ("unicode.CaseRanges", laid_unicode_CaseRanges), ("unicode/utf8.first", laid_unicode_utf8_first)] }
def DeciIntegersSaid : Prop := deciIntegersRow.holds Tryz.pinned (OpenSpec.ofChange deciIntegersSpec)

/-- ITS FALSE NEIGHBOUR: 'it returns false'. Refute it at one input. -/
def deciIntegersWrong : ChangeSpec := { name := "deciIntegers", fn := fun _ => fun
  | [d1, d2, d3] => { results := [.lit (.bool false)], args := [d1, d2, d3] }
  | _ => none }
def DeciIntegersWrongFalsely : Prop := deciIntegersRow.holds Tryz.pinned (OpenSpec.ofChange deciIntegersWrong)

/-- 'vernierlaw16.DeciDigits': WHATEVER THE INPUT: true; the input reads as it did. -/
def deciDigitsSpec : ChangeSpec := { name := "deciDigits", fn := fun _ => fun
  | [d] => { results := [.lit (.bool true)], args := [d] }
  | _ => none }
def deciDigitsRow : OpenClaim := { program := "ytafikkmnkeddpaagreatdoor", sum := "58fa7af00fe3d3148fa63564ea24212b8ae7a696b584c52e683814d50b81170a", func := "vernier/vernierlaw16.DeciDigits", spec := "deciDigits", inPlace := ["internal/abi.NoEscape", "internal/bytealg.MakeNoZero", "math/bits.Add64", "math/bits.Sub64", "internal/bytealg.IndexByteString", "internal/bytealg.IndexString"], unfollowed := true, recurses := true, named := ["vernier/format.rows", "internal/strconv.uint64pow10", "math/bits.deBruijn32tab", "math/bits.deBruijn64tab", "math/bits.divideError", "math/bits.overflowError", "unicode/utf8.first", "unicode/utf8.acceptRanges", "unicode.CaseRanges", "internal/bytealg.MaxLen"], apart := false, laid := [("math/bits.deBruijn32tab", laid_math_bits_deBruijn32tab), ("math/bits.deBruijn64tab", laid_math_bits_deBruijn64tab), ("internal/strconv.uint64pow10", laid_internal_strconv_uint64pow10), ("unicode/utf8.acceptRanges", laid_unicode_utf8_acceptRanges), ("vernier/format.rows", laid_vernier_format_rows), ("unicode.CaseRanges", laid_unicode_CaseRanges), ("unicode/utf8.first", laid_unicode_utf8_first)] }
def DeciDigitsSaid : Prop := deciDigitsRow.holds Tryz.pinned (OpenSpec.ofChange deciDigitsSpec)

/-- ITS FALSE NEIGHBOUR: 'it returns false'. Refute it at one input. -/
def deciDigitsWrong : ChangeSpec := { name := "deciDigits", fn := fun _ => fun
  | [d] => { results := [.lit (.bool false)], args := [d] }
  | _ => none }
def DeciDigitsWrongFalsely : Prop := deciDigitsRow.holds Tryz.pinned (OpenSpec.ofChange deciDigitsWrong)

/-- 'vernierlaw16.DeciLeast': WHATEVER THE INPUT: true; the input reads as it did. -/
def deciLeastSpec : ChangeSpec := { name := "deciLeast", fn := fun _ => fun
  | [d1, d2, d3] => { results := [.lit (.bool true)], args := [d1, d2, d3] }
  | _ => none }
def deciLeastRow : OpenClaim := { program := "ytafikkmnkeddpaagreatdoor", sum := "58fa7af00fe3d3148fa63564ea24212b8ae7a696b584c52e683814d50b81170a", func := "vernier/vernierlaw16.DeciLeast", spec := "deciLeast", inPlace := ["internal/abi.NoEscape", "internal/bytealg.MakeNoZero", "internal/bytealg.IndexByteString", "internal/bytealg.IndexString", "math/bits.Add64", "math/bits.Sub64"], unfollowed := true, recurses := true, named := ["vernier/format.rows", "unicode/utf8.first", "unicode/utf8.acceptRanges", "unicode.CaseRanges", "math/bits.divideError", "math/bits.overflowError", "math/bits.deBruijn64tab", "internal/strconv.uint64pow10", "math/bits.deBruijn32tab", "internal/bytealg.MaxLen"], apart := false, laid := [("math/bits.deBruijn32tab", laid_math_bits_deBruijn32tab), ("math/bits.deBruijn64tab", laid_math_bits_deBruijn64tab), ("internal/strconv.uint64pow10", laid_internal_strconv_uint64pow10), ("unicode/utf8.acceptRanges", laid_unicode_utf8_acceptRanges), ("vernier/format.rows", laid_vernier_format_rows), ("unicode.CaseRanges", laid_unicode_CaseRanges), ("unicode/utf8.first", laid_unicode_utf8_first)] }
def DeciLeastSaid : Prop := deciLeastRow.holds Tryz.pinned (OpenSpec.ofChange deciLeastSpec)

/-- ITS FALSE NEIGHBOUR: 'it returns false'. Refute it at one input. -/
def deciLeastWrong : ChangeSpec := { name := "deciLeast", fn := fun _ => fun
  | [d1, d2, d3] => { results := [.lit (.bool false)], args := [d1, d2, d3] }
  | _ => none }
def DeciLeastWrongFalsely : Prop := deciLeastRow.holds Tryz.pinned (OpenSpec.ofChange deciLeastWrong)

/-- 'verniertop.WholeReads': WHATEVER THE INPUT: true; the input reads as it did. -/
def wholeReadsSpec : ChangeSpec := { name := "wholeReads", fn := fun _ => fun
  | [d] => { results := [.lit (.bool true)], args := [d] }
  | _ => none }
def wholeReadsRow : OpenClaim := { program := "ytafikkmnkeddpaagreatdoor", sum := "58fa7af00fe3d3148fa63564ea24212b8ae7a696b584c52e683814d50b81170a", func := "vernier/verniertop.WholeReads", spec := "wholeReads", inPlace := ["internal/abi.NoEscape", "internal/bytealg.MakeNoZero", "internal/bytealg.IndexByteString", "internal/bytealg.IndexString", "math/bits.Add64", "math/bits.Sub64"], unfollowed := true, recurses := true, named := ["vernier/format.rows", "unicode/utf8.first", "unicode/utf8.acceptRanges", "unicode.CaseRanges", "math/bits.divideError", "math/bits.overflowError", "math/bits.deBruijn64tab", "internal/strconv.uint64pow10", "math/bits.deBruijn32tab", "internal/bytealg.MaxLen"], apart := false, laid := [("math/bits.deBruijn32tab", laid_math_bits_deBruijn32tab), ("math/bits.deBruijn64tab", laid_math_bits_deBruijn64tab), ("internal/strconv.uint64pow10", laid_internal_strconv_uint64pow10), ("unicode/utf8.acceptRanges", laid_unicode_utf8_acceptRanges), ("vernier/format.rows", laid_vernier_format_rows), ("unicode.CaseRanges", laid_unicode_CaseRanges), ("unicode/utf8.first", laid_unicode_utf8_first)] }
def WholeReadsSaid : Prop := wholeReadsRow.holds Tryz.pinned (OpenSpec.ofChange wholeReadsSpec)

/-- ITS FALSE NEIGHBOUR: 'it returns false'. Refute it at one input. -/
def wholeReadsWrong : ChangeSpec := { name := "wholeReads", fn := fun _ => fun
  | [d] => { results := [.lit (.bool false)], args := [d] }
  | _ => none }
def WholeReadsWrongFalsely : Prop := wholeReadsRow.holds Tryz.pinned (OpenSpec.ofChange wholeReadsWrong)

/-- 'vernierlaw16.DeciBack': WHATEVER THE INPUT: true; the input reads as it did. -/
def deciBackSpec : ChangeSpec := { name := "deciBack", fn := fun _ => fun
  | [d] => { results := [.lit (.bool true)], args := [d] }
  | _ => none }
def deciBackRow : OpenClaim := { program := "ytafikkmnkeddpaagreatdoor", sum := "58fa7af00fe3d3148fa63564ea24212b8ae7a696b584c52e683814d50b81170a", func := "vernier/vernierlaw16.DeciBack", spec := "deciBack", inPlace := ["internal/abi.NoEscape", "internal/bytealg.MakeNoZero", "internal/bytealg.IndexByteString", "internal/bytealg.IndexString", "math/bits.Add64", "math/bits.Sub64"], unfollowed := true, recurses := true, named := ["vernier/format.rows", "unicode/utf8.first", "unicode/utf8.acceptRanges", "unicode.CaseRanges", "math/bits.divideError", "math/bits.overflowError", "math/bits.deBruijn64tab", "internal/strconv.uint64pow10", "math/bits.deBruijn32tab", "internal/bytealg.MaxLen"], apart := false, laid := [("math/bits.deBruijn32tab", laid_math_bits_deBruijn32tab), ("math/bits.deBruijn64tab", laid_math_bits_deBruijn64tab), ("internal/strconv.uint64pow10", laid_internal_strconv_uint64pow10), ("unicode/utf8.acceptRanges", laid_unicode_utf8_acceptRanges), ("vernier/format.rows", laid_vernier_format_rows), ("unicode.CaseRanges", laid_unicode_CaseRanges), ("unicode/utf8.first", laid_unicode_utf8_first)] }
def DeciBackSaid : Prop := deciBackRow.holds Tryz.pinned (OpenSpec.ofChange deciBackSpec)

/-- ITS FALSE NEIGHBOUR: 'it returns false'. Refute it at one input. -/
def deciBackWrong : ChangeSpec := { name := "deciBack", fn := fun _ => fun
  | [d] => { results := [.lit (.bool false)], args := [d] }
  | _ => none }
def DeciBackWrongFalsely : Prop := deciBackRow.holds Tryz.pinned (OpenSpec.ofChange deciBackWrong)

/-- 'verniertop.WholeShortest': WHATEVER THE INPUT: true; the input reads as it did. -/
def wholeShortestSpec : ChangeSpec := { name := "wholeShortest", fn := fun _ => fun
  | [d1, d2] => { results := [.lit (.bool true)], args := [d1, d2] }
  | _ => none }
def wholeShortestRow : OpenClaim := { program := "ytafikkmnkeddpaagreatdoor", sum := "58fa7af00fe3d3148fa63564ea24212b8ae7a696b584c52e683814d50b81170a", func := "vernier/verniertop.WholeShortest", spec := "wholeShortest", inPlace := ["internal/abi.NoEscape", "internal/bytealg.MakeNoZero", "internal/bytealg.IndexByteString", "internal/bytealg.IndexString", "math/bits.Add64", "math/bits.Sub64"], unfollowed := true, recurses := true, named := ["vernier/format.rows", "unicode/utf8.first", "unicode/utf8.acceptRanges", "unicode.CaseRanges", "math/bits.divideError", "math/bits.overflowError", "math/bits.deBruijn64tab", "internal/strconv.uint64pow10", "math/bits.deBruijn32tab", "internal/bytealg.MaxLen"], apart := false, laid := [("math/bits.deBruijn32tab", laid_math_bits_deBruijn32tab), ("math/bits.deBruijn64tab", laid_math_bits_deBruijn64tab), ("internal/strconv.uint64pow10", laid_internal_strconv_uint64pow10), ("unicode/utf8.acceptRanges", laid_unicode_utf8_acceptRanges), ("vernier/format.rows", laid_vernier_format_rows), ("unicode.CaseRanges", laid_unicode_CaseRanges), ("unicode/utf8.first", laid_unicode_utf8_first)] }
def WholeShortestSaid : Prop := wholeShortestRow.holds Tryz.pinned (OpenSpec.ofChange wholeShortestSpec)

/-- ITS FALSE NEIGHBOUR: 'it returns false'. Refute it at one input. -/
def wholeShortestWrong : ChangeSpec := { name := "wholeShortest", fn := fun _ => fun
  | [d1, d2] => { results := [.lit (.bool false)], args := [d1, d2] }
  | _ => none }
def WholeShortestWrongFalsely : Prop := wholeShortestRow.holds Tryz.pinned (OpenSpec.ofChange wholeShortestWrong)

/-- 'verniertop.WholeTexts': WHATEVER THE INPUT: true; the input reads as it did. -/
def wholeTextsSpec : ChangeSpec := { name := "wholeTexts", fn := fun _ => fun
  | [d1, d2, d3] => { results := [.lit (.bool true)], args := [d1, d2, d3] }
  | _ => none }
def wholeTextsRow : OpenClaim := { program := "ytafikkmnkeddpaagreatdoor", sum := "58fa7af00fe3d3148fa63564ea24212b8ae7a696b584c52e683814d50b81170a", func := "vernier/verniertop.WholeTexts", spec := "wholeTexts", inPlace := ["internal/abi.NoEscape", "internal/bytealg.MakeNoZero", "internal/bytealg.IndexByteString", "internal/bytealg.IndexString", "math/bits.Add64", "math/bits.Sub64"], unfollowed := true, recurses := true, named := ["vernier/format.rows", "unicode/utf8.first", "unicode/utf8.acceptRanges", "unicode.CaseRanges", "math/bits.divideError", "math/bits.overflowError", "math/bits.deBruijn64tab", "internal/strconv.uint64pow10", "math/bits.deBruijn32tab", "internal/bytealg.MaxLen"], apart := false, laid := [("math/bits.deBruijn32tab", laid_math_bits_deBruijn32tab), ("math/bits.deBruijn64tab", laid_math_bits_deBruijn64tab), ("internal/strconv.uint64pow10", laid_internal_strconv_uint64pow10), ("unicode/utf8.acceptRanges", laid_unicode_utf8_acceptRanges), ("vernier/format.rows", laid_vernier_format_rows), ("unicode.CaseRanges", laid_unicode_CaseRanges), ("unicode/utf8.first", laid_unicode_utf8_first)] }
def WholeTextsSaid : Prop := wholeTextsRow.holds Tryz.pinned (OpenSpec.ofChange wholeTextsSpec)

/-- ITS FALSE NEIGHBOUR: 'it returns false'. Refute it at one input. -/
def wholeTextsWrong : ChangeSpec := { name := "wholeTexts", fn := fun _ => fun
  | [d1, d2, d3] => { results := [.lit (.bool false)], args := [d1, d2, d3] }
  | _ => none }
def WholeTextsWrongFalsely : Prop := wholeTextsRow.holds Tryz.pinned (OpenSpec.ofChange wholeTextsWrong)

/- THE SECOND FORM. 'bulk': how many values and letters a reading holds, each counted each time it is reached (what is shared counts as often as it is met; a slice's spare places count too). A statement '..UptoSaid' is the law's where the arguments, and the package variables that the reading takes, are together of bulk at most 1048576: NARROWER than '..Said'. Prove '..Said' where nothing that the law and all that it calls make is longer than what came in: it says more and counts as full. Else prove '..UptoSaid'. A law counts once. -/
mutual
def uptoBulk {H : Type} : DataW H → Nat
  | .lit (.string bytes) => bytes.length + 1
  | .lit _ => 1
  | .nil => 1
  | .ptr d => uptoBulk d + 1
  | .slice elems spare => uptoBulkAll elems + uptoBulkAll spare + 1
  | .agg parts => uptoBulkAll parts + 1
  | .iface _ d => uptoBulk d + 1
  | .map entries => uptoBulkEntries entries + 1
  | .held _ => 1
def uptoBulkAll {H : Type} : List (DataW H) → Nat
  | [] => 0
  | d :: r => uptoBulk d + uptoBulkAll r
def uptoBulkEntries {H : Type} : List (Lit × DataW H) → Nat
  | [] => 0
  | x :: r => uptoBulkEntry x + uptoBulkEntries r
def uptoBulkEntry {H : Type} : Lit × DataW H → Nat
  | (.string bytes, d) => bytes.length + uptoBulk d + 1
  | (_, d) => uptoBulk d + 1
 end
def uptoSmall : (H : Type) → List (DataW H) → Bool := fun _ ds => decide (uptoBulkAll ds ≤ 1048576)
def OpenSpec.upto (s : _root_.Go.ChangeSpec) : _root_.Go.OpenSpec := { _root_.Go.OpenSpec.ofChange s with cond := some uptoSmall }

/-- 'vernierlaw16.DeciParses', WHERE WHAT IT READS IS OF BULK AT MOST 1048576: true; the input reads as it did. -/
def deciParsesUptoRow : OpenClaim := { program := "ytafikkmnkeddpaagreatdoor", sum := "58fa7af00fe3d3148fa63564ea24212b8ae7a696b584c52e683814d50b81170a", func := "vernier/vernierlaw16.DeciParses", spec := "deciParses", inPlace := ["internal/abi.NoEscape", "internal/bytealg.MakeNoZero", "internal/bytealg.IndexByteString", "internal/bytealg.IndexString", "math/bits.Add64", "math/bits.Sub64"], unfollowed := true, recurses := true, named := ["vernier/format.rows", "unicode/utf8.first", "unicode/utf8.acceptRanges", "unicode.CaseRanges", "math/bits.divideError", "math/bits.overflowError", "math/bits.deBruijn64tab", "internal/strconv.uint64pow10", "math/bits.deBruijn32tab", "internal/bytealg.MaxLen"], apart := false, laid := [("math/bits.deBruijn32tab", laid_math_bits_deBruijn32tab), ("math/bits.deBruijn64tab", laid_math_bits_deBruijn64tab), ("internal/strconv.uint64pow10", laid_internal_strconv_uint64pow10), ("unicode/utf8.acceptRanges", laid_unicode_utf8_acceptRanges), ("vernier/format.rows", laid_vernier_format_rows), ("unicode.CaseRanges", laid_unicode_CaseRanges), ("unicode/utf8.first", laid_unicode_utf8_first)], narrowed := true }
def DeciParsesUptoSaid : Prop := deciParsesUptoRow.holds Tryz.pinned (OpenSpec.upto deciParsesSpec)

/-- 'vernierlaw16.DeciRises', WHERE WHAT IT READS IS OF BULK AT MOST 1048576: true; the input reads as it did. -/
def deciRisesUptoRow : OpenClaim := { program := "ytafikkmnkeddpaagreatdoor", sum := "58fa7af00fe3d3148fa63564ea24212b8ae7a696b584c52e683814d50b81170a", func := "vernier/vernierlaw16.DeciRises", spec := "deciRises", inPlace := ["internal/abi.NoEscape", "internal/bytealg.MakeNoZero", "internal/bytealg.IndexByteString", "internal/bytealg.IndexString", "math/bits.Add64", "math/bits.Sub64"], unfollowed := true, recurses := true, named := ["vernier/format.rows", "unicode/utf8.first", "unicode/utf8.acceptRanges", "unicode.CaseRanges", "math/bits.divideError", "math/bits.overflowError", "math/bits.deBruijn64tab", "internal/strconv.uint64pow10", "math/bits.deBruijn32tab", "internal/bytealg.MaxLen"], apart := false, laid := [("math/bits.deBruijn32tab", laid_math_bits_deBruijn32tab), ("math/bits.deBruijn64tab", laid_math_bits_deBruijn64tab), ("internal/strconv.uint64pow10", laid_internal_strconv_uint64pow10), ("unicode/utf8.acceptRanges", laid_unicode_utf8_acceptRanges), ("vernier/format.rows", laid_vernier_format_rows), ("unicode.CaseRanges", laid_unicode_CaseRanges), ("unicode/utf8.first", laid_unicode_utf8_first)], narrowed := true }
def DeciRisesUptoSaid : Prop := deciRisesUptoRow.holds Tryz.pinned (OpenSpec.upto deciRisesSpec)

/-- 'vernierlaw16.DeciAlike', WHERE WHAT IT READS IS OF BULK AT MOST 1048576: true; the input reads as it did. -/
def deciAlikeUptoRow : OpenClaim := { program := "ytafikkmnkeddpaagreatdoor", sum := "58fa7af00fe3d3148fa63564ea24212b8ae7a696b584c52e683814d50b81170a", func := "vernier/vernierlaw16.DeciAlike", spec := "deciAlike", inPlace := ["internal/abi.NoEscape", "internal/bytealg.MakeNoZero", "internal/bytealg.IndexByteString", "internal/bytealg.IndexString", "math/bits.Add64", "math/bits.Sub64"], unfollowed := true, recurses := true, named := ["vernier/format.rows", "unicode/utf8.first", "unicode/utf8.acceptRanges", "unicode.CaseRanges", "math/bits.divideError", "math/bits.overflowError", "math/bits.deBruijn64tab", "internal/strconv.uint64pow10", "math/bits.deBruijn32tab", "internal/bytealg.MaxLen"], apart := false, laid := [("math/bits.deBruijn32tab", laid_math_bits_deBruijn32tab), ("math/bits.deBruijn64tab", laid_math_bits_deBruijn64tab), ("internal/strconv.uint64pow10", laid_internal_strconv_uint64pow10), ("unicode/utf8.acceptRanges", laid_unicode_utf8_acceptRanges), ("vernier/format.rows", laid_vernier_format_rows), ("unicode.CaseRanges", laid_unicode_CaseRanges), ("unicode/utf8.first", laid_unicode_utf8_first)], narrowed := true }
def DeciAlikeUptoSaid : Prop := deciAlikeUptoRow.holds Tryz.pinned (OpenSpec.upto deciAlikeSpec)

/-- 'vernierlaw16.DeciShortest', WHERE WHAT IT READS IS OF BULK AT MOST 1048576: true; the input reads as it did. -/
def deciShortestUptoRow : OpenClaim := { program := "ytafikkmnkeddpaagreatdoor", sum := "58fa7af00fe3d3148fa63564ea24212b8ae7a696b584c52e683814d50b81170a", func := "vernier/vernierlaw16.DeciShortest", spec := "deciShortest", inPlace := ["math/bits.Add64", "math/bits.Sub64", "internal/bytealg.IndexByteString", "internal/bytealg.IndexString", "internal/abi.NoEscape", "internal/bytealg.MakeNoZero"], unfollowed := true, recurses := true, named := ["vernier/format.rows", "math/bits.divideError", "math/bits.overflowError", "unicode/utf8.first", "unicode/utf8.acceptRanges", "internal/strconv.uint64pow10", "math/bits.deBruijn32tab", "math/bits.deBruijn64tab", "unicode.CaseRanges", "internal/bytealg.MaxLen"], apart := false, laid := [("math/bits.deBruijn32tab", laid_math_bits_deBruijn32tab), ("math/bits.deBruijn64tab", laid_math_bits_deBruijn64tab), ("internal/strconv.uint64pow10", laid_internal_strconv_uint64pow10), ("unicode/utf8.acceptRanges", laid_unicode_utf8_acceptRanges), ("vernier/format.rows", laid_vernier_format_rows), ("unicode.CaseRanges", laid_unicode_CaseRanges), ("unicode/utf8.first", laid_unicode_utf8_first)], narrowed := true }
def DeciShortestUptoSaid : Prop := deciShortestUptoRow.holds Tryz.pinned (OpenSpec.upto deciShortestSpec)

/-- 'vernierlaw16.DeciIntegers', WHERE WHAT IT READS IS OF BULK AT MOST 1048576: true; the input reads as it did. -/
def deciIntegersUptoRow : OpenClaim := { program := "ytafikkmnkeddpaagreatdoor", sum := "58fa7af00fe3d3148fa63564ea24212b8ae7a696b584c52e683814d50b81170a", func := "vernier/vernierlaw16.DeciIntegers", spec := "deciIntegers", inPlace := ["internal/abi.NoEscape", "internal/bytealg.MakeNoZero", "internal/bytealg.IndexByteString", "internal/bytealg.IndexString", "math/bits.Add64", "math/bits.Sub64", "math.Float64bits"], unfollowed := true, recurses := true, named := ["vernier/format.rows", "unicode/utf8.first", "unicode/utf8.acceptRanges", "unicode.CaseRanges", "math/bits.divideError", "math/bits.overflowError", "math/bits.deBruijn64tab", "internal/strconv.uint64pow10", "math/bits.deBruijn32tab", "vernier/whole.kinds", "internal/bytealg.MaxLen"], apart := false, laid := [("math/bits.deBruijn32tab", laid_math_bits_deBruijn32tab), ("math/bits.deBruijn64tab", laid_math_bits_deBruijn64tab), ("internal/strconv.uint64pow10", laid_internal_strconv_uint64pow10), ("unicode/utf8.acceptRanges", laid_unicode_utf8_acceptRanges), ("vernier/format.rows", laid_vernier_format_rows), ("vernier/whole.kinds", laid_vernier_whole_kinds), ("unicode.CaseRanges", laid_unicode_CaseRanges), ("unicode/utf8.first", laid_unicode_utf8_first)], narrowed := true }
def DeciIntegersUptoSaid : Prop := deciIntegersUptoRow.holds Tryz.pinned (OpenSpec.upto deciIntegersSpec)

/-- 'vernierlaw16.DeciDigits', WHERE WHAT IT READS IS OF BULK AT MOST 1048576: true; the input reads as it did. -/
def deciDigitsUptoRow : OpenClaim := { program := "ytafikkmnkeddpaagreatdoor", sum := "58fa7af00fe3d3148fa63564ea24212b8ae7a696b584c52e683814d50b81170a", func := "vernier/vernierlaw16.DeciDigits", spec := "deciDigits", inPlace := ["internal/abi.NoEscape", "internal/bytealg.MakeNoZero", "math/bits.Add64", "math/bits.Sub64", "internal/bytealg.IndexByteString", "internal/bytealg.IndexString"], unfollowed := true, recurses := true, named := ["vernier/format.rows", "internal/strconv.uint64pow10", "math/bits.deBruijn32tab", "math/bits.deBruijn64tab", "math/bits.divideError", "math/bits.overflowError", "unicode/utf8.first", "unicode/utf8.acceptRanges", "unicode.CaseRanges", "internal/bytealg.MaxLen"], apart := false, laid := [("math/bits.deBruijn32tab", laid_math_bits_deBruijn32tab), ("math/bits.deBruijn64tab", laid_math_bits_deBruijn64tab), ("internal/strconv.uint64pow10", laid_internal_strconv_uint64pow10), ("unicode/utf8.acceptRanges", laid_unicode_utf8_acceptRanges), ("vernier/format.rows", laid_vernier_format_rows), ("unicode.CaseRanges", laid_unicode_CaseRanges), ("unicode/utf8.first", laid_unicode_utf8_first)], narrowed := true }
def DeciDigitsUptoSaid : Prop := deciDigitsUptoRow.holds Tryz.pinned (OpenSpec.upto deciDigitsSpec)

/-- 'vernierlaw16.DeciLeast', WHERE WHAT IT READS IS OF BULK AT MOST 1048576: true; the input reads as it did. -/
def deciLeastUptoRow : OpenClaim := { program := "ytafikkmnkeddpaagreatdoor", sum := "58fa7af00fe3d3148fa63564ea24212b8ae7a696b584c52e683814d50b81170a", func := "vernier/vernierlaw16.DeciLeast", spec := "deciLeast", inPlace := ["internal/abi.NoEscape", "internal/bytealg.MakeNoZero", "internal/bytealg.IndexByteString", "internal/bytealg.IndexString", "math/bits.Add64", "math/bits.Sub64"], unfollowed := true, recurses := true, named := ["vernier/format.rows", "unicode/utf8.first", "unicode/utf8.acceptRanges", "unicode.CaseRanges", "math/bits.divideError", "math/bits.overflowError", "math/bits.deBruijn64tab", "internal/strconv.uint64pow10", "math/bits.deBruijn32tab", "internal/bytealg.MaxLen"], apart := false, laid := [("math/bits.deBruijn32tab", laid_math_bits_deBruijn32tab), ("math/bits.deBruijn64tab", laid_math_bits_deBruijn64tab), ("internal/strconv.uint64pow10", laid_internal_strconv_uint64pow10), ("unicode/utf8.acceptRanges", laid_unicode_utf8_acceptRanges), ("vernier/format.rows", laid_vernier_format_rows), ("unicode.CaseRanges", laid_unicode_CaseRanges), ("unicode/utf8.first", laid_unicode_utf8_first)], narrowed := true }
def DeciLeastUptoSaid : Prop := deciLeastUptoRow.holds Tryz.pinned (OpenSpec.upto deciLeastSpec)

/-- 'verniertop.WholeReads', WHERE WHAT IT READS IS OF BULK AT MOST 1048576: true; the input reads as it did. -/
def wholeReadsUptoRow : OpenClaim := { program := "ytafikkmnkeddpaagreatdoor", sum := "58fa7af00fe3d3148fa63564ea24212b8ae7a696b584c52e683814d50b81170a", func := "vernier/verniertop.WholeReads", spec := "wholeReads", inPlace := ["internal/abi.NoEscape", "internal/bytealg.MakeNoZero", "internal/bytealg.IndexByteString", "internal/bytealg.IndexString", "math/bits.Add64", "math/bits.Sub64"], unfollowed := true, recurses := true, named := ["vernier/format.rows", "unicode/utf8.first", "unicode/utf8.acceptRanges", "unicode.CaseRanges", "math/bits.divideError", "math/bits.overflowError", "math/bits.deBruijn64tab", "internal/strconv.uint64pow10", "math/bits.deBruijn32tab", "internal/bytealg.MaxLen"], apart := false, laid := [("math/bits.deBruijn32tab", laid_math_bits_deBruijn32tab), ("math/bits.deBruijn64tab", laid_math_bits_deBruijn64tab), ("internal/strconv.uint64pow10", laid_internal_strconv_uint64pow10), ("unicode/utf8.acceptRanges", laid_unicode_utf8_acceptRanges), ("vernier/format.rows", laid_vernier_format_rows), ("unicode.CaseRanges", laid_unicode_CaseRanges), ("unicode/utf8.first", laid_unicode_utf8_first)], narrowed := true }
def WholeReadsUptoSaid : Prop := wholeReadsUptoRow.holds Tryz.pinned (OpenSpec.upto wholeReadsSpec)

/-- 'vernierlaw16.DeciBack', WHERE WHAT IT READS IS OF BULK AT MOST 1048576: true; the input reads as it did. -/
def deciBackUptoRow : OpenClaim := { program := "ytafikkmnkeddpaagreatdoor", sum := "58fa7af00fe3d3148fa63564ea24212b8ae7a696b584c52e683814d50b81170a", func := "vernier/vernierlaw16.DeciBack", spec := "deciBack", inPlace := ["internal/abi.NoEscape", "internal/bytealg.MakeNoZero", "internal/bytealg.IndexByteString", "internal/bytealg.IndexString", "math/bits.Add64", "math/bits.Sub64"], unfollowed := true, recurses := true, named := ["vernier/format.rows", "unicode/utf8.first", "unicode/utf8.acceptRanges", "unicode.CaseRanges", "math/bits.divideError", "math/bits.overflowError", "math/bits.deBruijn64tab", "internal/strconv.uint64pow10", "math/bits.deBruijn32tab", "internal/bytealg.MaxLen"], apart := false, laid := [("math/bits.deBruijn32tab", laid_math_bits_deBruijn32tab), ("math/bits.deBruijn64tab", laid_math_bits_deBruijn64tab), ("internal/strconv.uint64pow10", laid_internal_strconv_uint64pow10), ("unicode/utf8.acceptRanges", laid_unicode_utf8_acceptRanges), ("vernier/format.rows", laid_vernier_format_rows), ("unicode.CaseRanges", laid_unicode_CaseRanges), ("unicode/utf8.first", laid_unicode_utf8_first)], narrowed := true }
def DeciBackUptoSaid : Prop := deciBackUptoRow.holds Tryz.pinned (OpenSpec.upto deciBackSpec)

/-- 'verniertop.WholeShortest', WHERE WHAT IT READS IS OF BULK AT MOST 1048576: true; the input reads as it did. -/
def wholeShortestUptoRow : OpenClaim := { program := "ytafikkmnkeddpaagreatdoor", sum := "58fa7af00fe3d3148fa63564ea24212b8ae7a696b584c52e683814d50b81170a", func := "vernier/verniertop.WholeShortest", spec := "wholeShortest", inPlace := ["internal/abi.NoEscape", "internal/bytealg.MakeNoZero", "internal/bytealg.IndexByteString", "internal/bytealg.IndexString", "math/bits.Add64", "math/bits.Sub64"], unfollowed := true, recurses := true, named := ["vernier/format.rows", "unicode/utf8.first", "unicode/utf8.acceptRanges", "unicode.CaseRanges", "math/bits.divideError", "math/bits.overflowError", "math/bits.deBruijn64tab", "internal/strconv.uint64pow10", "math/bits.deBruijn32tab", "internal/bytealg.MaxLen"], apart := false, laid := [("math/bits.deBruijn32tab", laid_math_bits_deBruijn32tab), ("math/bits.deBruijn64tab", laid_math_bits_deBruijn64tab), ("internal/strconv.uint64pow10", laid_internal_strconv_uint64pow10), ("unicode/utf8.acceptRanges", laid_unicode_utf8_acceptRanges), ("vernier/format.rows", laid_vernier_format_rows), ("unicode.CaseRanges", laid_unicode_CaseRanges), ("unicode/utf8.first", laid_unicode_utf8_first)], narrowed := true }
def WholeShortestUptoSaid : Prop := wholeShortestUptoRow.holds Tryz.pinned (OpenSpec.upto wholeShortestSpec)

/-- 'verniertop.WholeTexts', WHERE WHAT IT READS IS OF BULK AT MOST 1048576: true; the input reads as it did. -/
def wholeTextsUptoRow : OpenClaim := { program := "ytafikkmnkeddpaagreatdoor", sum := "58fa7af00fe3d3148fa63564ea24212b8ae7a696b584c52e683814d50b81170a", func := "vernier/verniertop.WholeTexts", spec := "wholeTexts", inPlace := ["internal/abi.NoEscape", "internal/bytealg.MakeNoZero", "internal/bytealg.IndexByteString", "internal/bytealg.IndexString", "math/bits.Add64", "math/bits.Sub64"], unfollowed := true, recurses := true, named := ["vernier/format.rows", "unicode/utf8.first", "unicode/utf8.acceptRanges", "unicode.CaseRanges", "math/bits.divideError", "math/bits.overflowError", "math/bits.deBruijn64tab", "internal/strconv.uint64pow10", "math/bits.deBruijn32tab", "internal/bytealg.MaxLen"], apart := false, laid := [("math/bits.deBruijn32tab", laid_math_bits_deBruijn32tab), ("math/bits.deBruijn64tab", laid_math_bits_deBruijn64tab), ("internal/strconv.uint64pow10", laid_internal_strconv_uint64pow10), ("unicode/utf8.acceptRanges", laid_unicode_utf8_acceptRanges), ("vernier/format.rows", laid_vernier_format_rows), ("unicode.CaseRanges", laid_unicode_CaseRanges), ("unicode/utf8.first", laid_unicode_utf8_first)], narrowed := true }
def WholeTextsUptoSaid : Prop := wholeTextsUptoRow.holds Tryz.pinned (OpenSpec.upto wholeTextsSpec)

end Rows
end Go.Proofs.YtafikkmnkeddpaaGreatDoor
