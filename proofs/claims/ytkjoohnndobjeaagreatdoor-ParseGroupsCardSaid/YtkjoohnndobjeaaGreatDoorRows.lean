/-
  NARROWER THAN 'FOR EVERY INPUT', by the rows' own cells (each row's printed sentence says how): ParseNumbers: laid · ParseGroups: laid · FormatParses: loops, laid · FormatNeeds: loops, laid · ParsePlaces: laid · ParseParts: laid · ParseBlanks: laid · FormatReads: loops, laid · FormatBack: laid.
  DERIVED. THE GIVEN ROWS OF THIS SEAT. 9 by the template 'for every input the law returns true; each argument reads behind the call as it read before'; 0 by the template 'total and deterministic' (their statements: YtkjoohnndobjeaaGreatDoorTotals.lean).
  GIVEN WITH THE SEED: the statements are not yours to turn. If you find one false, say at which input.
  Laid BY PROGRAM, IN A SANDBOX (cutbox-rows.mjs): the forced cells as the released guide's own fill.sh prints them over the translation aa254e062c7dc2d0… (all of the seat's roots in one cut). By AI agents, Wed Nov 11 2026. No macro, syntax, notation, axiom, sorry.
-/
import Derived.Test.YtkjoohnndobjeaaGreatDoorChecked
import GoSem.PinnedTables
import GoSem.Claim
import GoSem.ClaimJoined
import GoSem.ClaimMapViews
import Derived.JoinedTies
import Derived.KernelRfl
namespace Go.Proofs.YtkjoohnndobjeaaGreatDoor
/- THE CELL 'sum', in the pinned program and in every row, IS THE sha256 OF THE DUMP (.gsa) THAT YtkjoohnndobjeaaGreatDoorProg.lean LOADS. Nothing in Lean hashes anything: it is a label: what it is worth is what the hold of that sum in a sandbox is worth. -/
noncomputable def Tryz.pinned : Pinned := { name := "ytkjoohnndobjeaagreatdoor", sum := "aa254e062c7dc2d03c96aff7821137ae5d3561cda26e39561e3704ebc2b451af", checked := Tryz.checked }
namespace Rows
def none {H : Type} : Left H := { results := [], args := [] }

/- WHAT THE LISTED PACKAGE-LEVEL VARIABLES READ AS WHEN THE CALL BEGINS. Each datum BY PROGRAM (the guide's laid-datum.mjs) off the statement by which the dump's own 'gosem.cut.vars' lays the variable. In a bare row this is a premise. The card (YtkjoohnndobjeaaGreatDoorCards.lean) ties it to the program's text. -/
def laid_math_bits_deBruijn32tab {H : Type} : DataW H := .agg [.lit (.int .u8 0), .lit (.int .u8 1), .lit (.int .u8 28), .lit (.int .u8 2), .lit (.int .u8 29), .lit (.int .u8 14), .lit (.int .u8 24), .lit (.int .u8 3), .lit (.int .u8 30), .lit (.int .u8 22), .lit (.int .u8 20), .lit (.int .u8 15), .lit (.int .u8 25), .lit (.int .u8 17), .lit (.int .u8 4), .lit (.int .u8 8), .lit (.int .u8 31), .lit (.int .u8 27), .lit (.int .u8 13), .lit (.int .u8 23), .lit (.int .u8 21), .lit (.int .u8 19), .lit (.int .u8 16), .lit (.int .u8 7), .lit (.int .u8 26), .lit (.int .u8 12), .lit (.int .u8 18), .lit (.int .u8 6), .lit (.int .u8 11), .lit (.int .u8 5), .lit (.int .u8 10), .lit (.int .u8 9)]
def laid_math_bits_deBruijn64tab {H : Type} : DataW H := .agg [.lit (.int .u8 0), .lit (.int .u8 1), .lit (.int .u8 56), .lit (.int .u8 2), .lit (.int .u8 57), .lit (.int .u8 49), .lit (.int .u8 28), .lit (.int .u8 3), .lit (.int .u8 61), .lit (.int .u8 58), .lit (.int .u8 42), .lit (.int .u8 50), .lit (.int .u8 38), .lit (.int .u8 29), .lit (.int .u8 17), .lit (.int .u8 4), .lit (.int .u8 62), .lit (.int .u8 47), .lit (.int .u8 59), .lit (.int .u8 36), .lit (.int .u8 45), .lit (.int .u8 43), .lit (.int .u8 51), .lit (.int .u8 22), .lit (.int .u8 53), .lit (.int .u8 39), .lit (.int .u8 33), .lit (.int .u8 30), .lit (.int .u8 24), .lit (.int .u8 18), .lit (.int .u8 12), .lit (.int .u8 5), .lit (.int .u8 63), .lit (.int .u8 55), .lit (.int .u8 48), .lit (.int .u8 27), .lit (.int .u8 60), .lit (.int .u8 41), .lit (.int .u8 37), .lit (.int .u8 16), .lit (.int .u8 46), .lit (.int .u8 35), .lit (.int .u8 44), .lit (.int .u8 21), .lit (.int .u8 52), .lit (.int .u8 32), .lit (.int .u8 23), .lit (.int .u8 11), .lit (.int .u8 54), .lit (.int .u8 26), .lit (.int .u8 40), .lit (.int .u8 15), .lit (.int .u8 34), .lit (.int .u8 20), .lit (.int .u8 31), .lit (.int .u8 10), .lit (.int .u8 25), .lit (.int .u8 14), .lit (.int .u8 19), .lit (.int .u8 9), .lit (.int .u8 13), .lit (.int .u8 8), .lit (.int .u8 7), .lit (.int .u8 6)]
def laid_internal_strconv_uint64pow10 {H : Type} : DataW H := .agg [.lit (.int .u64 1), .lit (.int .u64 10), .lit (.int .u64 100), .lit (.int .u64 1000), .lit (.int .u64 10000), .lit (.int .u64 100000), .lit (.int .u64 1000000), .lit (.int .u64 10000000), .lit (.int .u64 100000000), .lit (.int .u64 1000000000), .lit (.int .u64 10000000000), .lit (.int .u64 100000000000), .lit (.int .u64 1000000000000), .lit (.int .u64 10000000000000), .lit (.int .u64 100000000000000), .lit (.int .u64 1000000000000000), .lit (.int .u64 10000000000000000), .lit (.int .u64 100000000000000000), .lit (.int .u64 1000000000000000000), .lit (.int .u64 10000000000000000000)]
def laid_unicode_utf8_acceptRanges {H : Type} : DataW H := .agg [.agg [.lit (.int .u8 128), .lit (.int .u8 191)], .agg [.lit (.int .u8 160), .lit (.int .u8 191)], .agg [.lit (.int .u8 128), .lit (.int .u8 159)], .agg [.lit (.int .u8 144), .lit (.int .u8 191)], .agg [.lit (.int .u8 128), .lit (.int .u8 143)], .agg [.lit (.int .u8 0), .lit (.int .u8 0)], .agg [.lit (.int .u8 0), .lit (.int .u8 0)], .agg [.lit (.int .u8 0), .lit (.int .u8 0)], .agg [.lit (.int .u8 0), .lit (.int .u8 0)], .agg [.lit (.int .u8 0), .lit (.int .u8 0)], .agg [.lit (.int .u8 0), .lit (.int .u8 0)], .agg [.lit (.int .u8 0), .lit (.int .u8 0)], .agg [.lit (.int .u8 0), .lit (.int .u8 0)], .agg [.lit (.int .u8 0), .lit (.int .u8 0)], .agg [.lit (.int .u8 0), .lit (.int .u8 0)], .agg [.lit (.int .u8 0), .lit (.int .u8 0)]]
def laid_strconv_ErrRange {H : Type} : DataW H := .iface "*errors.errorString" (.ptr (.agg [.lit (.string [118, 97, 108, 117, 101, 32, 111, 117, 116, 32, 111, 102, 32, 114, 97, 110, 103, 101])]))
def laid_strconv_ErrSyntax {H : Type} : DataW H := .iface "*errors.errorString" (.ptr (.agg [.lit (.string [105, 110, 118, 97, 108, 105, 100, 32, 115, 121, 110, 116, 97, 120])]))
def laid_flowpipe_parse_functions {H : Type} : DataW H := .map [(.string [99, 111, 115], .lit (.int .i64 12)), (.string [101, 120, 112], .lit (.int .i64 9)), (.string [108, 111, 103], .lit (.int .i64 10)), (.string [115, 105, 110], .lit (.int .i64 11)), (.string [115, 113, 114, 116], .lit (.int .i64 13))]
/-- One of Go's own tables, pinned by name: the form's constant. -/
def laid_unicode_utf8_first : DataW Unit := Go.Pinned.utf8First

/-- 'flowpipelaw14.ParseNumbers': WHATEVER THE INPUT: true; the input reads as it did. -/
def parseNumbersSpec : ChangeSpec := { name := "parseNumbers", fn := fun _ => fun
  | [d1, d2] => { results := [.lit (.bool true)], args := [d1, d2] }
  | _ => none }
def parseNumbersRow : OpenClaim := { program := "ytkjoohnndobjeaagreatdoor", sum := "aa254e062c7dc2d03c96aff7821137ae5d3561cda26e39561e3704ebc2b451af", func := "flowpipe/flowpipelaw14.ParseNumbers", spec := "parseNumbers", inPlace := ["internal/bytealg.IndexByteString", "internal/bytealg.IndexString"], unfollowed := true, recurses := true, named := ["internal/bytealg.MaxLen", "unicode/utf8.first", "unicode/utf8.acceptRanges", "strconv.ErrSyntax", "strconv.ErrRange", "internal/strconv.uint64pow10", "math/bits.deBruijn32tab", "math/bits.deBruijn64tab", "flowpipe/parse.functions"], apart := false, laid := [("math/bits.deBruijn32tab", laid_math_bits_deBruijn32tab), ("math/bits.deBruijn64tab", laid_math_bits_deBruijn64tab), ("internal/strconv.uint64pow10", laid_internal_strconv_uint64pow10), ("unicode/utf8.acceptRanges", laid_unicode_utf8_acceptRanges), ("strconv.ErrRange", laid_strconv_ErrRange), ("strconv.ErrSyntax", laid_strconv_ErrSyntax), ("flowpipe/parse.functions", laid_flowpipe_parse_functions), ("unicode/utf8.first", laid_unicode_utf8_first)] }
def ParseNumbersSaid : Prop := parseNumbersRow.holds Tryz.pinned (OpenSpec.ofChange parseNumbersSpec)

/-- ITS FALSE NEIGHBOUR: 'it returns false'. Refute it at one input. -/
def parseNumbersWrong : ChangeSpec := { name := "parseNumbers", fn := fun _ => fun
  | [d1, d2] => { results := [.lit (.bool false)], args := [d1, d2] }
  | _ => none }
def ParseNumbersWrongFalsely : Prop := parseNumbersRow.holds Tryz.pinned (OpenSpec.ofChange parseNumbersWrong)

/-- 'flowpipelaw14.ParseGroups': WHATEVER THE INPUT: true; the input reads as it did. -/
def parseGroupsSpec : ChangeSpec := { name := "parseGroups", fn := fun _ => fun
  | [d1, d2] => { results := [.lit (.bool true)], args := [d1, d2] }
  | _ => none }
def parseGroupsRow : OpenClaim := { program := "ytkjoohnndobjeaagreatdoor", sum := "aa254e062c7dc2d03c96aff7821137ae5d3561cda26e39561e3704ebc2b451af", func := "flowpipe/flowpipelaw14.ParseGroups", spec := "parseGroups", inPlace := ["internal/bytealg.IndexByteString", "internal/bytealg.IndexString"], unfollowed := true, recurses := true, named := ["internal/bytealg.MaxLen", "unicode/utf8.first", "unicode/utf8.acceptRanges", "strconv.ErrSyntax", "strconv.ErrRange", "internal/strconv.uint64pow10", "math/bits.deBruijn32tab", "math/bits.deBruijn64tab", "flowpipe/parse.functions"], apart := false, laid := [("math/bits.deBruijn32tab", laid_math_bits_deBruijn32tab), ("math/bits.deBruijn64tab", laid_math_bits_deBruijn64tab), ("internal/strconv.uint64pow10", laid_internal_strconv_uint64pow10), ("unicode/utf8.acceptRanges", laid_unicode_utf8_acceptRanges), ("strconv.ErrRange", laid_strconv_ErrRange), ("strconv.ErrSyntax", laid_strconv_ErrSyntax), ("flowpipe/parse.functions", laid_flowpipe_parse_functions), ("unicode/utf8.first", laid_unicode_utf8_first)] }
def ParseGroupsSaid : Prop := parseGroupsRow.holds Tryz.pinned (OpenSpec.ofChange parseGroupsSpec)

/-- ITS FALSE NEIGHBOUR: 'it returns false'. Refute it at one input. -/
def parseGroupsWrong : ChangeSpec := { name := "parseGroups", fn := fun _ => fun
  | [d1, d2] => { results := [.lit (.bool false)], args := [d1, d2] }
  | _ => none }
def ParseGroupsWrongFalsely : Prop := parseGroupsRow.holds Tryz.pinned (OpenSpec.ofChange parseGroupsWrong)

/-- 'flowpipelaw15.FormatParses': WHATEVER THE INPUT: true; the input reads as it did. -/
def formatParsesSpec : ChangeSpec := { name := "formatParses", fn := fun _ => fun
  | [d] => { results := [.lit (.bool true)], args := [d] }
  | _ => none }
def formatParsesRow : OpenClaim := { program := "ytkjoohnndobjeaagreatdoor", sum := "aa254e062c7dc2d03c96aff7821137ae5d3561cda26e39561e3704ebc2b451af", func := "flowpipe/flowpipelaw15.FormatParses", spec := "formatParses", inPlace := ["internal/bytealg.IndexByteString", "internal/bytealg.IndexString"], unfollowed := true, recurses := true, named := ["internal/strconv.uint64pow10", "math/bits.deBruijn32tab", "math/bits.deBruijn64tab", "internal/bytealg.MaxLen", "unicode/utf8.first", "unicode/utf8.acceptRanges", "strconv.ErrSyntax", "strconv.ErrRange", "flowpipe/parse.functions"], loops := true, apart := false, laid := [("math/bits.deBruijn32tab", laid_math_bits_deBruijn32tab), ("math/bits.deBruijn64tab", laid_math_bits_deBruijn64tab), ("internal/strconv.uint64pow10", laid_internal_strconv_uint64pow10), ("unicode/utf8.acceptRanges", laid_unicode_utf8_acceptRanges), ("strconv.ErrRange", laid_strconv_ErrRange), ("strconv.ErrSyntax", laid_strconv_ErrSyntax), ("flowpipe/parse.functions", laid_flowpipe_parse_functions), ("unicode/utf8.first", laid_unicode_utf8_first)] }
def FormatParsesSaid : Prop := formatParsesRow.holds Tryz.pinned (OpenSpec.ofChange formatParsesSpec)

/-- ITS FALSE NEIGHBOUR: 'it returns false'. Refute it at one input. -/
def formatParsesWrong : ChangeSpec := { name := "formatParses", fn := fun _ => fun
  | [d] => { results := [.lit (.bool false)], args := [d] }
  | _ => none }
def FormatParsesWrongFalsely : Prop := formatParsesRow.holds Tryz.pinned (OpenSpec.ofChange formatParsesWrong)

/-- 'flowpipelaw15.FormatNeeds': WHATEVER THE INPUT: true; the input reads as it did. -/
def formatNeedsSpec : ChangeSpec := { name := "formatNeeds", fn := fun _ => fun
  | [d] => { results := [.lit (.bool true)], args := [d] }
  | _ => none }
def formatNeedsRow : OpenClaim := { program := "ytkjoohnndobjeaagreatdoor", sum := "aa254e062c7dc2d03c96aff7821137ae5d3561cda26e39561e3704ebc2b451af", func := "flowpipe/flowpipelaw15.FormatNeeds", spec := "formatNeeds", inPlace := ["internal/bytealg.IndexByteString", "internal/bytealg.IndexString"], unfollowed := true, recurses := true, named := ["internal/strconv.uint64pow10", "math/bits.deBruijn32tab", "math/bits.deBruijn64tab", "internal/bytealg.MaxLen", "unicode/utf8.first", "unicode/utf8.acceptRanges", "strconv.ErrSyntax", "strconv.ErrRange", "flowpipe/parse.functions"], loops := true, apart := false, laid := [("math/bits.deBruijn32tab", laid_math_bits_deBruijn32tab), ("math/bits.deBruijn64tab", laid_math_bits_deBruijn64tab), ("internal/strconv.uint64pow10", laid_internal_strconv_uint64pow10), ("unicode/utf8.acceptRanges", laid_unicode_utf8_acceptRanges), ("strconv.ErrRange", laid_strconv_ErrRange), ("strconv.ErrSyntax", laid_strconv_ErrSyntax), ("flowpipe/parse.functions", laid_flowpipe_parse_functions), ("unicode/utf8.first", laid_unicode_utf8_first)] }
def FormatNeedsSaid : Prop := formatNeedsRow.holds Tryz.pinned (OpenSpec.ofChange formatNeedsSpec)

/-- ITS FALSE NEIGHBOUR: 'it returns false'. Refute it at one input. -/
def formatNeedsWrong : ChangeSpec := { name := "formatNeeds", fn := fun _ => fun
  | [d] => { results := [.lit (.bool false)], args := [d] }
  | _ => none }
def FormatNeedsWrongFalsely : Prop := formatNeedsRow.holds Tryz.pinned (OpenSpec.ofChange formatNeedsWrong)

/-- 'flowpipelaw14.ParsePlaces': WHATEVER THE INPUT: true; the input reads as it did. -/
def parsePlacesSpec : ChangeSpec := { name := "parsePlaces", fn := fun _ => fun
  | [d] => { results := [.lit (.bool true)], args := [d] }
  | _ => none }
def parsePlacesRow : OpenClaim := { program := "ytkjoohnndobjeaagreatdoor", sum := "aa254e062c7dc2d03c96aff7821137ae5d3561cda26e39561e3704ebc2b451af", func := "flowpipe/flowpipelaw14.ParsePlaces", spec := "parsePlaces", inPlace := ["internal/bytealg.IndexByteString", "internal/bytealg.IndexString", "internal/abi.NoEscape", "internal/bytealg.MakeNoZero"], unfollowed := true, recurses := true, named := ["internal/bytealg.MaxLen", "unicode/utf8.first", "unicode/utf8.acceptRanges", "strconv.ErrSyntax", "strconv.ErrRange", "internal/strconv.uint64pow10", "math/bits.deBruijn32tab", "math/bits.deBruijn64tab", "flowpipe/parse.functions"], apart := false, laid := [("math/bits.deBruijn32tab", laid_math_bits_deBruijn32tab), ("math/bits.deBruijn64tab", laid_math_bits_deBruijn64tab), ("internal/strconv.uint64pow10", laid_internal_strconv_uint64pow10), ("unicode/utf8.acceptRanges", laid_unicode_utf8_acceptRanges), ("strconv.ErrRange", laid_strconv_ErrRange), ("strconv.ErrSyntax", laid_strconv_ErrSyntax), ("flowpipe/parse.functions", laid_flowpipe_parse_functions), ("unicode/utf8.first", laid_unicode_utf8_first)] }
def ParsePlacesSaid : Prop := parsePlacesRow.holds Tryz.pinned (OpenSpec.ofChange parsePlacesSpec)

/-- ITS FALSE NEIGHBOUR: 'it returns false'. Refute it at one input. -/
def parsePlacesWrong : ChangeSpec := { name := "parsePlaces", fn := fun _ => fun
  | [d] => { results := [.lit (.bool false)], args := [d] }
  | _ => none }
def ParsePlacesWrongFalsely : Prop := parsePlacesRow.holds Tryz.pinned (OpenSpec.ofChange parsePlacesWrong)

/-- 'flowpipelaw14.ParseParts': WHATEVER THE INPUT: true; the input reads as it did. -/
def parsePartsSpec : ChangeSpec := { name := "parseParts", fn := fun _ => fun
  | [d1, d2, d3] => { results := [.lit (.bool true)], args := [d1, d2, d3] }
  | _ => none }
def parsePartsRow : OpenClaim := { program := "ytkjoohnndobjeaagreatdoor", sum := "aa254e062c7dc2d03c96aff7821137ae5d3561cda26e39561e3704ebc2b451af", func := "flowpipe/flowpipelaw14.ParseParts", spec := "parseParts", inPlace := ["internal/bytealg.IndexByteString", "internal/bytealg.IndexString"], unfollowed := true, recurses := true, named := ["internal/bytealg.MaxLen", "unicode/utf8.first", "unicode/utf8.acceptRanges", "strconv.ErrSyntax", "strconv.ErrRange", "internal/strconv.uint64pow10", "math/bits.deBruijn32tab", "math/bits.deBruijn64tab", "flowpipe/parse.functions"], apart := false, laid := [("math/bits.deBruijn32tab", laid_math_bits_deBruijn32tab), ("math/bits.deBruijn64tab", laid_math_bits_deBruijn64tab), ("internal/strconv.uint64pow10", laid_internal_strconv_uint64pow10), ("unicode/utf8.acceptRanges", laid_unicode_utf8_acceptRanges), ("strconv.ErrRange", laid_strconv_ErrRange), ("strconv.ErrSyntax", laid_strconv_ErrSyntax), ("flowpipe/parse.functions", laid_flowpipe_parse_functions), ("unicode/utf8.first", laid_unicode_utf8_first)] }
def ParsePartsSaid : Prop := parsePartsRow.holds Tryz.pinned (OpenSpec.ofChange parsePartsSpec)

/-- ITS FALSE NEIGHBOUR: 'it returns false'. Refute it at one input. -/
def parsePartsWrong : ChangeSpec := { name := "parseParts", fn := fun _ => fun
  | [d1, d2, d3] => { results := [.lit (.bool false)], args := [d1, d2, d3] }
  | _ => none }
def ParsePartsWrongFalsely : Prop := parsePartsRow.holds Tryz.pinned (OpenSpec.ofChange parsePartsWrong)

/-- 'flowpipelaw14.ParseBlanks': WHATEVER THE INPUT: true; the input reads as it did. -/
def parseBlanksSpec : ChangeSpec := { name := "parseBlanks", fn := fun _ => fun
  | [d1, d2] => { results := [.lit (.bool true)], args := [d1, d2] }
  | _ => none }
def parseBlanksRow : OpenClaim := { program := "ytkjoohnndobjeaagreatdoor", sum := "aa254e062c7dc2d03c96aff7821137ae5d3561cda26e39561e3704ebc2b451af", func := "flowpipe/flowpipelaw14.ParseBlanks", spec := "parseBlanks", inPlace := ["internal/bytealg.IndexByteString", "internal/bytealg.IndexString", "internal/abi.NoEscape", "internal/bytealg.MakeNoZero"], unfollowed := true, recurses := true, named := ["internal/bytealg.MaxLen", "unicode/utf8.first", "unicode/utf8.acceptRanges", "strconv.ErrSyntax", "strconv.ErrRange", "internal/strconv.uint64pow10", "math/bits.deBruijn32tab", "math/bits.deBruijn64tab", "flowpipe/parse.functions"], apart := false, laid := [("math/bits.deBruijn32tab", laid_math_bits_deBruijn32tab), ("math/bits.deBruijn64tab", laid_math_bits_deBruijn64tab), ("internal/strconv.uint64pow10", laid_internal_strconv_uint64pow10), ("unicode/utf8.acceptRanges", laid_unicode_utf8_acceptRanges), ("strconv.ErrRange", laid_strconv_ErrRange), ("strconv.ErrSyntax", laid_strconv_ErrSyntax), ("flowpipe/parse.functions", laid_flowpipe_parse_functions), ("unicode/utf8.first", laid_unicode_utf8_first)] }
def ParseBlanksSaid : Prop := parseBlanksRow.holds Tryz.pinned (OpenSpec.ofChange parseBlanksSpec)

/-- ITS FALSE NEIGHBOUR: 'it returns false'. Refute it at one input. -/
def parseBlanksWrong : ChangeSpec := { name := "parseBlanks", fn := fun _ => fun
  | [d1, d2] => { results := [.lit (.bool false)], args := [d1, d2] }
  | _ => none }
def ParseBlanksWrongFalsely : Prop := parseBlanksRow.holds Tryz.pinned (OpenSpec.ofChange parseBlanksWrong)

/-- 'flowpipelaw15.FormatReads': WHATEVER THE INPUT: true; the input reads as it did. -/
def formatReadsSpec : ChangeSpec := { name := "formatReads", fn := fun _ => fun
  | [d1, d2] => { results := [.lit (.bool true)], args := [d1, d2] }
  | _ => none }
def formatReadsRow : OpenClaim := { program := "ytkjoohnndobjeaagreatdoor", sum := "aa254e062c7dc2d03c96aff7821137ae5d3561cda26e39561e3704ebc2b451af", func := "flowpipe/flowpipelaw15.FormatReads", spec := "formatReads", inPlace := ["internal/bytealg.IndexByteString", "internal/bytealg.IndexString", "internal/abi.NoEscape"], unfollowed := true, recurses := true, named := ["internal/strconv.uint64pow10", "math/bits.deBruijn32tab", "math/bits.deBruijn64tab", "internal/bytealg.MaxLen", "unicode/utf8.first", "unicode/utf8.acceptRanges", "strconv.ErrSyntax", "strconv.ErrRange", "flowpipe/parse.functions"], loops := true, apart := false, laid := [("math/bits.deBruijn32tab", laid_math_bits_deBruijn32tab), ("math/bits.deBruijn64tab", laid_math_bits_deBruijn64tab), ("internal/strconv.uint64pow10", laid_internal_strconv_uint64pow10), ("unicode/utf8.acceptRanges", laid_unicode_utf8_acceptRanges), ("strconv.ErrRange", laid_strconv_ErrRange), ("strconv.ErrSyntax", laid_strconv_ErrSyntax), ("flowpipe/parse.functions", laid_flowpipe_parse_functions), ("unicode/utf8.first", laid_unicode_utf8_first)] }
def FormatReadsSaid : Prop := formatReadsRow.holds Tryz.pinned (OpenSpec.ofChange formatReadsSpec)

/-- ITS FALSE NEIGHBOUR: 'it returns false'. Refute it at one input. -/
def formatReadsWrong : ChangeSpec := { name := "formatReads", fn := fun _ => fun
  | [d1, d2] => { results := [.lit (.bool false)], args := [d1, d2] }
  | _ => none }
def FormatReadsWrongFalsely : Prop := formatReadsRow.holds Tryz.pinned (OpenSpec.ofChange formatReadsWrong)

/-- 'flowpipelaw15.FormatBack': WHATEVER THE INPUT: true; the input reads as it did. -/
def formatBackSpec : ChangeSpec := { name := "formatBack", fn := fun _ => fun
  | [d] => { results := [.lit (.bool true)], args := [d] }
  | _ => none }
def formatBackRow : OpenClaim := { program := "ytkjoohnndobjeaagreatdoor", sum := "aa254e062c7dc2d03c96aff7821137ae5d3561cda26e39561e3704ebc2b451af", func := "flowpipe/flowpipelaw15.FormatBack", spec := "formatBack", inPlace := ["internal/bytealg.IndexByteString", "internal/bytealg.IndexString", "internal/abi.NoEscape"], unfollowed := true, recurses := true, named := ["internal/strconv.uint64pow10", "math/bits.deBruijn32tab", "math/bits.deBruijn64tab", "internal/bytealg.MaxLen", "unicode/utf8.first", "unicode/utf8.acceptRanges", "strconv.ErrSyntax", "strconv.ErrRange", "flowpipe/parse.functions"], apart := false, laid := [("math/bits.deBruijn32tab", laid_math_bits_deBruijn32tab), ("math/bits.deBruijn64tab", laid_math_bits_deBruijn64tab), ("internal/strconv.uint64pow10", laid_internal_strconv_uint64pow10), ("unicode/utf8.acceptRanges", laid_unicode_utf8_acceptRanges), ("strconv.ErrRange", laid_strconv_ErrRange), ("strconv.ErrSyntax", laid_strconv_ErrSyntax), ("flowpipe/parse.functions", laid_flowpipe_parse_functions), ("unicode/utf8.first", laid_unicode_utf8_first)] }
def FormatBackSaid : Prop := formatBackRow.holds Tryz.pinned (OpenSpec.ofChange formatBackSpec)

/-- ITS FALSE NEIGHBOUR: 'it returns false'. Refute it at one input. -/
def formatBackWrong : ChangeSpec := { name := "formatBack", fn := fun _ => fun
  | [d] => { results := [.lit (.bool false)], args := [d] }
  | _ => none }
def FormatBackWrongFalsely : Prop := formatBackRow.holds Tryz.pinned (OpenSpec.ofChange formatBackWrong)

/- THE SECOND FORM. 'bulk': how many values and letters a reading holds, each counted each time it is reached (what is shared counts as often as it is met; a slice's spare places count too). A statement '..UptoSaid' is the law's where the arguments, and the package variables that the reading takes, are together of bulk at most 1048576: NARROWER than '..Said'. Prove '..Said' where nothing that the law and all that it calls make is longer than what came in: it says more and counts as full. Else prove '..UptoSaid'. A law counts once. -/
mutual
def uptoBulk {H : Type} : DataW H → Nat
  | .lit (.string bytes) => bytes.length + 1
  | .lit _ => 1
  | .nil => 1
  | .ptr d => uptoBulk d + 1
  | .slice elems spare => uptoBulkAll elems + uptoBulkAll spare + 1
  | .agg parts => uptoBulkAll parts + 1
  | .iface _ d => uptoBulk d + 1
  | .map entries => uptoBulkEntries entries + 1
  | .held _ => 1
def uptoBulkAll {H : Type} : List (DataW H) → Nat
  | [] => 0
  | d :: r => uptoBulk d + uptoBulkAll r
def uptoBulkEntries {H : Type} : List (Lit × DataW H) → Nat
  | [] => 0
  | x :: r => uptoBulkEntry x + uptoBulkEntries r
def uptoBulkEntry {H : Type} : Lit × DataW H → Nat
  | (.string bytes, d) => bytes.length + uptoBulk d + 1
  | (_, d) => uptoBulk d + 1
 end
def uptoSmall : (H : Type) → List (DataW H) → Bool := fun _ ds => decide (uptoBulkAll ds ≤ 1048576)
def OpenSpec.upto (s : _root_.Go.ChangeSpec) : _root_.Go.OpenSpec := { _root_.Go.OpenSpec.ofChange s with cond := some uptoSmall }

/-- 'flowpipelaw14.ParseNumbers', WHERE WHAT IT READS IS OF BULK AT MOST 1048576: true; the input reads as it did. -/
def parseNumbersUptoRow : OpenClaim := { program := "ytkjoohnndobjeaagreatdoor", sum := "aa254e062c7dc2d03c96aff7821137ae5d3561cda26e39561e3704ebc2b451af", func := "flowpipe/flowpipelaw14.ParseNumbers", spec := "parseNumbers", inPlace := ["internal/bytealg.IndexByteString", "internal/bytealg.IndexString"], unfollowed := true, recurses := true, named := ["internal/bytealg.MaxLen", "unicode/utf8.first", "unicode/utf8.acceptRanges", "strconv.ErrSyntax", "strconv.ErrRange", "internal/strconv.uint64pow10", "math/bits.deBruijn32tab", "math/bits.deBruijn64tab", "flowpipe/parse.functions"], apart := false, laid := [("math/bits.deBruijn32tab", laid_math_bits_deBruijn32tab), ("math/bits.deBruijn64tab", laid_math_bits_deBruijn64tab), ("internal/strconv.uint64pow10", laid_internal_strconv_uint64pow10), ("unicode/utf8.acceptRanges", laid_unicode_utf8_acceptRanges), ("strconv.ErrRange", laid_strconv_ErrRange), ("strconv.ErrSyntax", laid_strconv_ErrSyntax), ("flowpipe/parse.functions", laid_flowpipe_parse_functions), ("unicode/utf8.first", laid_unicode_utf8_first)], narrowed := true }
def ParseNumbersUptoSaid : Prop := parseNumbersUptoRow.holds Tryz.pinned (OpenSpec.upto parseNumbersSpec)

/-- 'flowpipelaw14.ParseGroups', WHERE WHAT IT READS IS OF BULK AT MOST 1048576: true; the input reads as it did. -/
def parseGroupsUptoRow : OpenClaim := { program := "ytkjoohnndobjeaagreatdoor", sum := "aa254e062c7dc2d03c96aff7821137ae5d3561cda26e39561e3704ebc2b451af", func := "flowpipe/flowpipelaw14.ParseGroups", spec := "parseGroups", inPlace := ["internal/bytealg.IndexByteString", "internal/bytealg.IndexString"], unfollowed := true, recurses := true, named := ["internal/bytealg.MaxLen", "unicode/utf8.first", "unicode/utf8.acceptRanges", "strconv.ErrSyntax", "strconv.ErrRange", "internal/strconv.uint64pow10", "math/bits.deBruijn32tab", "math/bits.deBruijn64tab", "flowpipe/parse.functions"], apart := false, laid := [("math/bits.deBruijn32tab", laid_math_bits_deBruijn32tab), ("math/bits.deBruijn64tab", laid_math_bits_deBruijn64tab), ("internal/strconv.uint64pow10", laid_internal_strconv_uint64pow10), ("unicode/utf8.acceptRanges", laid_unicode_utf8_acceptRanges), ("strconv.ErrRange", laid_strconv_ErrRange), ("strconv.ErrSyntax", laid_strconv_ErrSyntax), ("flowpipe/parse.functions", laid_flowpipe_parse_functions), ("unicode/utf8.first", laid_unicode_utf8_first)], narrowed := true }
def ParseGroupsUptoSaid : Prop := parseGroupsUptoRow.holds Tryz.pinned (OpenSpec.upto parseGroupsSpec)

/-- 'flowpipelaw15.FormatParses', WHERE WHAT IT READS IS OF BULK AT MOST 1048576: true; the input reads as it did. -/
def formatParsesUptoRow : OpenClaim := { program := "ytkjoohnndobjeaagreatdoor", sum := "aa254e062c7dc2d03c96aff7821137ae5d3561cda26e39561e3704ebc2b451af", func := "flowpipe/flowpipelaw15.FormatParses", spec := "formatParses", inPlace := ["internal/bytealg.IndexByteString", "internal/bytealg.IndexString"], unfollowed := true, recurses := true, named := ["internal/strconv.uint64pow10", "math/bits.deBruijn32tab", "math/bits.deBruijn64tab", "internal/bytealg.MaxLen", "unicode/utf8.first", "unicode/utf8.acceptRanges", "strconv.ErrSyntax", "strconv.ErrRange", "flowpipe/parse.functions"], loops := true, apart := false, laid := [("math/bits.deBruijn32tab", laid_math_bits_deBruijn32tab), ("math/bits.deBruijn64tab", laid_math_bits_deBruijn64tab), ("internal/strconv.uint64pow10", laid_internal_strconv_uint64pow10), ("unicode/utf8.acceptRanges", laid_unicode_utf8_acceptRanges), ("strconv.ErrRange", laid_strconv_ErrRange), ("strconv.ErrSyntax", laid_strconv_ErrSyntax), ("flowpipe/parse.functions", laid_flowpipe_parse_functions), ("unicode/utf8.first", laid_unicode_utf8_first)], narrowed := true }
def FormatParsesUptoSaid : Prop := formatParsesUptoRow.holds Tryz.pinned (OpenSpec.upto formatParsesSpec)

/-- 'flowpipelaw15.FormatNeeds', WHERE WHAT IT READS IS OF BULK AT MOST 1048576: true; the input reads as it did. -/
def formatNeedsUptoRow : OpenClaim := { program := "ytkjoohnndobjeaagreatdoor", sum := "aa254e062c7dc2d03c96aff7821137ae5d3561cda26e39561e3704ebc2b451af", func := "flowpipe/flowpipelaw15.FormatNeeds", spec := "formatNeeds", inPlace := ["internal/bytealg.IndexByteString", "internal/bytealg.IndexString"], unfollowed := true, recurses := true, named := ["internal/strconv.uint64pow10", "math/bits.deBruijn32tab", "math/bits.deBruijn64tab", "internal/bytealg.MaxLen", "unicode/utf8.first", "unicode/utf8.acceptRanges", "strconv.ErrSyntax", "strconv.ErrRange", "flowpipe/parse.functions"], loops := true, apart := false, laid := [("math/bits.deBruijn32tab", laid_math_bits_deBruijn32tab), ("math/bits.deBruijn64tab", laid_math_bits_deBruijn64tab), ("internal/strconv.uint64pow10", laid_internal_strconv_uint64pow10), ("unicode/utf8.acceptRanges", laid_unicode_utf8_acceptRanges), ("strconv.ErrRange", laid_strconv_ErrRange), ("strconv.ErrSyntax", laid_strconv_ErrSyntax), ("flowpipe/parse.functions", laid_flowpipe_parse_functions), ("unicode/utf8.first", laid_unicode_utf8_first)], narrowed := true }
def FormatNeedsUptoSaid : Prop := formatNeedsUptoRow.holds Tryz.pinned (OpenSpec.upto formatNeedsSpec)

/-- 'flowpipelaw14.ParsePlaces', WHERE WHAT IT READS IS OF BULK AT MOST 1048576: true; the input reads as it did. -/
def parsePlacesUptoRow : OpenClaim := { program := "ytkjoohnndobjeaagreatdoor", sum := "aa254e062c7dc2d03c96aff7821137ae5d3561cda26e39561e3704ebc2b451af", func := "flowpipe/flowpipelaw14.ParsePlaces", spec := "parsePlaces", inPlace := ["internal/bytealg.IndexByteString", "internal/bytealg.IndexString", "internal/abi.NoEscape", "internal/bytealg.MakeNoZero"], unfollowed := true, recurses := true, named := ["internal/bytealg.MaxLen", "unicode/utf8.first", "unicode/utf8.acceptRanges", "strconv.ErrSyntax", "strconv.ErrRange", "internal/strconv.uint64pow10", "math/bits.deBruijn32tab", "math/bits.deBruijn64tab", "flowpipe/parse.functions"], apart := false, laid := [("math/bits.deBruijn32tab", laid_math_bits_deBruijn32tab), ("math/bits.deBruijn64tab", laid_math_bits_deBruijn64tab), ("internal/strconv.uint64pow10", laid_internal_strconv_uint64pow10), ("unicode/utf8.acceptRanges", laid_unicode_utf8_acceptRanges), ("strconv.ErrRange", laid_strconv_ErrRange), ("strconv.ErrSyntax", laid_strconv_ErrSyntax), ("flowpipe/parse.functions", laid_flowpipe_parse_functions), ("unicode/utf8.first", laid_unicode_utf8_first)], narrowed := true }
def ParsePlacesUptoSaid : Prop := parsePlacesUptoRow.holds Tryz.pinned (OpenSpec.upto parsePlacesSpec)

/-- 'flowpipelaw14.ParseParts', WHERE WHAT IT READS IS OF BULK AT MOST 1048576: true; the input reads as it did. -/
def parsePartsUptoRow : OpenClaim := { program := "ytkjoohnndobjeaagreatdoor", sum := "aa254e062c7dc2d03c96aff7821137ae5d3561cda26e39561e3704ebc2b451af", func := "flowpipe/flowpipelaw14.ParseParts", spec := "parseParts", inPlace := ["internal/bytealg.IndexByteString", "internal/bytealg.IndexString"], unfollowed := true, recurses := true, named := ["internal/bytealg.MaxLen", "unicode/utf8.first", "unicode/utf8.acceptRanges", "strconv.ErrSyntax", "strconv.ErrRange", "internal/strconv.uint64pow10", "math/bits.deBruijn32tab", "math/bits.deBruijn64tab", "flowpipe/parse.functions"], apart := false, laid := [("math/bits.deBruijn32tab", laid_math_bits_deBruijn32tab), ("math/bits.deBruijn64tab", laid_math_bits_deBruijn64tab), ("internal/strconv.uint64pow10", laid_internal_strconv_uint64pow10), ("unicode/utf8.acceptRanges", laid_unicode_utf8_acceptRanges), ("strconv.ErrRange", laid_strconv_ErrRange), ("strconv.ErrSyntax", laid_strconv_ErrSyntax), ("flowpipe/parse.functions", laid_flowpipe_parse_functions), ("unicode/utf8.first", laid_unicode_utf8_first)], narrowed := true }
def ParsePartsUptoSaid : Prop := parsePartsUptoRow.holds Tryz.pinned (OpenSpec.upto parsePartsSpec)

/-- 'flowpipelaw14.ParseBlanks', WHERE WHAT IT READS IS OF BULK AT MOST 1048576: true; the input reads as it did. -/
def parseBlanksUptoRow : OpenClaim := { program := "ytkjoohnndobjeaagreatdoor", sum := "aa254e062c7dc2d03c96aff7821137ae5d3561cda26e39561e3704ebc2b451af", func := "flowpipe/flowpipelaw14.ParseBlanks", spec := "parseBlanks", inPlace := ["internal/bytealg.IndexByteString", "internal/bytealg.IndexString", "internal/abi.NoEscape", "internal/bytealg.MakeNoZero"], unfollowed := true, recurses := true, named := ["internal/bytealg.MaxLen", "unicode/utf8.first", "unicode/utf8.acceptRanges", "strconv.ErrSyntax", "strconv.ErrRange", "internal/strconv.uint64pow10", "math/bits.deBruijn32tab", "math/bits.deBruijn64tab", "flowpipe/parse.functions"], apart := false, laid := [("math/bits.deBruijn32tab", laid_math_bits_deBruijn32tab), ("math/bits.deBruijn64tab", laid_math_bits_deBruijn64tab), ("internal/strconv.uint64pow10", laid_internal_strconv_uint64pow10), ("unicode/utf8.acceptRanges", laid_unicode_utf8_acceptRanges), ("strconv.ErrRange", laid_strconv_ErrRange), ("strconv.ErrSyntax", laid_strconv_ErrSyntax), ("flowpipe/parse.functions", laid_flowpipe_parse_functions), ("unicode/utf8.first", laid_unicode_utf8_first)], narrowed := true }
def ParseBlanksUptoSaid : Prop := parseBlanksUptoRow.holds Tryz.pinned (OpenSpec.upto parseBlanksSpec)

/-- 'flowpipelaw15.FormatReads', WHERE WHAT IT READS IS OF BULK AT MOST 1048576: true; the input reads as it did. -/
def formatReadsUptoRow : OpenClaim := { program := "ytkjoohnndobjeaagreatdoor", sum := "aa254e062c7dc2d03c96aff7821137ae5d3561cda26e39561e3704ebc2b451af", func := "flowpipe/flowpipelaw15.FormatReads", spec := "formatReads", inPlace := ["internal/bytealg.IndexByteString", "internal/bytealg.IndexString", "internal/abi.NoEscape"], unfollowed := true, recurses := true, named := ["internal/strconv.uint64pow10", "math/bits.deBruijn32tab", "math/bits.deBruijn64tab", "internal/bytealg.MaxLen", "unicode/utf8.first", "unicode/utf8.acceptRanges", "strconv.ErrSyntax", "strconv.ErrRange", "flowpipe/parse.functions"], loops := true, apart := false, laid := [("math/bits.deBruijn32tab", laid_math_bits_deBruijn32tab), ("math/bits.deBruijn64tab", laid_math_bits_deBruijn64tab), ("internal/strconv.uint64pow10", laid_internal_strconv_uint64pow10), ("unicode/utf8.acceptRanges", laid_unicode_utf8_acceptRanges), ("strconv.ErrRange", laid_strconv_ErrRange), ("strconv.ErrSyntax", laid_strconv_ErrSyntax), ("flowpipe/parse.functions", laid_flowpipe_parse_functions), ("unicode/utf8.first", laid_unicode_utf8_first)], narrowed := true }
def FormatReadsUptoSaid : Prop := formatReadsUptoRow.holds Tryz.pinned (OpenSpec.upto formatReadsSpec)

/-- 'flowpipelaw15.FormatBack', WHERE WHAT IT READS IS OF BULK AT MOST 1048576: true; the input reads as it did. -/
def formatBackUptoRow : OpenClaim := { program := "ytkjoohnndobjeaagreatdoor", sum := "aa254e062c7dc2d03c96aff7821137ae5d3561cda26e39561e3704ebc2b451af", func := "flowpipe/flowpipelaw15.FormatBack", spec := "formatBack", inPlace := ["internal/bytealg.IndexByteString", "internal/bytealg.IndexString", "internal/abi.NoEscape"], unfollowed := true, recurses := true, named := ["internal/strconv.uint64pow10", "math/bits.deBruijn32tab", "math/bits.deBruijn64tab", "internal/bytealg.MaxLen", "unicode/utf8.first", "unicode/utf8.acceptRanges", "strconv.ErrSyntax", "strconv.ErrRange", "flowpipe/parse.functions"], apart := false, laid := [("math/bits.deBruijn32tab", laid_math_bits_deBruijn32tab), ("math/bits.deBruijn64tab", laid_math_bits_deBruijn64tab), ("internal/strconv.uint64pow10", laid_internal_strconv_uint64pow10), ("unicode/utf8.acceptRanges", laid_unicode_utf8_acceptRanges), ("strconv.ErrRange", laid_strconv_ErrRange), ("strconv.ErrSyntax", laid_strconv_ErrSyntax), ("flowpipe/parse.functions", laid_flowpipe_parse_functions), ("unicode/utf8.first", laid_unicode_utf8_first)], narrowed := true }
def FormatBackUptoSaid : Prop := formatBackUptoRow.holds Tryz.pinned (OpenSpec.upto formatBackSpec)

end Rows
end Go.Proofs.YtkjoohnndobjeaaGreatDoor
