/-
  NARROWER THAN 'FOR EVERY INPUT', by the rows' own cells (each row's printed sentence says how): CodifyValidation: loops, laid · CodifyRewrites: laid · CodifyActs: loops, laid · CodifyEnacts: loops, laid · CodifyDestinations: loops, laid · CodifyDefaultPlan: loops, laid · CodifyCitations: loops, laid.
  DERIVED. THE GIVEN ROWS OF THIS SEAT. 7 by the template 'for every input the law returns true; each argument reads behind the call as it read before'; 0 by the template 'total and deterministic' (their statements: YtmpdkagfplajjaaGreatDoorTotals.lean).
  GIVEN WITH THE SEED: the statements are not yours to turn. If you find one false, say at which input.
  Laid BY PROGRAM, IN A SANDBOX (cutbox-rows.mjs): the forced cells as the released guide's own fill.sh prints them over the translation 99a43b3e34ff0288… (all of the seat's roots in one cut). By AI agents, Wed Nov 11 2026. No macro, syntax, notation, axiom, sorry.
-/
import Derived.Test.YtmpdkagfplajjaaGreatDoorChecked
import GoSem.PinnedTables
import GoSem.Claim
import GoSem.ClaimJoined
import GoSem.ClaimMapViews
import Derived.JoinedTies
import Derived.KernelRfl
namespace Go.Proofs.YtmpdkagfplajjaaGreatDoor
/- THE CELL 'sum', in the pinned program and in every row, IS THE sha256 OF THE DUMP (.gsa) THAT YtmpdkagfplajjaaGreatDoorProg.lean LOADS. Nothing in Lean hashes anything: it is a label: what it is worth is what the hold of that sum in a sandbox is worth. -/
noncomputable def Tryz.pinned : Pinned := { name := "ytmpdkagfplajjaagreatdoor", sum := "99a43b3e34ff0288cdecd6b4f50ffcff2be5ccb0a0d396dcbf38800ece2672ef", checked := Tryz.checked }
namespace Rows
def none {H : Type} : Left H := { results := [], args := [] }

/- WHAT THE LISTED PACKAGE-LEVEL VARIABLES READ AS WHEN THE CALL BEGINS. Each datum BY PROGRAM (the guide's laid-datum.mjs) off the statement by which the dump's own 'gosem.cut.vars' lays the variable. In a bare row this is a premise. The card (YtmpdkagfplajjaaGreatDoorCards.lean) ties it to the program's text. -/
def laid_math_bits_deBruijn32tab {H : Type} : DataW H := .agg [.lit (.int .u8 0), .lit (.int .u8 1), .lit (.int .u8 28), .lit (.int .u8 2), .lit (.int .u8 29), .lit (.int .u8 14), .lit (.int .u8 24), .lit (.int .u8 3), .lit (.int .u8 30), .lit (.int .u8 22), .lit (.int .u8 20), .lit (.int .u8 15), .lit (.int .u8 25), .lit (.int .u8 17), .lit (.int .u8 4), .lit (.int .u8 8), .lit (.int .u8 31), .lit (.int .u8 27), .lit (.int .u8 13), .lit (.int .u8 23), .lit (.int .u8 21), .lit (.int .u8 19), .lit (.int .u8 16), .lit (.int .u8 7), .lit (.int .u8 26), .lit (.int .u8 12), .lit (.int .u8 18), .lit (.int .u8 6), .lit (.int .u8 11), .lit (.int .u8 5), .lit (.int .u8 10), .lit (.int .u8 9)]
def laid_math_bits_deBruijn64tab {H : Type} : DataW H := .agg [.lit (.int .u8 0), .lit (.int .u8 1), .lit (.int .u8 56), .lit (.int .u8 2), .lit (.int .u8 57), .lit (.int .u8 49), .lit (.int .u8 28), .lit (.int .u8 3), .lit (.int .u8 61), .lit (.int .u8 58), .lit (.int .u8 42), .lit (.int .u8 50), .lit (.int .u8 38), .lit (.int .u8 29), .lit (.int .u8 17), .lit (.int .u8 4), .lit (.int .u8 62), .lit (.int .u8 47), .lit (.int .u8 59), .lit (.int .u8 36), .lit (.int .u8 45), .lit (.int .u8 43), .lit (.int .u8 51), .lit (.int .u8 22), .lit (.int .u8 53), .lit (.int .u8 39), .lit (.int .u8 33), .lit (.int .u8 30), .lit (.int .u8 24), .lit (.int .u8 18), .lit (.int .u8 12), .lit (.int .u8 5), .lit (.int .u8 63), .lit (.int .u8 55), .lit (.int .u8 48), .lit (.int .u8 27), .lit (.int .u8 60), .lit (.int .u8 41), .lit (.int .u8 37), .lit (.int .u8 16), .lit (.int .u8 46), .lit (.int .u8 35), .lit (.int .u8 44), .lit (.int .u8 21), .lit (.int .u8 52), .lit (.int .u8 32), .lit (.int .u8 23), .lit (.int .u8 11), .lit (.int .u8 54), .lit (.int .u8 26), .lit (.int .u8 40), .lit (.int .u8 15), .lit (.int .u8 34), .lit (.int .u8 20), .lit (.int .u8 31), .lit (.int .u8 10), .lit (.int .u8 25), .lit (.int .u8 14), .lit (.int .u8 19), .lit (.int .u8 9), .lit (.int .u8 13), .lit (.int .u8 8), .lit (.int .u8 7), .lit (.int .u8 6)]
def laid_internal_strconv_uint64pow10 {H : Type} : DataW H := .agg [.lit (.int .u64 1), .lit (.int .u64 10), .lit (.int .u64 100), .lit (.int .u64 1000), .lit (.int .u64 10000), .lit (.int .u64 100000), .lit (.int .u64 1000000), .lit (.int .u64 10000000), .lit (.int .u64 100000000), .lit (.int .u64 1000000000), .lit (.int .u64 10000000000), .lit (.int .u64 100000000000), .lit (.int .u64 1000000000000), .lit (.int .u64 10000000000000), .lit (.int .u64 100000000000000), .lit (.int .u64 1000000000000000), .lit (.int .u64 10000000000000000), .lit (.int .u64 100000000000000000), .lit (.int .u64 1000000000000000000), .lit (.int .u64 10000000000000000000)]
def laid_unicode_utf8_acceptRanges {H : Type} : DataW H := .agg [.agg [.lit (.int .u8 128), .lit (.int .u8 191)], .agg [.lit (.int .u8 160), .lit (.int .u8 191)], .agg [.lit (.int .u8 128), .lit (.int .u8 159)], .agg [.lit (.int .u8 144), .lit (.int .u8 191)], .agg [.lit (.int .u8 128), .lit (.int .u8 143)], .agg [.lit (.int .u8 0), .lit (.int .u8 0)], .agg [.lit (.int .u8 0), .lit (.int .u8 0)], .agg [.lit (.int .u8 0), .lit (.int .u8 0)], .agg [.lit (.int .u8 0), .lit (.int .u8 0)], .agg [.lit (.int .u8 0), .lit (.int .u8 0)], .agg [.lit (.int .u8 0), .lit (.int .u8 0)], .agg [.lit (.int .u8 0), .lit (.int .u8 0)], .agg [.lit (.int .u8 0), .lit (.int .u8 0)], .agg [.lit (.int .u8 0), .lit (.int .u8 0)], .agg [.lit (.int .u8 0), .lit (.int .u8 0)], .agg [.lit (.int .u8 0), .lit (.int .u8 0)]]
def laid_strconv_ErrRange {H : Type} : DataW H := .iface "*errors.errorString" (.ptr (.agg [.lit (.string [118, 97, 108, 117, 101, 32, 111, 117, 116, 32, 111, 102, 32, 114, 97, 110, 103, 101])]))
def laid_strconv_ErrSyntax {H : Type} : DataW H := .iface "*errors.errorString" (.ptr (.agg [.lit (.string [105, 110, 118, 97, 108, 105, 100, 32, 115, 121, 110, 116, 97, 120])]))
def laid_pandect_unit_names {H : Type} : DataW H := .agg [.lit (.string [98, 111, 111, 107]), .lit (.string [112, 97, 114, 116]), .lit (.string [115, 101, 99, 116, 105, 111, 110]), .lit (.string [112, 97, 114, 97, 103, 114, 97, 112, 104]), .lit (.string [116, 97, 98, 108, 101]), .lit (.string [114, 111, 119]), .lit (.string [99, 101, 108, 108]), .lit (.string [110, 111, 116, 101])]
def laid_pandect_unit_below {H : Type} : DataW H := .agg [.slice [.lit (.int .i64 1), .lit (.int .i64 2)] [], .slice [.lit (.int .i64 2)] [], .slice [.lit (.int .i64 3), .lit (.int .i64 4), .lit (.int .i64 7)] [], .slice [.lit (.int .i64 3), .lit (.int .i64 4), .lit (.int .i64 7)] [], .slice [.lit (.int .i64 5)] [], .slice [.lit (.int .i64 6)] [], .nil, .nil]
def laid_pandect_syntax_order {H : Type} : DataW H := .iface "func table" (.agg [.iface "func" (.lit (.string [112, 97, 110, 100, 101, 99, 116, 47, 115, 121, 110, 116, 97, 120, 46, 111, 114, 100, 101, 114, 36, 49])), .iface "func" (.lit (.string [112, 97, 110, 100, 101, 99, 116, 47, 115, 121, 110, 116, 97, 120, 46, 111, 114, 100, 101, 114, 36, 50]))])
/-- One of Go's own tables, pinned by name: the form's constant. -/
def laid_unicode_utf8_first : DataW Unit := Go.Pinned.utf8First

/-- 'pandectlaw46.CodifyValidation': WHATEVER THE INPUT: true; the input reads as it did. -/
def codifyValidationSpec : ChangeSpec := { name := "codifyValidation", fn := fun _ => fun
  | [d1, d2] => { results := [.lit (.bool true)], args := [d1, d2] }
  | _ => none }
def codifyValidationRow : OpenClaim := { program := "ytmpdkagfplajjaagreatdoor", sum := "99a43b3e34ff0288cdecd6b4f50ffcff2be5ccb0a0d396dcbf38800ece2672ef", func := "pandect/pandectlaw46.CodifyValidation", spec := "codifyValidation", inPlace := ["internal/bytealg.IndexByteString", "internal/abi.NoEscape", "internal/bytealg.IndexString", "internal/bytealg.MakeNoZero", "slices.overlaps[pandect/api.Unit]"], unfollowed := true, recurses := true, named := ["pandect/unit.names", "pandect/unit.below", "strconv.ErrSyntax", "strconv.ErrRange", "internal/strconv.uint64pow10", "math/bits.deBruijn32tab", "math/bits.deBruijn64tab", "internal/bytealg.MaxLen", "pandect/syntax.order", "unicode/utf8.first", "unicode/utf8.acceptRanges"], loops := true, plainKeys := false, apart := false, laid := [("math/bits.deBruijn32tab", laid_math_bits_deBruijn32tab), ("math/bits.deBruijn64tab", laid_math_bits_deBruijn64tab), ("internal/strconv.uint64pow10", laid_internal_strconv_uint64pow10), ("unicode/utf8.acceptRanges", laid_unicode_utf8_acceptRanges), ("strconv.ErrRange", laid_strconv_ErrRange), ("strconv.ErrSyntax", laid_strconv_ErrSyntax), ("pandect/unit.names", laid_pandect_unit_names), ("pandect/unit.below", laid_pandect_unit_below), ("pandect/syntax.order", laid_pandect_syntax_order), ("unicode/utf8.first", laid_unicode_utf8_first)] }
def CodifyValidationSaid : Prop := codifyValidationRow.holds Tryz.pinned (OpenSpec.ofChange codifyValidationSpec)

/-- ITS FALSE NEIGHBOUR: 'it returns false'. Refute it at one input. -/
def codifyValidationWrong : ChangeSpec := { name := "codifyValidation", fn := fun _ => fun
  | [d1, d2] => { results := [.lit (.bool false)], args := [d1, d2] }
  | _ => none }
def CodifyValidationWrongFalsely : Prop := codifyValidationRow.holds Tryz.pinned (OpenSpec.ofChange codifyValidationWrong)

/-- 'pandectlaw46.CodifyRewrites': WHATEVER THE INPUT: true; the input reads as it did. -/
def codifyRewritesSpec : ChangeSpec := { name := "codifyRewrites", fn := fun _ => fun
  | [d1, d2, d3] => { results := [.lit (.bool true)], args := [d1, d2, d3] }
  | _ => none }
def codifyRewritesRow : OpenClaim := { program := "ytmpdkagfplajjaagreatdoor", sum := "99a43b3e34ff0288cdecd6b4f50ffcff2be5ccb0a0d396dcbf38800ece2672ef", func := "pandect/pandectlaw46.CodifyRewrites", spec := "codifyRewrites", inPlace := ["internal/bytealg.IndexByteString", "internal/abi.NoEscape", "internal/bytealg.IndexString", "internal/bytealg.MakeNoZero", "slices.overlaps[pandect/api.Unit]"], unfollowed := true, recurses := true, named := ["pandect/unit.names", "pandect/unit.below", "strconv.ErrSyntax", "strconv.ErrRange", "internal/strconv.uint64pow10", "math/bits.deBruijn32tab", "math/bits.deBruijn64tab", "internal/bytealg.MaxLen", "pandect/syntax.order", "unicode/utf8.first", "unicode/utf8.acceptRanges"], plainKeys := false, apart := false, laid := [("math/bits.deBruijn32tab", laid_math_bits_deBruijn32tab), ("math/bits.deBruijn64tab", laid_math_bits_deBruijn64tab), ("internal/strconv.uint64pow10", laid_internal_strconv_uint64pow10), ("unicode/utf8.acceptRanges", laid_unicode_utf8_acceptRanges), ("strconv.ErrRange", laid_strconv_ErrRange), ("strconv.ErrSyntax", laid_strconv_ErrSyntax), ("pandect/unit.names", laid_pandect_unit_names), ("pandect/unit.below", laid_pandect_unit_below), ("pandect/syntax.order", laid_pandect_syntax_order), ("unicode/utf8.first", laid_unicode_utf8_first)] }
def CodifyRewritesSaid : Prop := codifyRewritesRow.holds Tryz.pinned (OpenSpec.ofChange codifyRewritesSpec)

/-- ITS FALSE NEIGHBOUR: 'it returns false'. Refute it at one input. -/
def codifyRewritesWrong : ChangeSpec := { name := "codifyRewrites", fn := fun _ => fun
  | [d1, d2, d3] => { results := [.lit (.bool false)], args := [d1, d2, d3] }
  | _ => none }
def CodifyRewritesWrongFalsely : Prop := codifyRewritesRow.holds Tryz.pinned (OpenSpec.ofChange codifyRewritesWrong)

/-- 'pandectlaw46.CodifyActs': WHATEVER THE INPUT: true; the input reads as it did. -/
def codifyActsSpec : ChangeSpec := { name := "codifyActs", fn := fun _ => fun
  | [d1, d2, d3, d4, d5] => { results := [.lit (.bool true)], args := [d1, d2, d3, d4, d5] }
  | _ => none }
def codifyActsRow : OpenClaim := { program := "ytmpdkagfplajjaagreatdoor", sum := "99a43b3e34ff0288cdecd6b4f50ffcff2be5ccb0a0d396dcbf38800ece2672ef", func := "pandect/pandectlaw46.CodifyActs", spec := "codifyActs", inPlace := ["internal/bytealg.IndexByteString", "internal/abi.NoEscape", "internal/bytealg.IndexString", "internal/bytealg.MakeNoZero", "slices.overlaps[pandect/api.Unit]"], unfollowed := true, recurses := true, named := ["pandect/unit.names", "pandect/unit.below", "strconv.ErrSyntax", "strconv.ErrRange", "internal/strconv.uint64pow10", "math/bits.deBruijn32tab", "math/bits.deBruijn64tab", "internal/bytealg.MaxLen", "pandect/syntax.order", "unicode/utf8.first", "unicode/utf8.acceptRanges"], loops := true, plainKeys := false, apart := false, laid := [("math/bits.deBruijn32tab", laid_math_bits_deBruijn32tab), ("math/bits.deBruijn64tab", laid_math_bits_deBruijn64tab), ("internal/strconv.uint64pow10", laid_internal_strconv_uint64pow10), ("unicode/utf8.acceptRanges", laid_unicode_utf8_acceptRanges), ("strconv.ErrRange", laid_strconv_ErrRange), ("strconv.ErrSyntax", laid_strconv_ErrSyntax), ("pandect/unit.names", laid_pandect_unit_names), ("pandect/unit.below", laid_pandect_unit_below), ("pandect/syntax.order", laid_pandect_syntax_order), ("unicode/utf8.first", laid_unicode_utf8_first)] }
def CodifyActsSaid : Prop := codifyActsRow.holds Tryz.pinned (OpenSpec.ofChange codifyActsSpec)

/-- ITS FALSE NEIGHBOUR: 'it returns false'. Refute it at one input. -/
def codifyActsWrong : ChangeSpec := { name := "codifyActs", fn := fun _ => fun
  | [d1, d2, d3, d4, d5] => { results := [.lit (.bool false)], args := [d1, d2, d3, d4, d5] }
  | _ => none }
def CodifyActsWrongFalsely : Prop := codifyActsRow.holds Tryz.pinned (OpenSpec.ofChange codifyActsWrong)

/-- 'pandectlaw46.CodifyEnacts': WHATEVER THE INPUT: true; the input reads as it did. -/
def codifyEnactsSpec : ChangeSpec := { name := "codifyEnacts", fn := fun _ => fun
  | [d1, d2, d3, d4] => { results := [.lit (.bool true)], args := [d1, d2, d3, d4] }
  | _ => none }
def codifyEnactsRow : OpenClaim := { program := "ytmpdkagfplajjaagreatdoor", sum := "99a43b3e34ff0288cdecd6b4f50ffcff2be5ccb0a0d396dcbf38800ece2672ef", func := "pandect/pandectlaw46.CodifyEnacts", spec := "codifyEnacts", inPlace := ["internal/bytealg.IndexByteString", "internal/abi.NoEscape", "internal/bytealg.IndexString", "internal/bytealg.MakeNoZero", "slices.overlaps[pandect/api.Unit]"], unfollowed := true, recurses := true, named := ["pandect/unit.names", "pandect/unit.below", "strconv.ErrSyntax", "strconv.ErrRange", "internal/strconv.uint64pow10", "math/bits.deBruijn32tab", "math/bits.deBruijn64tab", "internal/bytealg.MaxLen", "pandect/syntax.order", "unicode/utf8.first", "unicode/utf8.acceptRanges"], loops := true, plainKeys := false, apart := false, laid := [("math/bits.deBruijn32tab", laid_math_bits_deBruijn32tab), ("math/bits.deBruijn64tab", laid_math_bits_deBruijn64tab), ("internal/strconv.uint64pow10", laid_internal_strconv_uint64pow10), ("unicode/utf8.acceptRanges", laid_unicode_utf8_acceptRanges), ("strconv.ErrRange", laid_strconv_ErrRange), ("strconv.ErrSyntax", laid_strconv_ErrSyntax), ("pandect/unit.names", laid_pandect_unit_names), ("pandect/unit.below", laid_pandect_unit_below), ("pandect/syntax.order", laid_pandect_syntax_order), ("unicode/utf8.first", laid_unicode_utf8_first)] }
def CodifyEnactsSaid : Prop := codifyEnactsRow.holds Tryz.pinned (OpenSpec.ofChange codifyEnactsSpec)

/-- ITS FALSE NEIGHBOUR: 'it returns false'. Refute it at one input. -/
def codifyEnactsWrong : ChangeSpec := { name := "codifyEnacts", fn := fun _ => fun
  | [d1, d2, d3, d4] => { results := [.lit (.bool false)], args := [d1, d2, d3, d4] }
  | _ => none }
def CodifyEnactsWrongFalsely : Prop := codifyEnactsRow.holds Tryz.pinned (OpenSpec.ofChange codifyEnactsWrong)

/-- 'pandectlaw46.CodifyDestinations': WHATEVER THE INPUT: true; the input reads as it did. -/
def codifyDestinationsSpec : ChangeSpec := { name := "codifyDestinations", fn := fun _ => fun
  | [d1, d2, d3, d4] => { results := [.lit (.bool true)], args := [d1, d2, d3, d4] }
  | _ => none }
def codifyDestinationsRow : OpenClaim := { program := "ytmpdkagfplajjaagreatdoor", sum := "99a43b3e34ff0288cdecd6b4f50ffcff2be5ccb0a0d396dcbf38800ece2672ef", func := "pandect/pandectlaw46.CodifyDestinations", spec := "codifyDestinations", inPlace := ["internal/bytealg.IndexByteString", "internal/abi.NoEscape", "internal/bytealg.IndexString", "internal/bytealg.MakeNoZero", "slices.overlaps[pandect/api.Unit]"], unfollowed := true, recurses := true, named := ["pandect/unit.names", "pandect/unit.below", "strconv.ErrSyntax", "strconv.ErrRange", "internal/strconv.uint64pow10", "math/bits.deBruijn32tab", "math/bits.deBruijn64tab", "internal/bytealg.MaxLen", "pandect/syntax.order", "unicode/utf8.first", "unicode/utf8.acceptRanges"], loops := true, plainKeys := false, apart := false, laid := [("math/bits.deBruijn32tab", laid_math_bits_deBruijn32tab), ("math/bits.deBruijn64tab", laid_math_bits_deBruijn64tab), ("internal/strconv.uint64pow10", laid_internal_strconv_uint64pow10), ("unicode/utf8.acceptRanges", laid_unicode_utf8_acceptRanges), ("strconv.ErrRange", laid_strconv_ErrRange), ("strconv.ErrSyntax", laid_strconv_ErrSyntax), ("pandect/unit.names", laid_pandect_unit_names), ("pandect/unit.below", laid_pandect_unit_below), ("pandect/syntax.order", laid_pandect_syntax_order), ("unicode/utf8.first", laid_unicode_utf8_first)] }
def CodifyDestinationsSaid : Prop := codifyDestinationsRow.holds Tryz.pinned (OpenSpec.ofChange codifyDestinationsSpec)

/-- ITS FALSE NEIGHBOUR: 'it returns false'. Refute it at one input. -/
def codifyDestinationsWrong : ChangeSpec := { name := "codifyDestinations", fn := fun _ => fun
  | [d1, d2, d3, d4] => { results := [.lit (.bool false)], args := [d1, d2, d3, d4] }
  | _ => none }
def CodifyDestinationsWrongFalsely : Prop := codifyDestinationsRow.holds Tryz.pinned (OpenSpec.ofChange codifyDestinationsWrong)

/-- 'pandectlaw46.CodifyDefaultPlan': WHATEVER THE INPUT: true; the input reads as it did. -/
def codifyDefaultPlanSpec : ChangeSpec := { name := "codifyDefaultPlan", fn := fun _ => fun
  | [d1, d2] => { results := [.lit (.bool true)], args := [d1, d2] }
  | _ => none }
def codifyDefaultPlanRow : OpenClaim := { program := "ytmpdkagfplajjaagreatdoor", sum := "99a43b3e34ff0288cdecd6b4f50ffcff2be5ccb0a0d396dcbf38800ece2672ef", func := "pandect/pandectlaw46.CodifyDefaultPlan", spec := "codifyDefaultPlan", inPlace := ["internal/bytealg.IndexByteString", "internal/abi.NoEscape", "internal/bytealg.IndexString", "internal/bytealg.MakeNoZero", "slices.overlaps[pandect/api.Unit]"], unfollowed := true, recurses := true, named := ["pandect/unit.names", "pandect/unit.below", "strconv.ErrSyntax", "strconv.ErrRange", "internal/strconv.uint64pow10", "math/bits.deBruijn32tab", "math/bits.deBruijn64tab", "internal/bytealg.MaxLen", "pandect/syntax.order", "unicode/utf8.first", "unicode/utf8.acceptRanges"], loops := true, plainKeys := false, apart := false, laid := [("math/bits.deBruijn32tab", laid_math_bits_deBruijn32tab), ("math/bits.deBruijn64tab", laid_math_bits_deBruijn64tab), ("internal/strconv.uint64pow10", laid_internal_strconv_uint64pow10), ("unicode/utf8.acceptRanges", laid_unicode_utf8_acceptRanges), ("strconv.ErrRange", laid_strconv_ErrRange), ("strconv.ErrSyntax", laid_strconv_ErrSyntax), ("pandect/unit.names", laid_pandect_unit_names), ("pandect/unit.below", laid_pandect_unit_below), ("pandect/syntax.order", laid_pandect_syntax_order), ("unicode/utf8.first", laid_unicode_utf8_first)] }
def CodifyDefaultPlanSaid : Prop := codifyDefaultPlanRow.holds Tryz.pinned (OpenSpec.ofChange codifyDefaultPlanSpec)

/-- ITS FALSE NEIGHBOUR: 'it returns false'. Refute it at one input. -/
def codifyDefaultPlanWrong : ChangeSpec := { name := "codifyDefaultPlan", fn := fun _ => fun
  | [d1, d2] => { results := [.lit (.bool false)], args := [d1, d2] }
  | _ => none }
def CodifyDefaultPlanWrongFalsely : Prop := codifyDefaultPlanRow.holds Tryz.pinned (OpenSpec.ofChange codifyDefaultPlanWrong)

/-- 'pandectlaw46.CodifyCitations': WHATEVER THE INPUT: true; the input reads as it did. -/
def codifyCitationsSpec : ChangeSpec := { name := "codifyCitations", fn := fun _ => fun
  | [d1, d2, d3, d4] => { results := [.lit (.bool true)], args := [d1, d2, d3, d4] }
  | _ => none }
def codifyCitationsRow : OpenClaim := { program := "ytmpdkagfplajjaagreatdoor", sum := "99a43b3e34ff0288cdecd6b4f50ffcff2be5ccb0a0d396dcbf38800ece2672ef", func := "pandect/pandectlaw46.CodifyCitations", spec := "codifyCitations", inPlace := ["internal/bytealg.IndexByteString", "internal/abi.NoEscape", "internal/bytealg.IndexString", "internal/bytealg.MakeNoZero", "slices.overlaps[pandect/api.Unit]"], unfollowed := true, recurses := true, named := ["pandect/unit.names", "pandect/unit.below", "strconv.ErrSyntax", "strconv.ErrRange", "internal/strconv.uint64pow10", "math/bits.deBruijn32tab", "math/bits.deBruijn64tab", "internal/bytealg.MaxLen", "pandect/syntax.order", "unicode/utf8.first", "unicode/utf8.acceptRanges"], loops := true, plainKeys := false, apart := false, laid := [("math/bits.deBruijn32tab", laid_math_bits_deBruijn32tab), ("math/bits.deBruijn64tab", laid_math_bits_deBruijn64tab), ("internal/strconv.uint64pow10", laid_internal_strconv_uint64pow10), ("unicode/utf8.acceptRanges", laid_unicode_utf8_acceptRanges), ("strconv.ErrRange", laid_strconv_ErrRange), ("strconv.ErrSyntax", laid_strconv_ErrSyntax), ("pandect/unit.names", laid_pandect_unit_names), ("pandect/unit.below", laid_pandect_unit_below), ("pandect/syntax.order", laid_pandect_syntax_order), ("unicode/utf8.first", laid_unicode_utf8_first)] }
def CodifyCitationsSaid : Prop := codifyCitationsRow.holds Tryz.pinned (OpenSpec.ofChange codifyCitationsSpec)

/-- ITS FALSE NEIGHBOUR: 'it returns false'. Refute it at one input. -/
def codifyCitationsWrong : ChangeSpec := { name := "codifyCitations", fn := fun _ => fun
  | [d1, d2, d3, d4] => { results := [.lit (.bool false)], args := [d1, d2, d3, d4] }
  | _ => none }
def CodifyCitationsWrongFalsely : Prop := codifyCitationsRow.holds Tryz.pinned (OpenSpec.ofChange codifyCitationsWrong)

/- THE SECOND FORM. 'bulk': how many values and letters a reading holds, each counted each time it is reached (what is shared counts as often as it is met; a slice's spare places count too). A statement '..UptoSaid' is the law's where the arguments, and the package variables that the reading takes, are together of bulk at most 1048576: NARROWER than '..Said'. Prove '..Said' where nothing that the law and all that it calls make is longer than what came in: it says more and counts as full. Else prove '..UptoSaid'. A law counts once. -/
mutual
def uptoBulk {H : Type} : DataW H → Nat
  | .lit (.string bytes) => bytes.length + 1
  | .lit _ => 1
  | .nil => 1
  | .ptr d => uptoBulk d + 1
  | .slice elems spare => uptoBulkAll elems + uptoBulkAll spare + 1
  | .agg parts => uptoBulkAll parts + 1
  | .iface _ d => uptoBulk d + 1
  | .map entries => uptoBulkEntries entries + 1
  | .held _ => 1
def uptoBulkAll {H : Type} : List (DataW H) → Nat
  | [] => 0
  | d :: r => uptoBulk d + uptoBulkAll r
def uptoBulkEntries {H : Type} : List (Lit × DataW H) → Nat
  | [] => 0
  | x :: r => uptoBulkEntry x + uptoBulkEntries r
def uptoBulkEntry {H : Type} : Lit × DataW H → Nat
  | (.string bytes, d) => bytes.length + uptoBulk d + 1
  | (_, d) => uptoBulk d + 1
 end
def uptoSmall : (H : Type) → List (DataW H) → Bool := fun _ ds => decide (uptoBulkAll ds ≤ 1048576)
def OpenSpec.upto (s : _root_.Go.ChangeSpec) : _root_.Go.OpenSpec := { _root_.Go.OpenSpec.ofChange s with cond := some uptoSmall }

/-- 'pandectlaw46.CodifyValidation', WHERE WHAT IT READS IS OF BULK AT MOST 1048576: true; the input reads as it did. -/
def codifyValidationUptoRow : OpenClaim := { program := "ytmpdkagfplajjaagreatdoor", sum := "99a43b3e34ff0288cdecd6b4f50ffcff2be5ccb0a0d396dcbf38800ece2672ef", func := "pandect/pandectlaw46.CodifyValidation", spec := "codifyValidation", inPlace := ["internal/bytealg.IndexByteString", "internal/abi.NoEscape", "internal/bytealg.IndexString", "internal/bytealg.MakeNoZero", "slices.overlaps[pandect/api.Unit]"], unfollowed := true, recurses := true, named := ["pandect/unit.names", "pandect/unit.below", "strconv.ErrSyntax", "strconv.ErrRange", "internal/strconv.uint64pow10", "math/bits.deBruijn32tab", "math/bits.deBruijn64tab", "internal/bytealg.MaxLen", "pandect/syntax.order", "unicode/utf8.first", "unicode/utf8.acceptRanges"], loops := true, plainKeys := false, apart := false, laid := [("math/bits.deBruijn32tab", laid_math_bits_deBruijn32tab), ("math/bits.deBruijn64tab", laid_math_bits_deBruijn64tab), ("internal/strconv.uint64pow10", laid_internal_strconv_uint64pow10), ("unicode/utf8.acceptRanges", laid_unicode_utf8_acceptRanges), ("strconv.ErrRange", laid_strconv_ErrRange), ("strconv.ErrSyntax", laid_strconv_ErrSyntax), ("pandect/unit.names", laid_pandect_unit_names), ("pandect/unit.below", laid_pandect_unit_below), ("pandect/syntax.order", laid_pandect_syntax_order), ("unicode/utf8.first", laid_unicode_utf8_first)], narrowed := true }
def CodifyValidationUptoSaid : Prop := codifyValidationUptoRow.holds Tryz.pinned (OpenSpec.upto codifyValidationSpec)

/-- 'pandectlaw46.CodifyRewrites', WHERE WHAT IT READS IS OF BULK AT MOST 1048576: true; the input reads as it did. -/
def codifyRewritesUptoRow : OpenClaim := { program := "ytmpdkagfplajjaagreatdoor", sum := "99a43b3e34ff0288cdecd6b4f50ffcff2be5ccb0a0d396dcbf38800ece2672ef", func := "pandect/pandectlaw46.CodifyRewrites", spec := "codifyRewrites", inPlace := ["internal/bytealg.IndexByteString", "internal/abi.NoEscape", "internal/bytealg.IndexString", "internal/bytealg.MakeNoZero", "slices.overlaps[pandect/api.Unit]"], unfollowed := true, recurses := true, named := ["pandect/unit.names", "pandect/unit.below", "strconv.ErrSyntax", "strconv.ErrRange", "internal/strconv.uint64pow10", "math/bits.deBruijn32tab", "math/bits.deBruijn64tab", "internal/bytealg.MaxLen", "pandect/syntax.order", "unicode/utf8.first", "unicode/utf8.acceptRanges"], plainKeys := false, apart := false, laid := [("math/bits.deBruijn32tab", laid_math_bits_deBruijn32tab), ("math/bits.deBruijn64tab", laid_math_bits_deBruijn64tab), ("internal/strconv.uint64pow10", laid_internal_strconv_uint64pow10), ("unicode/utf8.acceptRanges", laid_unicode_utf8_acceptRanges), ("strconv.ErrRange", laid_strconv_ErrRange), ("strconv.ErrSyntax", laid_strconv_ErrSyntax), ("pandect/unit.names", laid_pandect_unit_names), ("pandect/unit.below", laid_pandect_unit_below), ("pandect/syntax.order", laid_pandect_syntax_order), ("unicode/utf8.first", laid_unicode_utf8_first)], narrowed := true }
def CodifyRewritesUptoSaid : Prop := codifyRewritesUptoRow.holds Tryz.pinned (OpenSpec.upto codifyRewritesSpec)

/-- 'pandectlaw46.CodifyActs', WHERE WHAT IT READS IS OF BULK AT MOST 1048576: true; the input reads as it did. -/
def codifyActsUptoRow : OpenClaim := { program := "ytmpdkagfplajjaagreatdoor", sum := "99a43b3e34ff0288cdecd6b4f50ffcff2be5ccb0a0d396dcbf38800ece2672ef", func := "pandect/pandectlaw46.CodifyActs", spec := "codifyActs", inPlace := ["internal/bytealg.IndexByteString", "internal/abi.NoEscape", "internal/bytealg.IndexString", "internal/bytealg.MakeNoZero", "slices.overlaps[pandect/api.Unit]"], unfollowed := true, recurses := true, named := ["pandect/unit.names", "pandect/unit.below", "strconv.ErrSyntax", "strconv.ErrRange", "internal/strconv.uint64pow10", "math/bits.deBruijn32tab", "math/bits.deBruijn64tab", "internal/bytealg.MaxLen", "pandect/syntax.order", "unicode/utf8.first", "unicode/utf8.acceptRanges"], loops := true, plainKeys := false, apart := false, laid := [("math/bits.deBruijn32tab", laid_math_bits_deBruijn32tab), ("math/bits.deBruijn64tab", laid_math_bits_deBruijn64tab), ("internal/strconv.uint64pow10", laid_internal_strconv_uint64pow10), ("unicode/utf8.acceptRanges", laid_unicode_utf8_acceptRanges), ("strconv.ErrRange", laid_strconv_ErrRange), ("strconv.ErrSyntax", laid_strconv_ErrSyntax), ("pandect/unit.names", laid_pandect_unit_names), ("pandect/unit.below", laid_pandect_unit_below), ("pandect/syntax.order", laid_pandect_syntax_order), ("unicode/utf8.first", laid_unicode_utf8_first)], narrowed := true }
def CodifyActsUptoSaid : Prop := codifyActsUptoRow.holds Tryz.pinned (OpenSpec.upto codifyActsSpec)

/-- 'pandectlaw46.CodifyEnacts', WHERE WHAT IT READS IS OF BULK AT MOST 1048576: true; the input reads as it did. -/
def codifyEnactsUptoRow : OpenClaim := { program := "ytmpdkagfplajjaagreatdoor", sum := "99a43b3e34ff0288cdecd6b4f50ffcff2be5ccb0a0d396dcbf38800ece2672ef", func := "pandect/pandectlaw46.CodifyEnacts", spec := "codifyEnacts", inPlace := ["internal/bytealg.IndexByteString", "internal/abi.NoEscape", "internal/bytealg.IndexString", "internal/bytealg.MakeNoZero", "slices.overlaps[pandect/api.Unit]"], unfollowed := true, recurses := true, named := ["pandect/unit.names", "pandect/unit.below", "strconv.ErrSyntax", "strconv.ErrRange", "internal/strconv.uint64pow10", "math/bits.deBruijn32tab", "math/bits.deBruijn64tab", "internal/bytealg.MaxLen", "pandect/syntax.order", "unicode/utf8.first", "unicode/utf8.acceptRanges"], loops := true, plainKeys := false, apart := false, laid := [("math/bits.deBruijn32tab", laid_math_bits_deBruijn32tab), ("math/bits.deBruijn64tab", laid_math_bits_deBruijn64tab), ("internal/strconv.uint64pow10", laid_internal_strconv_uint64pow10), ("unicode/utf8.acceptRanges", laid_unicode_utf8_acceptRanges), ("strconv.ErrRange", laid_strconv_ErrRange), ("strconv.ErrSyntax", laid_strconv_ErrSyntax), ("pandect/unit.names", laid_pandect_unit_names), ("pandect/unit.below", laid_pandect_unit_below), ("pandect/syntax.order", laid_pandect_syntax_order), ("unicode/utf8.first", laid_unicode_utf8_first)], narrowed := true }
def CodifyEnactsUptoSaid : Prop := codifyEnactsUptoRow.holds Tryz.pinned (OpenSpec.upto codifyEnactsSpec)

/-- 'pandectlaw46.CodifyDestinations', WHERE WHAT IT READS IS OF BULK AT MOST 1048576: true; the input reads as it did. -/
def codifyDestinationsUptoRow : OpenClaim := { program := "ytmpdkagfplajjaagreatdoor", sum := "99a43b3e34ff0288cdecd6b4f50ffcff2be5ccb0a0d396dcbf38800ece2672ef", func := "pandect/pandectlaw46.CodifyDestinations", spec := "codifyDestinations", inPlace := ["internal/bytealg.IndexByteString", "internal/abi.NoEscape", "internal/bytealg.IndexString", "internal/bytealg.MakeNoZero", "slices.overlaps[pandect/api.Unit]"], unfollowed := true, recurses := true, named := ["pandect/unit.names", "pandect/unit.below", "strconv.ErrSyntax", "strconv.ErrRange", "internal/strconv.uint64pow10", "math/bits.deBruijn32tab", "math/bits.deBruijn64tab", "internal/bytealg.MaxLen", "pandect/syntax.order", "unicode/utf8.first", "unicode/utf8.acceptRanges"], loops := true, plainKeys := false, apart := false, laid := [("math/bits.deBruijn32tab", laid_math_bits_deBruijn32tab), ("math/bits.deBruijn64tab", laid_math_bits_deBruijn64tab), ("internal/strconv.uint64pow10", laid_internal_strconv_uint64pow10), ("unicode/utf8.acceptRanges", laid_unicode_utf8_acceptRanges), ("strconv.ErrRange", laid_strconv_ErrRange), ("strconv.ErrSyntax", laid_strconv_ErrSyntax), ("pandect/unit.names", laid_pandect_unit_names), ("pandect/unit.below", laid_pandect_unit_below), ("pandect/syntax.order", laid_pandect_syntax_order), ("unicode/utf8.first", laid_unicode_utf8_first)], narrowed := true }
def CodifyDestinationsUptoSaid : Prop := codifyDestinationsUptoRow.holds Tryz.pinned (OpenSpec.upto codifyDestinationsSpec)

/-- 'pandectlaw46.CodifyDefaultPlan', WHERE WHAT IT READS IS OF BULK AT MOST 1048576: true; the input reads as it did. -/
def codifyDefaultPlanUptoRow : OpenClaim := { program := "ytmpdkagfplajjaagreatdoor", sum := "99a43b3e34ff0288cdecd6b4f50ffcff2be5ccb0a0d396dcbf38800ece2672ef", func := "pandect/pandectlaw46.CodifyDefaultPlan", spec := "codifyDefaultPlan", inPlace := ["internal/bytealg.IndexByteString", "internal/abi.NoEscape", "internal/bytealg.IndexString", "internal/bytealg.MakeNoZero", "slices.overlaps[pandect/api.Unit]"], unfollowed := true, recurses := true, named := ["pandect/unit.names", "pandect/unit.below", "strconv.ErrSyntax", "strconv.ErrRange", "internal/strconv.uint64pow10", "math/bits.deBruijn32tab", "math/bits.deBruijn64tab", "internal/bytealg.MaxLen", "pandect/syntax.order", "unicode/utf8.first", "unicode/utf8.acceptRanges"], loops := true, plainKeys := false, apart := false, laid := [("math/bits.deBruijn32tab", laid_math_bits_deBruijn32tab), ("math/bits.deBruijn64tab", laid_math_bits_deBruijn64tab), ("internal/strconv.uint64pow10", laid_internal_strconv_uint64pow10), ("unicode/utf8.acceptRanges", laid_unicode_utf8_acceptRanges), ("strconv.ErrRange", laid_strconv_ErrRange), ("strconv.ErrSyntax", laid_strconv_ErrSyntax), ("pandect/unit.names", laid_pandect_unit_names), ("pandect/unit.below", laid_pandect_unit_below), ("pandect/syntax.order", laid_pandect_syntax_order), ("unicode/utf8.first", laid_unicode_utf8_first)], narrowed := true }
def CodifyDefaultPlanUptoSaid : Prop := codifyDefaultPlanUptoRow.holds Tryz.pinned (OpenSpec.upto codifyDefaultPlanSpec)

/-- 'pandectlaw46.CodifyCitations', WHERE WHAT IT READS IS OF BULK AT MOST 1048576: true; the input reads as it did. -/
def codifyCitationsUptoRow : OpenClaim := { program := "ytmpdkagfplajjaagreatdoor", sum := "99a43b3e34ff0288cdecd6b4f50ffcff2be5ccb0a0d396dcbf38800ece2672ef", func := "pandect/pandectlaw46.CodifyCitations", spec := "codifyCitations", inPlace := ["internal/bytealg.IndexByteString", "internal/abi.NoEscape", "internal/bytealg.IndexString", "internal/bytealg.MakeNoZero", "slices.overlaps[pandect/api.Unit]"], unfollowed := true, recurses := true, named := ["pandect/unit.names", "pandect/unit.below", "strconv.ErrSyntax", "strconv.ErrRange", "internal/strconv.uint64pow10", "math/bits.deBruijn32tab", "math/bits.deBruijn64tab", "internal/bytealg.MaxLen", "pandect/syntax.order", "unicode/utf8.first", "unicode/utf8.acceptRanges"], loops := true, plainKeys := false, apart := false, laid := [("math/bits.deBruijn32tab", laid_math_bits_deBruijn32tab), ("math/bits.deBruijn64tab", laid_math_bits_deBruijn64tab), ("internal/strconv.uint64pow10", laid_internal_strconv_uint64pow10), ("unicode/utf8.acceptRanges", laid_unicode_utf8_acceptRanges), ("strconv.ErrRange", laid_strconv_ErrRange), ("strconv.ErrSyntax", laid_strconv_ErrSyntax), ("pandect/unit.names", laid_pandect_unit_names), ("pandect/unit.below", laid_pandect_unit_below), ("pandect/syntax.order", laid_pandect_syntax_order), ("unicode/utf8.first", laid_unicode_utf8_first)], narrowed := true }
def CodifyCitationsUptoSaid : Prop := codifyCitationsUptoRow.holds Tryz.pinned (OpenSpec.upto codifyCitationsSpec)

end Rows
end Go.Proofs.YtmpdkagfplajjaaGreatDoor
