/-
  NARROWER THAN 'FOR EVERY INPUT', by the rows' own cells (each row's printed sentence says how): UrlpNames: laid · UrlpReads: laid · UrlpTells: laid · UrlpPaths: laid · UrlpEnds: laid · UrlpSchemes: laid · UrlpBlobs: laid · UrlpQueries: laid · OriginHolds: laid · OriginClasses: laid · OriginTexts: laid · OriginPaths: laid · OriginBlobs: laid · GroupsNames: laid · GroupsKeys: laid · GroupsOrigins: laid.
  DERIVED. THE GIVEN ROWS OF THIS SEAT. 16 by the template 'for every input the law returns true; each argument reads behind the call as it read before'; 0 by the template 'total and deterministic' (their statements: YthmgcnaoionmoaaDoorTotals.lean).
  GIVEN WITH THE SEED: the statements are not yours to turn. If you find one false, say at which input.
  Laid BY PROGRAM, IN A SANDBOX (cutbox-rows.mjs): the forced cells as the released guide's own fill.sh prints them over the translation 08e1e7cd206136e5… (all of the seat's roots in one cut). By AI agents, Wed Nov 11 2026. No macro, syntax, notation, axiom, sorry.
-/
import Derived.Test.YthmgcnaoionmoaaDoorChecked
import GoSem.PinnedTables
import GoSem.Claim
import GoSem.ClaimJoined
import GoSem.ClaimMapViews
import Derived.JoinedTies
import Derived.KernelRfl
namespace Go.Proofs.YthmgcnaoionmoaaDoor
/- THE CELL 'sum', in the pinned program and in every row, IS THE sha256 OF THE DUMP (.gsa) THAT YthmgcnaoionmoaaDoorProg.lean LOADS. Nothing in Lean hashes anything: it is a label: what it is worth is what the hold of that sum in a sandbox is worth. -/
noncomputable def Tryd.pinned : Pinned := { name := "ythmgcnaoionmoaadoor", sum := "08e1e7cd206136e5a7a35847051d3d536c92e598686fbd5f99b42c085a668dc1", checked := Tryd.checked }
namespace Rows
def none {H : Type} : Left H := { results := [], args := [] }

/- WHAT THE LISTED PACKAGE-LEVEL VARIABLES READ AS WHEN THE CALL BEGINS. Each datum BY PROGRAM (the guide's laid-datum.mjs) off the statement by which the dump's own 'gosem.cut.vars' lays the variable. In a bare row this is a premise. The card (YthmgcnaoionmoaaDoorCards.lean) ties it to the program's text. -/
def laid_math_bits_deBruijn32tab {H : Type} : DataW H := .agg [.lit (.int .u8 0), .lit (.int .u8 1), .lit (.int .u8 28), .lit (.int .u8 2), .lit (.int .u8 29), .lit (.int .u8 14), .lit (.int .u8 24), .lit (.int .u8 3), .lit (.int .u8 30), .lit (.int .u8 22), .lit (.int .u8 20), .lit (.int .u8 15), .lit (.int .u8 25), .lit (.int .u8 17), .lit (.int .u8 4), .lit (.int .u8 8), .lit (.int .u8 31), .lit (.int .u8 27), .lit (.int .u8 13), .lit (.int .u8 23), .lit (.int .u8 21), .lit (.int .u8 19), .lit (.int .u8 16), .lit (.int .u8 7), .lit (.int .u8 26), .lit (.int .u8 12), .lit (.int .u8 18), .lit (.int .u8 6), .lit (.int .u8 11), .lit (.int .u8 5), .lit (.int .u8 10), .lit (.int .u8 9)]
def laid_math_bits_deBruijn64tab {H : Type} : DataW H := .agg [.lit (.int .u8 0), .lit (.int .u8 1), .lit (.int .u8 56), .lit (.int .u8 2), .lit (.int .u8 57), .lit (.int .u8 49), .lit (.int .u8 28), .lit (.int .u8 3), .lit (.int .u8 61), .lit (.int .u8 58), .lit (.int .u8 42), .lit (.int .u8 50), .lit (.int .u8 38), .lit (.int .u8 29), .lit (.int .u8 17), .lit (.int .u8 4), .lit (.int .u8 62), .lit (.int .u8 47), .lit (.int .u8 59), .lit (.int .u8 36), .lit (.int .u8 45), .lit (.int .u8 43), .lit (.int .u8 51), .lit (.int .u8 22), .lit (.int .u8 53), .lit (.int .u8 39), .lit (.int .u8 33), .lit (.int .u8 30), .lit (.int .u8 24), .lit (.int .u8 18), .lit (.int .u8 12), .lit (.int .u8 5), .lit (.int .u8 63), .lit (.int .u8 55), .lit (.int .u8 48), .lit (.int .u8 27), .lit (.int .u8 60), .lit (.int .u8 41), .lit (.int .u8 37), .lit (.int .u8 16), .lit (.int .u8 46), .lit (.int .u8 35), .lit (.int .u8 44), .lit (.int .u8 21), .lit (.int .u8 52), .lit (.int .u8 32), .lit (.int .u8 23), .lit (.int .u8 11), .lit (.int .u8 54), .lit (.int .u8 26), .lit (.int .u8 40), .lit (.int .u8 15), .lit (.int .u8 34), .lit (.int .u8 20), .lit (.int .u8 31), .lit (.int .u8 10), .lit (.int .u8 25), .lit (.int .u8 14), .lit (.int .u8 19), .lit (.int .u8 9), .lit (.int .u8 13), .lit (.int .u8 8), .lit (.int .u8 7), .lit (.int .u8 6)]
def laid_internal_strconv_uint64pow10 {H : Type} : DataW H := .agg [.lit (.int .u64 1), .lit (.int .u64 10), .lit (.int .u64 100), .lit (.int .u64 1000), .lit (.int .u64 10000), .lit (.int .u64 100000), .lit (.int .u64 1000000), .lit (.int .u64 10000000), .lit (.int .u64 100000000), .lit (.int .u64 1000000000), .lit (.int .u64 10000000000), .lit (.int .u64 100000000000), .lit (.int .u64 1000000000000), .lit (.int .u64 10000000000000), .lit (.int .u64 100000000000000), .lit (.int .u64 1000000000000000), .lit (.int .u64 10000000000000000), .lit (.int .u64 100000000000000000), .lit (.int .u64 1000000000000000000), .lit (.int .u64 10000000000000000000)]
def laid_unicode_utf8_acceptRanges {H : Type} : DataW H := .agg [.agg [.lit (.int .u8 128), .lit (.int .u8 191)], .agg [.lit (.int .u8 160), .lit (.int .u8 191)], .agg [.lit (.int .u8 128), .lit (.int .u8 159)], .agg [.lit (.int .u8 144), .lit (.int .u8 191)], .agg [.lit (.int .u8 128), .lit (.int .u8 143)], .agg [.lit (.int .u8 0), .lit (.int .u8 0)], .agg [.lit (.int .u8 0), .lit (.int .u8 0)], .agg [.lit (.int .u8 0), .lit (.int .u8 0)], .agg [.lit (.int .u8 0), .lit (.int .u8 0)], .agg [.lit (.int .u8 0), .lit (.int .u8 0)], .agg [.lit (.int .u8 0), .lit (.int .u8 0)], .agg [.lit (.int .u8 0), .lit (.int .u8 0)], .agg [.lit (.int .u8 0), .lit (.int .u8 0)], .agg [.lit (.int .u8 0), .lit (.int .u8 0)], .agg [.lit (.int .u8 0), .lit (.int .u8 0)], .agg [.lit (.int .u8 0), .lit (.int .u8 0)]]
/-- One of Go's own tables, pinned by name: the form's constant. -/
def laid_unicode_utf8_first : DataW Unit := Go.Pinned.utf8First

/-- 'glacislaw03.UrlpNames': WHATEVER THE INPUT: true; the input reads as it did. -/
def urlpNamesSpec : ChangeSpec := { name := "urlpNames", fn := fun _ => fun
  | [] => { results := [.lit (.bool true)], args := [] }
  | _ => none }
def urlpNamesRow : OpenClaim := { program := "ythmgcnaoionmoaadoor", sum := "08e1e7cd206136e5a7a35847051d3d536c92e598686fbd5f99b42c085a668dc1", func := "glacis/glacislaw03.UrlpNames", spec := "urlpNames", inPlace := ["internal/bytealg.IndexByteString", "internal/bytealg.IndexString", "internal/bytealg.CountString", "internal/abi.NoEscape", "internal/bytealg.MakeNoZero"], unfollowed := true, recurses := true, named := ["internal/bytealg.MaxLen", "unicode/utf8.first", "unicode/utf8.acceptRanges", "internal/strconv.uint64pow10", "math/bits.deBruijn32tab", "math/bits.deBruijn64tab"], plainKeys := false, apart := false, laid := [("math/bits.deBruijn32tab", laid_math_bits_deBruijn32tab), ("math/bits.deBruijn64tab", laid_math_bits_deBruijn64tab), ("internal/strconv.uint64pow10", laid_internal_strconv_uint64pow10), ("unicode/utf8.acceptRanges", laid_unicode_utf8_acceptRanges), ("unicode/utf8.first", laid_unicode_utf8_first)] }
def UrlpNamesSaid : Prop := urlpNamesRow.holds Tryd.pinned (OpenSpec.ofChange urlpNamesSpec)

/-- ITS FALSE NEIGHBOUR: 'it returns false'. Refute it at one input. -/
def urlpNamesWrong : ChangeSpec := { name := "urlpNames", fn := fun _ => fun
  | [] => { results := [.lit (.bool false)], args := [] }
  | _ => none }
def UrlpNamesWrongFalsely : Prop := urlpNamesRow.holds Tryd.pinned (OpenSpec.ofChange urlpNamesWrong)

/-- 'glacislaw03.UrlpReads': WHATEVER THE INPUT: true; the input reads as it did. -/
def urlpReadsSpec : ChangeSpec := { name := "urlpReads", fn := fun _ => fun
  | [d] => { results := [.lit (.bool true)], args := [d] }
  | _ => none }
def urlpReadsRow : OpenClaim := { program := "ythmgcnaoionmoaadoor", sum := "08e1e7cd206136e5a7a35847051d3d536c92e598686fbd5f99b42c085a668dc1", func := "glacis/glacislaw03.UrlpReads", spec := "urlpReads", inPlace := ["internal/bytealg.IndexByteString", "internal/bytealg.IndexString", "internal/bytealg.CountString", "internal/abi.NoEscape", "internal/bytealg.MakeNoZero"], unfollowed := true, recurses := true, named := ["internal/bytealg.MaxLen", "unicode/utf8.first", "unicode/utf8.acceptRanges", "internal/strconv.uint64pow10", "math/bits.deBruijn32tab", "math/bits.deBruijn64tab"], plainKeys := false, apart := false, laid := [("math/bits.deBruijn32tab", laid_math_bits_deBruijn32tab), ("math/bits.deBruijn64tab", laid_math_bits_deBruijn64tab), ("internal/strconv.uint64pow10", laid_internal_strconv_uint64pow10), ("unicode/utf8.acceptRanges", laid_unicode_utf8_acceptRanges), ("unicode/utf8.first", laid_unicode_utf8_first)] }
def UrlpReadsSaid : Prop := urlpReadsRow.holds Tryd.pinned (OpenSpec.ofChange urlpReadsSpec)

/-- ITS FALSE NEIGHBOUR: 'it returns false'. Refute it at one input. -/
def urlpReadsWrong : ChangeSpec := { name := "urlpReads", fn := fun _ => fun
  | [d] => { results := [.lit (.bool false)], args := [d] }
  | _ => none }
def UrlpReadsWrongFalsely : Prop := urlpReadsRow.holds Tryd.pinned (OpenSpec.ofChange urlpReadsWrong)

/-- 'glacislaw03.UrlpTells': WHATEVER THE INPUT: true; the input reads as it did. -/
def urlpTellsSpec : ChangeSpec := { name := "urlpTells", fn := fun _ => fun
  | [d] => { results := [.lit (.bool true)], args := [d] }
  | _ => none }
def urlpTellsRow : OpenClaim := { program := "ythmgcnaoionmoaadoor", sum := "08e1e7cd206136e5a7a35847051d3d536c92e598686fbd5f99b42c085a668dc1", func := "glacis/glacislaw03.UrlpTells", spec := "urlpTells", inPlace := ["internal/bytealg.IndexByteString", "internal/bytealg.IndexString", "internal/bytealg.CountString", "internal/abi.NoEscape", "internal/bytealg.MakeNoZero"], unfollowed := true, recurses := true, named := ["internal/bytealg.MaxLen", "unicode/utf8.first", "unicode/utf8.acceptRanges", "internal/strconv.uint64pow10", "math/bits.deBruijn32tab", "math/bits.deBruijn64tab"], plainKeys := false, apart := false, laid := [("math/bits.deBruijn32tab", laid_math_bits_deBruijn32tab), ("math/bits.deBruijn64tab", laid_math_bits_deBruijn64tab), ("internal/strconv.uint64pow10", laid_internal_strconv_uint64pow10), ("unicode/utf8.acceptRanges", laid_unicode_utf8_acceptRanges), ("unicode/utf8.first", laid_unicode_utf8_first)] }
def UrlpTellsSaid : Prop := urlpTellsRow.holds Tryd.pinned (OpenSpec.ofChange urlpTellsSpec)

/-- ITS FALSE NEIGHBOUR: 'it returns false'. Refute it at one input. -/
def urlpTellsWrong : ChangeSpec := { name := "urlpTells", fn := fun _ => fun
  | [d] => { results := [.lit (.bool false)], args := [d] }
  | _ => none }
def UrlpTellsWrongFalsely : Prop := urlpTellsRow.holds Tryd.pinned (OpenSpec.ofChange urlpTellsWrong)

/-- 'glacislaw03.UrlpPaths': WHATEVER THE INPUT: true; the input reads as it did. -/
def urlpPathsSpec : ChangeSpec := { name := "urlpPaths", fn := fun _ => fun
  | [d] => { results := [.lit (.bool true)], args := [d] }
  | _ => none }
def urlpPathsRow : OpenClaim := { program := "ythmgcnaoionmoaadoor", sum := "08e1e7cd206136e5a7a35847051d3d536c92e598686fbd5f99b42c085a668dc1", func := "glacis/glacislaw03.UrlpPaths", spec := "urlpPaths", inPlace := ["internal/bytealg.IndexByteString", "internal/bytealg.IndexString", "internal/bytealg.CountString", "internal/abi.NoEscape", "internal/bytealg.MakeNoZero"], unfollowed := true, recurses := true, named := ["internal/bytealg.MaxLen", "unicode/utf8.first", "unicode/utf8.acceptRanges", "internal/strconv.uint64pow10", "math/bits.deBruijn32tab", "math/bits.deBruijn64tab"], plainKeys := false, apart := false, laid := [("math/bits.deBruijn32tab", laid_math_bits_deBruijn32tab), ("math/bits.deBruijn64tab", laid_math_bits_deBruijn64tab), ("internal/strconv.uint64pow10", laid_internal_strconv_uint64pow10), ("unicode/utf8.acceptRanges", laid_unicode_utf8_acceptRanges), ("unicode/utf8.first", laid_unicode_utf8_first)] }
def UrlpPathsSaid : Prop := urlpPathsRow.holds Tryd.pinned (OpenSpec.ofChange urlpPathsSpec)

/-- ITS FALSE NEIGHBOUR: 'it returns false'. Refute it at one input. -/
def urlpPathsWrong : ChangeSpec := { name := "urlpPaths", fn := fun _ => fun
  | [d] => { results := [.lit (.bool false)], args := [d] }
  | _ => none }
def UrlpPathsWrongFalsely : Prop := urlpPathsRow.holds Tryd.pinned (OpenSpec.ofChange urlpPathsWrong)

/-- 'glacislaw03.UrlpEnds': WHATEVER THE INPUT: true; the input reads as it did. -/
def urlpEndsSpec : ChangeSpec := { name := "urlpEnds", fn := fun _ => fun
  | [d1, d2] => { results := [.lit (.bool true)], args := [d1, d2] }
  | _ => none }
def urlpEndsRow : OpenClaim := { program := "ythmgcnaoionmoaadoor", sum := "08e1e7cd206136e5a7a35847051d3d536c92e598686fbd5f99b42c085a668dc1", func := "glacis/glacislaw03.UrlpEnds", spec := "urlpEnds", inPlace := ["internal/bytealg.IndexByteString", "internal/bytealg.IndexString", "internal/bytealg.CountString", "internal/abi.NoEscape", "internal/bytealg.MakeNoZero"], unfollowed := true, recurses := true, named := ["internal/bytealg.MaxLen", "unicode/utf8.first", "unicode/utf8.acceptRanges", "internal/strconv.uint64pow10", "math/bits.deBruijn32tab", "math/bits.deBruijn64tab"], plainKeys := false, apart := false, laid := [("math/bits.deBruijn32tab", laid_math_bits_deBruijn32tab), ("math/bits.deBruijn64tab", laid_math_bits_deBruijn64tab), ("internal/strconv.uint64pow10", laid_internal_strconv_uint64pow10), ("unicode/utf8.acceptRanges", laid_unicode_utf8_acceptRanges), ("unicode/utf8.first", laid_unicode_utf8_first)] }
def UrlpEndsSaid : Prop := urlpEndsRow.holds Tryd.pinned (OpenSpec.ofChange urlpEndsSpec)

/-- ITS FALSE NEIGHBOUR: 'it returns false'. Refute it at one input. -/
def urlpEndsWrong : ChangeSpec := { name := "urlpEnds", fn := fun _ => fun
  | [d1, d2] => { results := [.lit (.bool false)], args := [d1, d2] }
  | _ => none }
def UrlpEndsWrongFalsely : Prop := urlpEndsRow.holds Tryd.pinned (OpenSpec.ofChange urlpEndsWrong)

/-- 'glacislaw03.UrlpSchemes': WHATEVER THE INPUT: true; the input reads as it did. -/
def urlpSchemesSpec : ChangeSpec := { name := "urlpSchemes", fn := fun _ => fun
  | [d1, d2] => { results := [.lit (.bool true)], args := [d1, d2] }
  | _ => none }
def urlpSchemesRow : OpenClaim := { program := "ythmgcnaoionmoaadoor", sum := "08e1e7cd206136e5a7a35847051d3d536c92e598686fbd5f99b42c085a668dc1", func := "glacis/glacislaw03.UrlpSchemes", spec := "urlpSchemes", inPlace := ["internal/bytealg.IndexByteString", "internal/bytealg.IndexString", "internal/bytealg.CountString", "internal/abi.NoEscape", "internal/bytealg.MakeNoZero"], unfollowed := true, recurses := true, named := ["internal/bytealg.MaxLen", "unicode/utf8.first", "unicode/utf8.acceptRanges", "internal/strconv.uint64pow10", "math/bits.deBruijn32tab", "math/bits.deBruijn64tab"], plainKeys := false, apart := false, laid := [("math/bits.deBruijn32tab", laid_math_bits_deBruijn32tab), ("math/bits.deBruijn64tab", laid_math_bits_deBruijn64tab), ("internal/strconv.uint64pow10", laid_internal_strconv_uint64pow10), ("unicode/utf8.acceptRanges", laid_unicode_utf8_acceptRanges), ("unicode/utf8.first", laid_unicode_utf8_first)] }
def UrlpSchemesSaid : Prop := urlpSchemesRow.holds Tryd.pinned (OpenSpec.ofChange urlpSchemesSpec)

/-- ITS FALSE NEIGHBOUR: 'it returns false'. Refute it at one input. -/
def urlpSchemesWrong : ChangeSpec := { name := "urlpSchemes", fn := fun _ => fun
  | [d1, d2] => { results := [.lit (.bool false)], args := [d1, d2] }
  | _ => none }
def UrlpSchemesWrongFalsely : Prop := urlpSchemesRow.holds Tryd.pinned (OpenSpec.ofChange urlpSchemesWrong)

/-- 'glacislaw03.UrlpBlobs': WHATEVER THE INPUT: true; the input reads as it did. -/
def urlpBlobsSpec : ChangeSpec := { name := "urlpBlobs", fn := fun _ => fun
  | [d] => { results := [.lit (.bool true)], args := [d] }
  | _ => none }
def urlpBlobsRow : OpenClaim := { program := "ythmgcnaoionmoaadoor", sum := "08e1e7cd206136e5a7a35847051d3d536c92e598686fbd5f99b42c085a668dc1", func := "glacis/glacislaw03.UrlpBlobs", spec := "urlpBlobs", inPlace := ["internal/bytealg.IndexByteString", "internal/bytealg.IndexString", "internal/bytealg.CountString", "internal/abi.NoEscape", "internal/bytealg.MakeNoZero"], unfollowed := true, recurses := true, named := ["internal/bytealg.MaxLen", "unicode/utf8.first", "unicode/utf8.acceptRanges", "internal/strconv.uint64pow10", "math/bits.deBruijn32tab", "math/bits.deBruijn64tab"], plainKeys := false, apart := false, laid := [("math/bits.deBruijn32tab", laid_math_bits_deBruijn32tab), ("math/bits.deBruijn64tab", laid_math_bits_deBruijn64tab), ("internal/strconv.uint64pow10", laid_internal_strconv_uint64pow10), ("unicode/utf8.acceptRanges", laid_unicode_utf8_acceptRanges), ("unicode/utf8.first", laid_unicode_utf8_first)] }
def UrlpBlobsSaid : Prop := urlpBlobsRow.holds Tryd.pinned (OpenSpec.ofChange urlpBlobsSpec)

/-- ITS FALSE NEIGHBOUR: 'it returns false'. Refute it at one input. -/
def urlpBlobsWrong : ChangeSpec := { name := "urlpBlobs", fn := fun _ => fun
  | [d] => { results := [.lit (.bool false)], args := [d] }
  | _ => none }
def UrlpBlobsWrongFalsely : Prop := urlpBlobsRow.holds Tryd.pinned (OpenSpec.ofChange urlpBlobsWrong)

/-- 'glacislaw03.UrlpQueries': WHATEVER THE INPUT: true; the input reads as it did. -/
def urlpQueriesSpec : ChangeSpec := { name := "urlpQueries", fn := fun _ => fun
  | [d1, d2] => { results := [.lit (.bool true)], args := [d1, d2] }
  | _ => none }
def urlpQueriesRow : OpenClaim := { program := "ythmgcnaoionmoaadoor", sum := "08e1e7cd206136e5a7a35847051d3d536c92e598686fbd5f99b42c085a668dc1", func := "glacis/glacislaw03.UrlpQueries", spec := "urlpQueries", inPlace := ["internal/bytealg.IndexByteString", "internal/bytealg.IndexString", "internal/bytealg.CountString", "internal/abi.NoEscape", "internal/bytealg.MakeNoZero"], unfollowed := true, recurses := true, named := ["internal/bytealg.MaxLen", "unicode/utf8.first", "unicode/utf8.acceptRanges", "internal/strconv.uint64pow10", "math/bits.deBruijn32tab", "math/bits.deBruijn64tab"], plainKeys := false, apart := false, laid := [("math/bits.deBruijn32tab", laid_math_bits_deBruijn32tab), ("math/bits.deBruijn64tab", laid_math_bits_deBruijn64tab), ("internal/strconv.uint64pow10", laid_internal_strconv_uint64pow10), ("unicode/utf8.acceptRanges", laid_unicode_utf8_acceptRanges), ("unicode/utf8.first", laid_unicode_utf8_first)] }
def UrlpQueriesSaid : Prop := urlpQueriesRow.holds Tryd.pinned (OpenSpec.ofChange urlpQueriesSpec)

/-- ITS FALSE NEIGHBOUR: 'it returns false'. Refute it at one input. -/
def urlpQueriesWrong : ChangeSpec := { name := "urlpQueries", fn := fun _ => fun
  | [d1, d2] => { results := [.lit (.bool false)], args := [d1, d2] }
  | _ => none }
def UrlpQueriesWrongFalsely : Prop := urlpQueriesRow.holds Tryd.pinned (OpenSpec.ofChange urlpQueriesWrong)

/-- 'glacislaw04.OriginHolds': WHATEVER THE INPUT: true; the input reads as it did. -/
def originHoldsSpec : ChangeSpec := { name := "originHolds", fn := fun _ => fun
  | [d1, d2, d3] => { results := [.lit (.bool true)], args := [d1, d2, d3] }
  | _ => none }
def originHoldsRow : OpenClaim := { program := "ythmgcnaoionmoaadoor", sum := "08e1e7cd206136e5a7a35847051d3d536c92e598686fbd5f99b42c085a668dc1", func := "glacis/glacislaw04.OriginHolds", spec := "originHolds", inPlace := ["internal/bytealg.IndexByteString", "internal/bytealg.IndexString", "internal/bytealg.CountString", "internal/abi.NoEscape", "internal/bytealg.MakeNoZero"], unfollowed := true, recurses := true, named := ["internal/bytealg.MaxLen", "unicode/utf8.first", "unicode/utf8.acceptRanges", "internal/strconv.uint64pow10", "math/bits.deBruijn32tab", "math/bits.deBruijn64tab"], plainKeys := false, apart := false, laid := [("math/bits.deBruijn32tab", laid_math_bits_deBruijn32tab), ("math/bits.deBruijn64tab", laid_math_bits_deBruijn64tab), ("internal/strconv.uint64pow10", laid_internal_strconv_uint64pow10), ("unicode/utf8.acceptRanges", laid_unicode_utf8_acceptRanges), ("unicode/utf8.first", laid_unicode_utf8_first)] }
def OriginHoldsSaid : Prop := originHoldsRow.holds Tryd.pinned (OpenSpec.ofChange originHoldsSpec)

/-- ITS FALSE NEIGHBOUR: 'it returns false'. Refute it at one input. -/
def originHoldsWrong : ChangeSpec := { name := "originHolds", fn := fun _ => fun
  | [d1, d2, d3] => { results := [.lit (.bool false)], args := [d1, d2, d3] }
  | _ => none }
def OriginHoldsWrongFalsely : Prop := originHoldsRow.holds Tryd.pinned (OpenSpec.ofChange originHoldsWrong)

/-- 'glacislaw04.OriginClasses': WHATEVER THE INPUT: true; the input reads as it did. -/
def originClassesSpec : ChangeSpec := { name := "originClasses", fn := fun _ => fun
  | [d1, d2, d3, d4] => { results := [.lit (.bool true)], args := [d1, d2, d3, d4] }
  | _ => none }
def originClassesRow : OpenClaim := { program := "ythmgcnaoionmoaadoor", sum := "08e1e7cd206136e5a7a35847051d3d536c92e598686fbd5f99b42c085a668dc1", func := "glacis/glacislaw04.OriginClasses", spec := "originClasses", inPlace := ["internal/bytealg.IndexByteString", "internal/bytealg.IndexString", "internal/bytealg.CountString", "internal/abi.NoEscape", "internal/bytealg.MakeNoZero"], unfollowed := true, recurses := true, named := ["internal/bytealg.MaxLen", "unicode/utf8.first", "unicode/utf8.acceptRanges", "internal/strconv.uint64pow10", "math/bits.deBruijn32tab", "math/bits.deBruijn64tab"], plainKeys := false, apart := false, laid := [("math/bits.deBruijn32tab", laid_math_bits_deBruijn32tab), ("math/bits.deBruijn64tab", laid_math_bits_deBruijn64tab), ("internal/strconv.uint64pow10", laid_internal_strconv_uint64pow10), ("unicode/utf8.acceptRanges", laid_unicode_utf8_acceptRanges), ("unicode/utf8.first", laid_unicode_utf8_first)] }
def OriginClassesSaid : Prop := originClassesRow.holds Tryd.pinned (OpenSpec.ofChange originClassesSpec)

/-- ITS FALSE NEIGHBOUR: 'it returns false'. Refute it at one input. -/
def originClassesWrong : ChangeSpec := { name := "originClasses", fn := fun _ => fun
  | [d1, d2, d3, d4] => { results := [.lit (.bool false)], args := [d1, d2, d3, d4] }
  | _ => none }
def OriginClassesWrongFalsely : Prop := originClassesRow.holds Tryd.pinned (OpenSpec.ofChange originClassesWrong)

/-- 'glacislaw04.OriginTexts': WHATEVER THE INPUT: true; the input reads as it did. -/
def originTextsSpec : ChangeSpec := { name := "originTexts", fn := fun _ => fun
  | [d1, d2] => { results := [.lit (.bool true)], args := [d1, d2] }
  | _ => none }
def originTextsRow : OpenClaim := { program := "ythmgcnaoionmoaadoor", sum := "08e1e7cd206136e5a7a35847051d3d536c92e598686fbd5f99b42c085a668dc1", func := "glacis/glacislaw04.OriginTexts", spec := "originTexts", inPlace := ["internal/bytealg.IndexByteString", "internal/bytealg.IndexString", "internal/bytealg.CountString", "internal/abi.NoEscape", "internal/bytealg.MakeNoZero"], unfollowed := true, recurses := true, named := ["internal/bytealg.MaxLen", "unicode/utf8.first", "unicode/utf8.acceptRanges", "internal/strconv.uint64pow10", "math/bits.deBruijn32tab", "math/bits.deBruijn64tab"], plainKeys := false, apart := false, laid := [("math/bits.deBruijn32tab", laid_math_bits_deBruijn32tab), ("math/bits.deBruijn64tab", laid_math_bits_deBruijn64tab), ("internal/strconv.uint64pow10", laid_internal_strconv_uint64pow10), ("unicode/utf8.acceptRanges", laid_unicode_utf8_acceptRanges), ("unicode/utf8.first", laid_unicode_utf8_first)] }
def OriginTextsSaid : Prop := originTextsRow.holds Tryd.pinned (OpenSpec.ofChange originTextsSpec)

/-- ITS FALSE NEIGHBOUR: 'it returns false'. Refute it at one input. -/
def originTextsWrong : ChangeSpec := { name := "originTexts", fn := fun _ => fun
  | [d1, d2] => { results := [.lit (.bool false)], args := [d1, d2] }
  | _ => none }
def OriginTextsWrongFalsely : Prop := originTextsRow.holds Tryd.pinned (OpenSpec.ofChange originTextsWrong)

/-- 'glacislaw04.OriginPaths': WHATEVER THE INPUT: true; the input reads as it did. -/
def originPathsSpec : ChangeSpec := { name := "originPaths", fn := fun _ => fun
  | [d1, d2, d3, d4] => { results := [.lit (.bool true)], args := [d1, d2, d3, d4] }
  | _ => none }
def originPathsRow : OpenClaim := { program := "ythmgcnaoionmoaadoor", sum := "08e1e7cd206136e5a7a35847051d3d536c92e598686fbd5f99b42c085a668dc1", func := "glacis/glacislaw04.OriginPaths", spec := "originPaths", inPlace := ["internal/bytealg.IndexByteString", "internal/bytealg.IndexString", "internal/bytealg.CountString", "internal/abi.NoEscape", "internal/bytealg.MakeNoZero"], unfollowed := true, recurses := true, named := ["internal/bytealg.MaxLen", "unicode/utf8.first", "unicode/utf8.acceptRanges", "internal/strconv.uint64pow10", "math/bits.deBruijn32tab", "math/bits.deBruijn64tab"], plainKeys := false, apart := false, laid := [("math/bits.deBruijn32tab", laid_math_bits_deBruijn32tab), ("math/bits.deBruijn64tab", laid_math_bits_deBruijn64tab), ("internal/strconv.uint64pow10", laid_internal_strconv_uint64pow10), ("unicode/utf8.acceptRanges", laid_unicode_utf8_acceptRanges), ("unicode/utf8.first", laid_unicode_utf8_first)] }
def OriginPathsSaid : Prop := originPathsRow.holds Tryd.pinned (OpenSpec.ofChange originPathsSpec)

/-- ITS FALSE NEIGHBOUR: 'it returns false'. Refute it at one input. -/
def originPathsWrong : ChangeSpec := { name := "originPaths", fn := fun _ => fun
  | [d1, d2, d3, d4] => { results := [.lit (.bool false)], args := [d1, d2, d3, d4] }
  | _ => none }
def OriginPathsWrongFalsely : Prop := originPathsRow.holds Tryd.pinned (OpenSpec.ofChange originPathsWrong)

/-- 'glacislaw04.OriginBlobs': WHATEVER THE INPUT: true; the input reads as it did. -/
def originBlobsSpec : ChangeSpec := { name := "originBlobs", fn := fun _ => fun
  | [d1, d2, d3] => { results := [.lit (.bool true)], args := [d1, d2, d3] }
  | _ => none }
def originBlobsRow : OpenClaim := { program := "ythmgcnaoionmoaadoor", sum := "08e1e7cd206136e5a7a35847051d3d536c92e598686fbd5f99b42c085a668dc1", func := "glacis/glacislaw04.OriginBlobs", spec := "originBlobs", inPlace := ["internal/bytealg.IndexByteString", "internal/bytealg.IndexString", "internal/bytealg.CountString", "internal/abi.NoEscape", "internal/bytealg.MakeNoZero"], unfollowed := true, recurses := true, named := ["internal/bytealg.MaxLen", "unicode/utf8.first", "unicode/utf8.acceptRanges", "internal/strconv.uint64pow10", "math/bits.deBruijn32tab", "math/bits.deBruijn64tab"], plainKeys := false, apart := false, laid := [("math/bits.deBruijn32tab", laid_math_bits_deBruijn32tab), ("math/bits.deBruijn64tab", laid_math_bits_deBruijn64tab), ("internal/strconv.uint64pow10", laid_internal_strconv_uint64pow10), ("unicode/utf8.acceptRanges", laid_unicode_utf8_acceptRanges), ("unicode/utf8.first", laid_unicode_utf8_first)] }
def OriginBlobsSaid : Prop := originBlobsRow.holds Tryd.pinned (OpenSpec.ofChange originBlobsSpec)

/-- ITS FALSE NEIGHBOUR: 'it returns false'. Refute it at one input. -/
def originBlobsWrong : ChangeSpec := { name := "originBlobs", fn := fun _ => fun
  | [d1, d2, d3] => { results := [.lit (.bool false)], args := [d1, d2, d3] }
  | _ => none }
def OriginBlobsWrongFalsely : Prop := originBlobsRow.holds Tryd.pinned (OpenSpec.ofChange originBlobsWrong)

/-- 'glacislaw17.GroupsNames': WHATEVER THE INPUT: true; the input reads as it did. -/
def groupsNamesSpec : ChangeSpec := { name := "groupsNames", fn := fun _ => fun
  | [] => { results := [.lit (.bool true)], args := [] }
  | _ => none }
def groupsNamesRow : OpenClaim := { program := "ythmgcnaoionmoaadoor", sum := "08e1e7cd206136e5a7a35847051d3d536c92e598686fbd5f99b42c085a668dc1", func := "glacis/glacislaw17.GroupsNames", spec := "groupsNames", inPlace := ["sync/atomic.AddInt64", "internal/bytealg.IndexByteString", "internal/bytealg.IndexString", "internal/bytealg.CountString", "internal/abi.NoEscape", "internal/bytealg.MakeNoZero"], unfollowed := true, recurses := true, named := ["internal/bytealg.MaxLen", "unicode/utf8.first", "unicode/utf8.acceptRanges", "internal/strconv.uint64pow10", "math/bits.deBruijn32tab", "math/bits.deBruijn64tab"], plainKeys := false, apart := false, laid := [("math/bits.deBruijn32tab", laid_math_bits_deBruijn32tab), ("math/bits.deBruijn64tab", laid_math_bits_deBruijn64tab), ("internal/strconv.uint64pow10", laid_internal_strconv_uint64pow10), ("unicode/utf8.acceptRanges", laid_unicode_utf8_acceptRanges), ("unicode/utf8.first", laid_unicode_utf8_first)] }
def GroupsNamesSaid : Prop := groupsNamesRow.holds Tryd.pinned (OpenSpec.ofChange groupsNamesSpec)

/-- ITS FALSE NEIGHBOUR: 'it returns false'. Refute it at one input. -/
def groupsNamesWrong : ChangeSpec := { name := "groupsNames", fn := fun _ => fun
  | [] => { results := [.lit (.bool false)], args := [] }
  | _ => none }
def GroupsNamesWrongFalsely : Prop := groupsNamesRow.holds Tryd.pinned (OpenSpec.ofChange groupsNamesWrong)

/-- 'glacislaw17.GroupsKeys': WHATEVER THE INPUT: true; the input reads as it did. -/
def groupsKeysSpec : ChangeSpec := { name := "groupsKeys", fn := fun _ => fun
  | [d1, d2, d3] => { results := [.lit (.bool true)], args := [d1, d2, d3] }
  | _ => none }
def groupsKeysRow : OpenClaim := { program := "ythmgcnaoionmoaadoor", sum := "08e1e7cd206136e5a7a35847051d3d536c92e598686fbd5f99b42c085a668dc1", func := "glacis/glacislaw17.GroupsKeys", spec := "groupsKeys", inPlace := ["sync/atomic.AddInt64", "internal/bytealg.IndexByteString", "internal/bytealg.IndexString", "internal/bytealg.CountString", "internal/abi.NoEscape", "internal/bytealg.MakeNoZero"], unfollowed := true, recurses := true, named := ["internal/bytealg.MaxLen", "unicode/utf8.first", "unicode/utf8.acceptRanges", "internal/strconv.uint64pow10", "math/bits.deBruijn32tab", "math/bits.deBruijn64tab"], plainKeys := false, apart := false, laid := [("math/bits.deBruijn32tab", laid_math_bits_deBruijn32tab), ("math/bits.deBruijn64tab", laid_math_bits_deBruijn64tab), ("internal/strconv.uint64pow10", laid_internal_strconv_uint64pow10), ("unicode/utf8.acceptRanges", laid_unicode_utf8_acceptRanges), ("unicode/utf8.first", laid_unicode_utf8_first)] }
def GroupsKeysSaid : Prop := groupsKeysRow.holds Tryd.pinned (OpenSpec.ofChange groupsKeysSpec)

/-- ITS FALSE NEIGHBOUR: 'it returns false'. Refute it at one input. -/
def groupsKeysWrong : ChangeSpec := { name := "groupsKeys", fn := fun _ => fun
  | [d1, d2, d3] => { results := [.lit (.bool false)], args := [d1, d2, d3] }
  | _ => none }
def GroupsKeysWrongFalsely : Prop := groupsKeysRow.holds Tryd.pinned (OpenSpec.ofChange groupsKeysWrong)

/-- 'glacislaw17.GroupsOrigins': WHATEVER THE INPUT: true; the input reads as it did. -/
def groupsOriginsSpec : ChangeSpec := { name := "groupsOrigins", fn := fun _ => fun
  | [d1, d2, d3] => { results := [.lit (.bool true)], args := [d1, d2, d3] }
  | _ => none }
def groupsOriginsRow : OpenClaim := { program := "ythmgcnaoionmoaadoor", sum := "08e1e7cd206136e5a7a35847051d3d536c92e598686fbd5f99b42c085a668dc1", func := "glacis/glacislaw17.GroupsOrigins", spec := "groupsOrigins", inPlace := ["sync/atomic.AddInt64", "internal/bytealg.IndexByteString", "internal/bytealg.IndexString", "internal/bytealg.CountString", "internal/abi.NoEscape", "internal/bytealg.MakeNoZero"], unfollowed := true, recurses := true, named := ["internal/bytealg.MaxLen", "unicode/utf8.first", "unicode/utf8.acceptRanges", "internal/strconv.uint64pow10", "math/bits.deBruijn32tab", "math/bits.deBruijn64tab"], plainKeys := false, apart := false, laid := [("math/bits.deBruijn32tab", laid_math_bits_deBruijn32tab), ("math/bits.deBruijn64tab", laid_math_bits_deBruijn64tab), ("internal/strconv.uint64pow10", laid_internal_strconv_uint64pow10), ("unicode/utf8.acceptRanges", laid_unicode_utf8_acceptRanges), ("unicode/utf8.first", laid_unicode_utf8_first)] }
def GroupsOriginsSaid : Prop := groupsOriginsRow.holds Tryd.pinned (OpenSpec.ofChange groupsOriginsSpec)

/-- ITS FALSE NEIGHBOUR: 'it returns false'. Refute it at one input. -/
def groupsOriginsWrong : ChangeSpec := { name := "groupsOrigins", fn := fun _ => fun
  | [d1, d2, d3] => { results := [.lit (.bool false)], args := [d1, d2, d3] }
  | _ => none }
def GroupsOriginsWrongFalsely : Prop := groupsOriginsRow.holds Tryd.pinned (OpenSpec.ofChange groupsOriginsWrong)

/- THE SECOND FORM. 'bulk': how many values and letters a reading holds, each counted each time it is reached (what is shared counts as often as it is met; a slice's spare places count too). A statement '..UptoSaid' is the law's where the arguments, and the package variables that the reading takes, are together of bulk at most 1048576: NARROWER than '..Said'. Prove '..Said' where nothing that the law and all that it calls make is longer than what came in: it says more and counts as full. Else prove '..UptoSaid'. A law counts once. -/
mutual
def uptoBulk {H : Type} : DataW H → Nat
  | .lit (.string bytes) => bytes.length + 1
  | .lit _ => 1
  | .nil => 1
  | .ptr d => uptoBulk d + 1
  | .slice elems spare => uptoBulkAll elems + uptoBulkAll spare + 1
  | .agg parts => uptoBulkAll parts + 1
  | .iface _ d => uptoBulk d + 1
  | .map entries => uptoBulkEntries entries + 1
  | .held _ => 1
def uptoBulkAll {H : Type} : List (DataW H) → Nat
  | [] => 0
  | d :: r => uptoBulk d + uptoBulkAll r
def uptoBulkEntries {H : Type} : List (Lit × DataW H) → Nat
  | [] => 0
  | x :: r => uptoBulkEntry x + uptoBulkEntries r
def uptoBulkEntry {H : Type} : Lit × DataW H → Nat
  | (.string bytes, d) => bytes.length + uptoBulk d + 1
  | (_, d) => uptoBulk d + 1
 end
def uptoSmall : (H : Type) → List (DataW H) → Bool := fun _ ds => decide (uptoBulkAll ds ≤ 1048576)
def OpenSpec.upto (s : _root_.Go.ChangeSpec) : _root_.Go.OpenSpec := { _root_.Go.OpenSpec.ofChange s with cond := some uptoSmall }

/-- 'glacislaw03.UrlpNames', WHERE WHAT IT READS IS OF BULK AT MOST 1048576: true; the input reads as it did. -/
def urlpNamesUptoRow : OpenClaim := { program := "ythmgcnaoionmoaadoor", sum := "08e1e7cd206136e5a7a35847051d3d536c92e598686fbd5f99b42c085a668dc1", func := "glacis/glacislaw03.UrlpNames", spec := "urlpNames", inPlace := ["internal/bytealg.IndexByteString", "internal/bytealg.IndexString", "internal/bytealg.CountString", "internal/abi.NoEscape", "internal/bytealg.MakeNoZero"], unfollowed := true, recurses := true, named := ["internal/bytealg.MaxLen", "unicode/utf8.first", "unicode/utf8.acceptRanges", "internal/strconv.uint64pow10", "math/bits.deBruijn32tab", "math/bits.deBruijn64tab"], plainKeys := false, apart := false, laid := [("math/bits.deBruijn32tab", laid_math_bits_deBruijn32tab), ("math/bits.deBruijn64tab", laid_math_bits_deBruijn64tab), ("internal/strconv.uint64pow10", laid_internal_strconv_uint64pow10), ("unicode/utf8.acceptRanges", laid_unicode_utf8_acceptRanges), ("unicode/utf8.first", laid_unicode_utf8_first)], narrowed := true }
def UrlpNamesUptoSaid : Prop := urlpNamesUptoRow.holds Tryd.pinned (OpenSpec.upto urlpNamesSpec)

/-- 'glacislaw03.UrlpReads', WHERE WHAT IT READS IS OF BULK AT MOST 1048576: true; the input reads as it did. -/
def urlpReadsUptoRow : OpenClaim := { program := "ythmgcnaoionmoaadoor", sum := "08e1e7cd206136e5a7a35847051d3d536c92e598686fbd5f99b42c085a668dc1", func := "glacis/glacislaw03.UrlpReads", spec := "urlpReads", inPlace := ["internal/bytealg.IndexByteString", "internal/bytealg.IndexString", "internal/bytealg.CountString", "internal/abi.NoEscape", "internal/bytealg.MakeNoZero"], unfollowed := true, recurses := true, named := ["internal/bytealg.MaxLen", "unicode/utf8.first", "unicode/utf8.acceptRanges", "internal/strconv.uint64pow10", "math/bits.deBruijn32tab", "math/bits.deBruijn64tab"], plainKeys := false, apart := false, laid := [("math/bits.deBruijn32tab", laid_math_bits_deBruijn32tab), ("math/bits.deBruijn64tab", laid_math_bits_deBruijn64tab), ("internal/strconv.uint64pow10", laid_internal_strconv_uint64pow10), ("unicode/utf8.acceptRanges", laid_unicode_utf8_acceptRanges), ("unicode/utf8.first", laid_unicode_utf8_first)], narrowed := true }
def UrlpReadsUptoSaid : Prop := urlpReadsUptoRow.holds Tryd.pinned (OpenSpec.upto urlpReadsSpec)

/-- 'glacislaw03.UrlpTells', WHERE WHAT IT READS IS OF BULK AT MOST 1048576: true; the input reads as it did. -/
def urlpTellsUptoRow : OpenClaim := { program := "ythmgcnaoionmoaadoor", sum := "08e1e7cd206136e5a7a35847051d3d536c92e598686fbd5f99b42c085a668dc1", func := "glacis/glacislaw03.UrlpTells", spec := "urlpTells", inPlace := ["internal/bytealg.IndexByteString", "internal/bytealg.IndexString", "internal/bytealg.CountString", "internal/abi.NoEscape", "internal/bytealg.MakeNoZero"], unfollowed := true, recurses := true, named := ["internal/bytealg.MaxLen", "unicode/utf8.first", "unicode/utf8.acceptRanges", "internal/strconv.uint64pow10", "math/bits.deBruijn32tab", "math/bits.deBruijn64tab"], plainKeys := false, apart := false, laid := [("math/bits.deBruijn32tab", laid_math_bits_deBruijn32tab), ("math/bits.deBruijn64tab", laid_math_bits_deBruijn64tab), ("internal/strconv.uint64pow10", laid_internal_strconv_uint64pow10), ("unicode/utf8.acceptRanges", laid_unicode_utf8_acceptRanges), ("unicode/utf8.first", laid_unicode_utf8_first)], narrowed := true }
def UrlpTellsUptoSaid : Prop := urlpTellsUptoRow.holds Tryd.pinned (OpenSpec.upto urlpTellsSpec)

/-- 'glacislaw03.UrlpPaths', WHERE WHAT IT READS IS OF BULK AT MOST 1048576: true; the input reads as it did. -/
def urlpPathsUptoRow : OpenClaim := { program := "ythmgcnaoionmoaadoor", sum := "08e1e7cd206136e5a7a35847051d3d536c92e598686fbd5f99b42c085a668dc1", func := "glacis/glacislaw03.UrlpPaths", spec := "urlpPaths", inPlace := ["internal/bytealg.IndexByteString", "internal/bytealg.IndexString", "internal/bytealg.CountString", "internal/abi.NoEscape", "internal/bytealg.MakeNoZero"], unfollowed := true, recurses := true, named := ["internal/bytealg.MaxLen", "unicode/utf8.first", "unicode/utf8.acceptRanges", "internal/strconv.uint64pow10", "math/bits.deBruijn32tab", "math/bits.deBruijn64tab"], plainKeys := false, apart := false, laid := [("math/bits.deBruijn32tab", laid_math_bits_deBruijn32tab), ("math/bits.deBruijn64tab", laid_math_bits_deBruijn64tab), ("internal/strconv.uint64pow10", laid_internal_strconv_uint64pow10), ("unicode/utf8.acceptRanges", laid_unicode_utf8_acceptRanges), ("unicode/utf8.first", laid_unicode_utf8_first)], narrowed := true }
def UrlpPathsUptoSaid : Prop := urlpPathsUptoRow.holds Tryd.pinned (OpenSpec.upto urlpPathsSpec)

/-- 'glacislaw03.UrlpEnds', WHERE WHAT IT READS IS OF BULK AT MOST 1048576: true; the input reads as it did. -/
def urlpEndsUptoRow : OpenClaim := { program := "ythmgcnaoionmoaadoor", sum := "08e1e7cd206136e5a7a35847051d3d536c92e598686fbd5f99b42c085a668dc1", func := "glacis/glacislaw03.UrlpEnds", spec := "urlpEnds", inPlace := ["internal/bytealg.IndexByteString", "internal/bytealg.IndexString", "internal/bytealg.CountString", "internal/abi.NoEscape", "internal/bytealg.MakeNoZero"], unfollowed := true, recurses := true, named := ["internal/bytealg.MaxLen", "unicode/utf8.first", "unicode/utf8.acceptRanges", "internal/strconv.uint64pow10", "math/bits.deBruijn32tab", "math/bits.deBruijn64tab"], plainKeys := false, apart := false, laid := [("math/bits.deBruijn32tab", laid_math_bits_deBruijn32tab), ("math/bits.deBruijn64tab", laid_math_bits_deBruijn64tab), ("internal/strconv.uint64pow10", laid_internal_strconv_uint64pow10), ("unicode/utf8.acceptRanges", laid_unicode_utf8_acceptRanges), ("unicode/utf8.first", laid_unicode_utf8_first)], narrowed := true }
def UrlpEndsUptoSaid : Prop := urlpEndsUptoRow.holds Tryd.pinned (OpenSpec.upto urlpEndsSpec)

/-- 'glacislaw03.UrlpSchemes', WHERE WHAT IT READS IS OF BULK AT MOST 1048576: true; the input reads as it did. -/
def urlpSchemesUptoRow : OpenClaim := { program := "ythmgcnaoionmoaadoor", sum := "08e1e7cd206136e5a7a35847051d3d536c92e598686fbd5f99b42c085a668dc1", func := "glacis/glacislaw03.UrlpSchemes", spec := "urlpSchemes", inPlace := ["internal/bytealg.IndexByteString", "internal/bytealg.IndexString", "internal/bytealg.CountString", "internal/abi.NoEscape", "internal/bytealg.MakeNoZero"], unfollowed := true, recurses := true, named := ["internal/bytealg.MaxLen", "unicode/utf8.first", "unicode/utf8.acceptRanges", "internal/strconv.uint64pow10", "math/bits.deBruijn32tab", "math/bits.deBruijn64tab"], plainKeys := false, apart := false, laid := [("math/bits.deBruijn32tab", laid_math_bits_deBruijn32tab), ("math/bits.deBruijn64tab", laid_math_bits_deBruijn64tab), ("internal/strconv.uint64pow10", laid_internal_strconv_uint64pow10), ("unicode/utf8.acceptRanges", laid_unicode_utf8_acceptRanges), ("unicode/utf8.first", laid_unicode_utf8_first)], narrowed := true }
def UrlpSchemesUptoSaid : Prop := urlpSchemesUptoRow.holds Tryd.pinned (OpenSpec.upto urlpSchemesSpec)

/-- 'glacislaw03.UrlpBlobs', WHERE WHAT IT READS IS OF BULK AT MOST 1048576: true; the input reads as it did. -/
def urlpBlobsUptoRow : OpenClaim := { program := "ythmgcnaoionmoaadoor", sum := "08e1e7cd206136e5a7a35847051d3d536c92e598686fbd5f99b42c085a668dc1", func := "glacis/glacislaw03.UrlpBlobs", spec := "urlpBlobs", inPlace := ["internal/bytealg.IndexByteString", "internal/bytealg.IndexString", "internal/bytealg.CountString", "internal/abi.NoEscape", "internal/bytealg.MakeNoZero"], unfollowed := true, recurses := true, named := ["internal/bytealg.MaxLen", "unicode/utf8.first", "unicode/utf8.acceptRanges", "internal/strconv.uint64pow10", "math/bits.deBruijn32tab", "math/bits.deBruijn64tab"], plainKeys := false, apart := false, laid := [("math/bits.deBruijn32tab", laid_math_bits_deBruijn32tab), ("math/bits.deBruijn64tab", laid_math_bits_deBruijn64tab), ("internal/strconv.uint64pow10", laid_internal_strconv_uint64pow10), ("unicode/utf8.acceptRanges", laid_unicode_utf8_acceptRanges), ("unicode/utf8.first", laid_unicode_utf8_first)], narrowed := true }
def UrlpBlobsUptoSaid : Prop := urlpBlobsUptoRow.holds Tryd.pinned (OpenSpec.upto urlpBlobsSpec)

/-- 'glacislaw03.UrlpQueries', WHERE WHAT IT READS IS OF BULK AT MOST 1048576: true; the input reads as it did. -/
def urlpQueriesUptoRow : OpenClaim := { program := "ythmgcnaoionmoaadoor", sum := "08e1e7cd206136e5a7a35847051d3d536c92e598686fbd5f99b42c085a668dc1", func := "glacis/glacislaw03.UrlpQueries", spec := "urlpQueries", inPlace := ["internal/bytealg.IndexByteString", "internal/bytealg.IndexString", "internal/bytealg.CountString", "internal/abi.NoEscape", "internal/bytealg.MakeNoZero"], unfollowed := true, recurses := true, named := ["internal/bytealg.MaxLen", "unicode/utf8.first", "unicode/utf8.acceptRanges", "internal/strconv.uint64pow10", "math/bits.deBruijn32tab", "math/bits.deBruijn64tab"], plainKeys := false, apart := false, laid := [("math/bits.deBruijn32tab", laid_math_bits_deBruijn32tab), ("math/bits.deBruijn64tab", laid_math_bits_deBruijn64tab), ("internal/strconv.uint64pow10", laid_internal_strconv_uint64pow10), ("unicode/utf8.acceptRanges", laid_unicode_utf8_acceptRanges), ("unicode/utf8.first", laid_unicode_utf8_first)], narrowed := true }
def UrlpQueriesUptoSaid : Prop := urlpQueriesUptoRow.holds Tryd.pinned (OpenSpec.upto urlpQueriesSpec)

/-- 'glacislaw04.OriginHolds', WHERE WHAT IT READS IS OF BULK AT MOST 1048576: true; the input reads as it did. -/
def originHoldsUptoRow : OpenClaim := { program := "ythmgcnaoionmoaadoor", sum := "08e1e7cd206136e5a7a35847051d3d536c92e598686fbd5f99b42c085a668dc1", func := "glacis/glacislaw04.OriginHolds", spec := "originHolds", inPlace := ["internal/bytealg.IndexByteString", "internal/bytealg.IndexString", "internal/bytealg.CountString", "internal/abi.NoEscape", "internal/bytealg.MakeNoZero"], unfollowed := true, recurses := true, named := ["internal/bytealg.MaxLen", "unicode/utf8.first", "unicode/utf8.acceptRanges", "internal/strconv.uint64pow10", "math/bits.deBruijn32tab", "math/bits.deBruijn64tab"], plainKeys := false, apart := false, laid := [("math/bits.deBruijn32tab", laid_math_bits_deBruijn32tab), ("math/bits.deBruijn64tab", laid_math_bits_deBruijn64tab), ("internal/strconv.uint64pow10", laid_internal_strconv_uint64pow10), ("unicode/utf8.acceptRanges", laid_unicode_utf8_acceptRanges), ("unicode/utf8.first", laid_unicode_utf8_first)], narrowed := true }
def OriginHoldsUptoSaid : Prop := originHoldsUptoRow.holds Tryd.pinned (OpenSpec.upto originHoldsSpec)

/-- 'glacislaw04.OriginClasses', WHERE WHAT IT READS IS OF BULK AT MOST 1048576: true; the input reads as it did. -/
def originClassesUptoRow : OpenClaim := { program := "ythmgcnaoionmoaadoor", sum := "08e1e7cd206136e5a7a35847051d3d536c92e598686fbd5f99b42c085a668dc1", func := "glacis/glacislaw04.OriginClasses", spec := "originClasses", inPlace := ["internal/bytealg.IndexByteString", "internal/bytealg.IndexString", "internal/bytealg.CountString", "internal/abi.NoEscape", "internal/bytealg.MakeNoZero"], unfollowed := true, recurses := true, named := ["internal/bytealg.MaxLen", "unicode/utf8.first", "unicode/utf8.acceptRanges", "internal/strconv.uint64pow10", "math/bits.deBruijn32tab", "math/bits.deBruijn64tab"], plainKeys := false, apart := false, laid := [("math/bits.deBruijn32tab", laid_math_bits_deBruijn32tab), ("math/bits.deBruijn64tab", laid_math_bits_deBruijn64tab), ("internal/strconv.uint64pow10", laid_internal_strconv_uint64pow10), ("unicode/utf8.acceptRanges", laid_unicode_utf8_acceptRanges), ("unicode/utf8.first", laid_unicode_utf8_first)], narrowed := true }
def OriginClassesUptoSaid : Prop := originClassesUptoRow.holds Tryd.pinned (OpenSpec.upto originClassesSpec)

/-- 'glacislaw04.OriginTexts', WHERE WHAT IT READS IS OF BULK AT MOST 1048576: true; the input reads as it did. -/
def originTextsUptoRow : OpenClaim := { program := "ythmgcnaoionmoaadoor", sum := "08e1e7cd206136e5a7a35847051d3d536c92e598686fbd5f99b42c085a668dc1", func := "glacis/glacislaw04.OriginTexts", spec := "originTexts", inPlace := ["internal/bytealg.IndexByteString", "internal/bytealg.IndexString", "internal/bytealg.CountString", "internal/abi.NoEscape", "internal/bytealg.MakeNoZero"], unfollowed := true, recurses := true, named := ["internal/bytealg.MaxLen", "unicode/utf8.first", "unicode/utf8.acceptRanges", "internal/strconv.uint64pow10", "math/bits.deBruijn32tab", "math/bits.deBruijn64tab"], plainKeys := false, apart := false, laid := [("math/bits.deBruijn32tab", laid_math_bits_deBruijn32tab), ("math/bits.deBruijn64tab", laid_math_bits_deBruijn64tab), ("internal/strconv.uint64pow10", laid_internal_strconv_uint64pow10), ("unicode/utf8.acceptRanges", laid_unicode_utf8_acceptRanges), ("unicode/utf8.first", laid_unicode_utf8_first)], narrowed := true }
def OriginTextsUptoSaid : Prop := originTextsUptoRow.holds Tryd.pinned (OpenSpec.upto originTextsSpec)

/-- 'glacislaw04.OriginPaths', WHERE WHAT IT READS IS OF BULK AT MOST 1048576: true; the input reads as it did. -/
def originPathsUptoRow : OpenClaim := { program := "ythmgcnaoionmoaadoor", sum := "08e1e7cd206136e5a7a35847051d3d536c92e598686fbd5f99b42c085a668dc1", func := "glacis/glacislaw04.OriginPaths", spec := "originPaths", inPlace := ["internal/bytealg.IndexByteString", "internal/bytealg.IndexString", "internal/bytealg.CountString", "internal/abi.NoEscape", "internal/bytealg.MakeNoZero"], unfollowed := true, recurses := true, named := ["internal/bytealg.MaxLen", "unicode/utf8.first", "unicode/utf8.acceptRanges", "internal/strconv.uint64pow10", "math/bits.deBruijn32tab", "math/bits.deBruijn64tab"], plainKeys := false, apart := false, laid := [("math/bits.deBruijn32tab", laid_math_bits_deBruijn32tab), ("math/bits.deBruijn64tab", laid_math_bits_deBruijn64tab), ("internal/strconv.uint64pow10", laid_internal_strconv_uint64pow10), ("unicode/utf8.acceptRanges", laid_unicode_utf8_acceptRanges), ("unicode/utf8.first", laid_unicode_utf8_first)], narrowed := true }
def OriginPathsUptoSaid : Prop := originPathsUptoRow.holds Tryd.pinned (OpenSpec.upto originPathsSpec)

/-- 'glacislaw04.OriginBlobs', WHERE WHAT IT READS IS OF BULK AT MOST 1048576: true; the input reads as it did. -/
def originBlobsUptoRow : OpenClaim := { program := "ythmgcnaoionmoaadoor", sum := "08e1e7cd206136e5a7a35847051d3d536c92e598686fbd5f99b42c085a668dc1", func := "glacis/glacislaw04.OriginBlobs", spec := "originBlobs", inPlace := ["internal/bytealg.IndexByteString", "internal/bytealg.IndexString", "internal/bytealg.CountString", "internal/abi.NoEscape", "internal/bytealg.MakeNoZero"], unfollowed := true, recurses := true, named := ["internal/bytealg.MaxLen", "unicode/utf8.first", "unicode/utf8.acceptRanges", "internal/strconv.uint64pow10", "math/bits.deBruijn32tab", "math/bits.deBruijn64tab"], plainKeys := false, apart := false, laid := [("math/bits.deBruijn32tab", laid_math_bits_deBruijn32tab), ("math/bits.deBruijn64tab", laid_math_bits_deBruijn64tab), ("internal/strconv.uint64pow10", laid_internal_strconv_uint64pow10), ("unicode/utf8.acceptRanges", laid_unicode_utf8_acceptRanges), ("unicode/utf8.first", laid_unicode_utf8_first)], narrowed := true }
def OriginBlobsUptoSaid : Prop := originBlobsUptoRow.holds Tryd.pinned (OpenSpec.upto originBlobsSpec)

/-- 'glacislaw17.GroupsNames', WHERE WHAT IT READS IS OF BULK AT MOST 1048576: true; the input reads as it did. -/
def groupsNamesUptoRow : OpenClaim := { program := "ythmgcnaoionmoaadoor", sum := "08e1e7cd206136e5a7a35847051d3d536c92e598686fbd5f99b42c085a668dc1", func := "glacis/glacislaw17.GroupsNames", spec := "groupsNames", inPlace := ["sync/atomic.AddInt64", "internal/bytealg.IndexByteString", "internal/bytealg.IndexString", "internal/bytealg.CountString", "internal/abi.NoEscape", "internal/bytealg.MakeNoZero"], unfollowed := true, recurses := true, named := ["internal/bytealg.MaxLen", "unicode/utf8.first", "unicode/utf8.acceptRanges", "internal/strconv.uint64pow10", "math/bits.deBruijn32tab", "math/bits.deBruijn64tab"], plainKeys := false, apart := false, laid := [("math/bits.deBruijn32tab", laid_math_bits_deBruijn32tab), ("math/bits.deBruijn64tab", laid_math_bits_deBruijn64tab), ("internal/strconv.uint64pow10", laid_internal_strconv_uint64pow10), ("unicode/utf8.acceptRanges", laid_unicode_utf8_acceptRanges), ("unicode/utf8.first", laid_unicode_utf8_first)], narrowed := true }
def GroupsNamesUptoSaid : Prop := groupsNamesUptoRow.holds Tryd.pinned (OpenSpec.upto groupsNamesSpec)

/-- 'glacislaw17.GroupsKeys', WHERE WHAT IT READS IS OF BULK AT MOST 1048576: true; the input reads as it did. -/
def groupsKeysUptoRow : OpenClaim := { program := "ythmgcnaoionmoaadoor", sum := "08e1e7cd206136e5a7a35847051d3d536c92e598686fbd5f99b42c085a668dc1", func := "glacis/glacislaw17.GroupsKeys", spec := "groupsKeys", inPlace := ["sync/atomic.AddInt64", "internal/bytealg.IndexByteString", "internal/bytealg.IndexString", "internal/bytealg.CountString", "internal/abi.NoEscape", "internal/bytealg.MakeNoZero"], unfollowed := true, recurses := true, named := ["internal/bytealg.MaxLen", "unicode/utf8.first", "unicode/utf8.acceptRanges", "internal/strconv.uint64pow10", "math/bits.deBruijn32tab", "math/bits.deBruijn64tab"], plainKeys := false, apart := false, laid := [("math/bits.deBruijn32tab", laid_math_bits_deBruijn32tab), ("math/bits.deBruijn64tab", laid_math_bits_deBruijn64tab), ("internal/strconv.uint64pow10", laid_internal_strconv_uint64pow10), ("unicode/utf8.acceptRanges", laid_unicode_utf8_acceptRanges), ("unicode/utf8.first", laid_unicode_utf8_first)], narrowed := true }
def GroupsKeysUptoSaid : Prop := groupsKeysUptoRow.holds Tryd.pinned (OpenSpec.upto groupsKeysSpec)

/-- 'glacislaw17.GroupsOrigins', WHERE WHAT IT READS IS OF BULK AT MOST 1048576: true; the input reads as it did. -/
def groupsOriginsUptoRow : OpenClaim := { program := "ythmgcnaoionmoaadoor", sum := "08e1e7cd206136e5a7a35847051d3d536c92e598686fbd5f99b42c085a668dc1", func := "glacis/glacislaw17.GroupsOrigins", spec := "groupsOrigins", inPlace := ["sync/atomic.AddInt64", "internal/bytealg.IndexByteString", "internal/bytealg.IndexString", "internal/bytealg.CountString", "internal/abi.NoEscape", "internal/bytealg.MakeNoZero"], unfollowed := true, recurses := true, named := ["internal/bytealg.MaxLen", "unicode/utf8.first", "unicode/utf8.acceptRanges", "internal/strconv.uint64pow10", "math/bits.deBruijn32tab", "math/bits.deBruijn64tab"], plainKeys := false, apart := false, laid := [("math/bits.deBruijn32tab", laid_math_bits_deBruijn32tab), ("math/bits.deBruijn64tab", laid_math_bits_deBruijn64tab), ("internal/strconv.uint64pow10", laid_internal_strconv_uint64pow10), ("unicode/utf8.acceptRanges", laid_unicode_utf8_acceptRanges), ("unicode/utf8.first", laid_unicode_utf8_first)], narrowed := true }
def GroupsOriginsUptoSaid : Prop := groupsOriginsUptoRow.holds Tryd.pinned (OpenSpec.upto groupsOriginsSpec)

end Rows
end Go.Proofs.YthmgcnaoionmoaaDoor
