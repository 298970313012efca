/-
  NARROWER THAN 'FOR EVERY INPUT', by the rows' own cells (each row's printed sentence says how): OriginAll: laid · OriginBack: laid · OriginCases: laid · OriginPorts: laid · OriginLabels: laid · OriginApart: laid · TargetAll: laid · TargetShows: laid · TargetBack: laid · TargetCleans: laid · TargetSegments: laid · TargetFragments: laid · TargetUps: laid · TargetOrigins: laid.
  DERIVED. THE GIVEN ROWS OF THIS SEAT. 14 by the template 'for every input the law returns true; each argument reads behind the call as it read before'; 0 by the template 'total and deterministic' (their statements: YtbfbidifodcedaaDoorTotals.lean).
  GIVEN WITH THE SEED: the statements are not yours to turn. If you find one false, say at which input.
  Laid BY PROGRAM, IN A SANDBOX (cutbox-rows.mjs): the forced cells as the released guide's own fill.sh prints them over the translation 2f0a00c38215ec9b… (all of the seat's roots in one cut). By AI agents, Wed Nov 11 2026. No macro, syntax, notation, axiom, sorry.
-/
import Derived.Test.YtbfbidifodcedaaDoorChecked
import GoSem.PinnedTables
import GoSem.Claim
import GoSem.ClaimJoined
import GoSem.ClaimMapViews
import Derived.JoinedTies
import Derived.KernelRfl
namespace Go.Proofs.YtbfbidifodcedaaDoor
/- THE CELL 'sum', in the pinned program and in every row, IS THE sha256 OF THE DUMP (.gsa) THAT YtbfbidifodcedaaDoorProg.lean LOADS. Nothing in Lean hashes anything: it is a label: what it is worth is what the hold of that sum in a sandbox is worth. -/
noncomputable def Tryd.pinned : Pinned := { name := "ytbfbidifodcedaadoor", sum := "2f0a00c38215ec9becd87e0229f73983a8fe00a3b85f7279b39e00f4765f0d02", checked := Tryd.checked }
namespace Rows
def none {H : Type} : Left H := { results := [], args := [] }

/- WHAT THE LISTED PACKAGE-LEVEL VARIABLES READ AS WHEN THE CALL BEGINS. Each datum BY PROGRAM (the guide's laid-datum.mjs) off the statement by which the dump's own 'gosem.cut.vars' lays the variable. In a bare row this is a premise. The card (YtbfbidifodcedaaDoorCards.lean) ties it to the program's text. -/
def laid_math_bits_deBruijn32tab {H : Type} : DataW H := .agg [.lit (.int .u8 0), .lit (.int .u8 1), .lit (.int .u8 28), .lit (.int .u8 2), .lit (.int .u8 29), .lit (.int .u8 14), .lit (.int .u8 24), .lit (.int .u8 3), .lit (.int .u8 30), .lit (.int .u8 22), .lit (.int .u8 20), .lit (.int .u8 15), .lit (.int .u8 25), .lit (.int .u8 17), .lit (.int .u8 4), .lit (.int .u8 8), .lit (.int .u8 31), .lit (.int .u8 27), .lit (.int .u8 13), .lit (.int .u8 23), .lit (.int .u8 21), .lit (.int .u8 19), .lit (.int .u8 16), .lit (.int .u8 7), .lit (.int .u8 26), .lit (.int .u8 12), .lit (.int .u8 18), .lit (.int .u8 6), .lit (.int .u8 11), .lit (.int .u8 5), .lit (.int .u8 10), .lit (.int .u8 9)]
def laid_math_bits_deBruijn64tab {H : Type} : DataW H := .agg [.lit (.int .u8 0), .lit (.int .u8 1), .lit (.int .u8 56), .lit (.int .u8 2), .lit (.int .u8 57), .lit (.int .u8 49), .lit (.int .u8 28), .lit (.int .u8 3), .lit (.int .u8 61), .lit (.int .u8 58), .lit (.int .u8 42), .lit (.int .u8 50), .lit (.int .u8 38), .lit (.int .u8 29), .lit (.int .u8 17), .lit (.int .u8 4), .lit (.int .u8 62), .lit (.int .u8 47), .lit (.int .u8 59), .lit (.int .u8 36), .lit (.int .u8 45), .lit (.int .u8 43), .lit (.int .u8 51), .lit (.int .u8 22), .lit (.int .u8 53), .lit (.int .u8 39), .lit (.int .u8 33), .lit (.int .u8 30), .lit (.int .u8 24), .lit (.int .u8 18), .lit (.int .u8 12), .lit (.int .u8 5), .lit (.int .u8 63), .lit (.int .u8 55), .lit (.int .u8 48), .lit (.int .u8 27), .lit (.int .u8 60), .lit (.int .u8 41), .lit (.int .u8 37), .lit (.int .u8 16), .lit (.int .u8 46), .lit (.int .u8 35), .lit (.int .u8 44), .lit (.int .u8 21), .lit (.int .u8 52), .lit (.int .u8 32), .lit (.int .u8 23), .lit (.int .u8 11), .lit (.int .u8 54), .lit (.int .u8 26), .lit (.int .u8 40), .lit (.int .u8 15), .lit (.int .u8 34), .lit (.int .u8 20), .lit (.int .u8 31), .lit (.int .u8 10), .lit (.int .u8 25), .lit (.int .u8 14), .lit (.int .u8 19), .lit (.int .u8 9), .lit (.int .u8 13), .lit (.int .u8 8), .lit (.int .u8 7), .lit (.int .u8 6)]
def laid_internal_strconv_uint64pow10 {H : Type} : DataW H := .agg [.lit (.int .u64 1), .lit (.int .u64 10), .lit (.int .u64 100), .lit (.int .u64 1000), .lit (.int .u64 10000), .lit (.int .u64 100000), .lit (.int .u64 1000000), .lit (.int .u64 10000000), .lit (.int .u64 100000000), .lit (.int .u64 1000000000), .lit (.int .u64 10000000000), .lit (.int .u64 100000000000), .lit (.int .u64 1000000000000), .lit (.int .u64 10000000000000), .lit (.int .u64 100000000000000), .lit (.int .u64 1000000000000000), .lit (.int .u64 10000000000000000), .lit (.int .u64 100000000000000000), .lit (.int .u64 1000000000000000000), .lit (.int .u64 10000000000000000000)]
def laid_unicode_utf8_acceptRanges {H : Type} : DataW H := .agg [.agg [.lit (.int .u8 128), .lit (.int .u8 191)], .agg [.lit (.int .u8 160), .lit (.int .u8 191)], .agg [.lit (.int .u8 128), .lit (.int .u8 159)], .agg [.lit (.int .u8 144), .lit (.int .u8 191)], .agg [.lit (.int .u8 128), .lit (.int .u8 143)], .agg [.lit (.int .u8 0), .lit (.int .u8 0)], .agg [.lit (.int .u8 0), .lit (.int .u8 0)], .agg [.lit (.int .u8 0), .lit (.int .u8 0)], .agg [.lit (.int .u8 0), .lit (.int .u8 0)], .agg [.lit (.int .u8 0), .lit (.int .u8 0)], .agg [.lit (.int .u8 0), .lit (.int .u8 0)], .agg [.lit (.int .u8 0), .lit (.int .u8 0)], .agg [.lit (.int .u8 0), .lit (.int .u8 0)], .agg [.lit (.int .u8 0), .lit (.int .u8 0)], .agg [.lit (.int .u8 0), .lit (.int .u8 0)], .agg [.lit (.int .u8 0), .lit (.int .u8 0)]]
/-- One of Go's own tables, pinned by name: the form's constant. -/
def laid_unicode_utf8_first : DataW Unit := Go.Pinned.utf8First

/-- 'lockkeeperlaw3.OriginAll': WHATEVER THE INPUT: true; the input reads as it did. -/
def originAllSpec : ChangeSpec := { name := "originAll", fn := fun _ => fun
  | [d1, d2] => { results := [.lit (.bool true)], args := [d1, d2] }
  | _ => none }
def originAllRow : OpenClaim := { program := "ytbfbidifodcedaadoor", sum := "2f0a00c38215ec9becd87e0229f73983a8fe00a3b85f7279b39e00f4765f0d02", func := "lockkeeper/lockkeeperlaw3.OriginAll", spec := "originAll", inPlace := ["internal/bytealg.IndexByteString", "internal/bytealg.IndexString", "internal/bytealg.CountString"], named := ["internal/bytealg.MaxLen", "unicode/utf8.first", "unicode/utf8.acceptRanges", "internal/strconv.uint64pow10", "math/bits.deBruijn32tab", "math/bits.deBruijn64tab"], apart := false, laid := [("math/bits.deBruijn32tab", laid_math_bits_deBruijn32tab), ("math/bits.deBruijn64tab", laid_math_bits_deBruijn64tab), ("internal/strconv.uint64pow10", laid_internal_strconv_uint64pow10), ("unicode/utf8.acceptRanges", laid_unicode_utf8_acceptRanges), ("unicode/utf8.first", laid_unicode_utf8_first)] }
def OriginAllSaid : Prop := originAllRow.holds Tryd.pinned (OpenSpec.ofChange originAllSpec)

/-- ITS FALSE NEIGHBOUR: 'it returns false'. Refute it at one input. -/
def originAllWrong : ChangeSpec := { name := "originAll", fn := fun _ => fun
  | [d1, d2] => { results := [.lit (.bool false)], args := [d1, d2] }
  | _ => none }
def OriginAllWrongFalsely : Prop := originAllRow.holds Tryd.pinned (OpenSpec.ofChange originAllWrong)

/-- 'lockkeeperlaw3.OriginBack': WHATEVER THE INPUT: true; the input reads as it did. -/
def originBackSpec : ChangeSpec := { name := "originBack", fn := fun _ => fun
  | [d] => { results := [.lit (.bool true)], args := [d] }
  | _ => none }
def originBackRow : OpenClaim := { program := "ytbfbidifodcedaadoor", sum := "2f0a00c38215ec9becd87e0229f73983a8fe00a3b85f7279b39e00f4765f0d02", func := "lockkeeper/lockkeeperlaw3.OriginBack", spec := "originBack", inPlace := ["internal/bytealg.IndexByteString", "internal/bytealg.IndexString", "internal/bytealg.CountString"], named := ["internal/bytealg.MaxLen", "unicode/utf8.first", "unicode/utf8.acceptRanges", "internal/strconv.uint64pow10", "math/bits.deBruijn32tab", "math/bits.deBruijn64tab"], apart := false, laid := [("math/bits.deBruijn32tab", laid_math_bits_deBruijn32tab), ("math/bits.deBruijn64tab", laid_math_bits_deBruijn64tab), ("internal/strconv.uint64pow10", laid_internal_strconv_uint64pow10), ("unicode/utf8.acceptRanges", laid_unicode_utf8_acceptRanges), ("unicode/utf8.first", laid_unicode_utf8_first)] }
def OriginBackSaid : Prop := originBackRow.holds Tryd.pinned (OpenSpec.ofChange originBackSpec)

/-- ITS FALSE NEIGHBOUR: 'it returns false'. Refute it at one input. -/
def originBackWrong : ChangeSpec := { name := "originBack", fn := fun _ => fun
  | [d] => { results := [.lit (.bool false)], args := [d] }
  | _ => none }
def OriginBackWrongFalsely : Prop := originBackRow.holds Tryd.pinned (OpenSpec.ofChange originBackWrong)

/-- 'lockkeeperlaw3.OriginCases': WHATEVER THE INPUT: true; the input reads as it did. -/
def originCasesSpec : ChangeSpec := { name := "originCases", fn := fun _ => fun
  | [d1, d2] => { results := [.lit (.bool true)], args := [d1, d2] }
  | _ => none }
def originCasesRow : OpenClaim := { program := "ytbfbidifodcedaadoor", sum := "2f0a00c38215ec9becd87e0229f73983a8fe00a3b85f7279b39e00f4765f0d02", func := "lockkeeper/lockkeeperlaw3.OriginCases", spec := "originCases", inPlace := ["internal/bytealg.IndexByteString", "internal/bytealg.IndexString", "internal/bytealg.CountString"], named := ["internal/bytealg.MaxLen", "unicode/utf8.first", "unicode/utf8.acceptRanges", "internal/strconv.uint64pow10", "math/bits.deBruijn32tab", "math/bits.deBruijn64tab"], apart := false, laid := [("math/bits.deBruijn32tab", laid_math_bits_deBruijn32tab), ("math/bits.deBruijn64tab", laid_math_bits_deBruijn64tab), ("internal/strconv.uint64pow10", laid_internal_strconv_uint64pow10), ("unicode/utf8.acceptRanges", laid_unicode_utf8_acceptRanges), ("unicode/utf8.first", laid_unicode_utf8_first)] }
def OriginCasesSaid : Prop := originCasesRow.holds Tryd.pinned (OpenSpec.ofChange originCasesSpec)

/-- ITS FALSE NEIGHBOUR: 'it returns false'. Refute it at one input. -/
def originCasesWrong : ChangeSpec := { name := "originCases", fn := fun _ => fun
  | [d1, d2] => { results := [.lit (.bool false)], args := [d1, d2] }
  | _ => none }
def OriginCasesWrongFalsely : Prop := originCasesRow.holds Tryd.pinned (OpenSpec.ofChange originCasesWrong)

/-- 'lockkeeperlaw3.OriginPorts': WHATEVER THE INPUT: true; the input reads as it did. -/
def originPortsSpec : ChangeSpec := { name := "originPorts", fn := fun _ => fun
  | [d1, d2, d3] => { results := [.lit (.bool true)], args := [d1, d2, d3] }
  | _ => none }
def originPortsRow : OpenClaim := { program := "ytbfbidifodcedaadoor", sum := "2f0a00c38215ec9becd87e0229f73983a8fe00a3b85f7279b39e00f4765f0d02", func := "lockkeeper/lockkeeperlaw3.OriginPorts", spec := "originPorts", inPlace := ["internal/bytealg.IndexByteString", "internal/bytealg.IndexString", "internal/bytealg.CountString"], named := ["internal/bytealg.MaxLen", "unicode/utf8.first", "unicode/utf8.acceptRanges", "internal/strconv.uint64pow10", "math/bits.deBruijn32tab", "math/bits.deBruijn64tab"], apart := false, laid := [("math/bits.deBruijn32tab", laid_math_bits_deBruijn32tab), ("math/bits.deBruijn64tab", laid_math_bits_deBruijn64tab), ("internal/strconv.uint64pow10", laid_internal_strconv_uint64pow10), ("unicode/utf8.acceptRanges", laid_unicode_utf8_acceptRanges), ("unicode/utf8.first", laid_unicode_utf8_first)] }
def OriginPortsSaid : Prop := originPortsRow.holds Tryd.pinned (OpenSpec.ofChange originPortsSpec)

/-- ITS FALSE NEIGHBOUR: 'it returns false'. Refute it at one input. -/
def originPortsWrong : ChangeSpec := { name := "originPorts", fn := fun _ => fun
  | [d1, d2, d3] => { results := [.lit (.bool false)], args := [d1, d2, d3] }
  | _ => none }
def OriginPortsWrongFalsely : Prop := originPortsRow.holds Tryd.pinned (OpenSpec.ofChange originPortsWrong)

/-- 'lockkeeperlaw3.OriginLabels': WHATEVER THE INPUT: true; the input reads as it did. -/
def originLabelsSpec : ChangeSpec := { name := "originLabels", fn := fun _ => fun
  | [d] => { results := [.lit (.bool true)], args := [d] }
  | _ => none }
def originLabelsRow : OpenClaim := { program := "ytbfbidifodcedaadoor", sum := "2f0a00c38215ec9becd87e0229f73983a8fe00a3b85f7279b39e00f4765f0d02", func := "lockkeeper/lockkeeperlaw3.OriginLabels", spec := "originLabels", inPlace := ["internal/bytealg.IndexByteString", "internal/bytealg.IndexString", "internal/bytealg.CountString"], named := ["internal/bytealg.MaxLen", "unicode/utf8.first", "unicode/utf8.acceptRanges", "internal/strconv.uint64pow10", "math/bits.deBruijn32tab", "math/bits.deBruijn64tab"], apart := false, laid := [("math/bits.deBruijn32tab", laid_math_bits_deBruijn32tab), ("math/bits.deBruijn64tab", laid_math_bits_deBruijn64tab), ("internal/strconv.uint64pow10", laid_internal_strconv_uint64pow10), ("unicode/utf8.acceptRanges", laid_unicode_utf8_acceptRanges), ("unicode/utf8.first", laid_unicode_utf8_first)] }
def OriginLabelsSaid : Prop := originLabelsRow.holds Tryd.pinned (OpenSpec.ofChange originLabelsSpec)

/-- ITS FALSE NEIGHBOUR: 'it returns false'. Refute it at one input. -/
def originLabelsWrong : ChangeSpec := { name := "originLabels", fn := fun _ => fun
  | [d] => { results := [.lit (.bool false)], args := [d] }
  | _ => none }
def OriginLabelsWrongFalsely : Prop := originLabelsRow.holds Tryd.pinned (OpenSpec.ofChange originLabelsWrong)

/-- 'lockkeeperlaw3.OriginApart': WHATEVER THE INPUT: true; the input reads as it did. -/
def originApartSpec : ChangeSpec := { name := "originApart", fn := fun _ => fun
  | [d1, d2] => { results := [.lit (.bool true)], args := [d1, d2] }
  | _ => none }
def originApartRow : OpenClaim := { program := "ytbfbidifodcedaadoor", sum := "2f0a00c38215ec9becd87e0229f73983a8fe00a3b85f7279b39e00f4765f0d02", func := "lockkeeper/lockkeeperlaw3.OriginApart", spec := "originApart", inPlace := ["internal/bytealg.CountString", "internal/bytealg.IndexByteString", "internal/bytealg.IndexString"], named := ["unicode/utf8.first", "unicode/utf8.acceptRanges", "internal/bytealg.MaxLen", "internal/strconv.uint64pow10", "math/bits.deBruijn32tab", "math/bits.deBruijn64tab"], apart := false, laid := [("math/bits.deBruijn32tab", laid_math_bits_deBruijn32tab), ("math/bits.deBruijn64tab", laid_math_bits_deBruijn64tab), ("internal/strconv.uint64pow10", laid_internal_strconv_uint64pow10), ("unicode/utf8.acceptRanges", laid_unicode_utf8_acceptRanges), ("unicode/utf8.first", laid_unicode_utf8_first)] }
def OriginApartSaid : Prop := originApartRow.holds Tryd.pinned (OpenSpec.ofChange originApartSpec)

/-- ITS FALSE NEIGHBOUR: 'it returns false'. Refute it at one input. -/
def originApartWrong : ChangeSpec := { name := "originApart", fn := fun _ => fun
  | [d1, d2] => { results := [.lit (.bool false)], args := [d1, d2] }
  | _ => none }
def OriginApartWrongFalsely : Prop := originApartRow.holds Tryd.pinned (OpenSpec.ofChange originApartWrong)

/-- 'lockkeeperlaw4.TargetAll': WHATEVER THE INPUT: true; the input reads as it did. -/
def targetAllSpec : ChangeSpec := { name := "targetAll", fn := fun _ => fun
  | [d] => { results := [.lit (.bool true)], args := [d] }
  | _ => none }
def targetAllRow : OpenClaim := { program := "ytbfbidifodcedaadoor", sum := "2f0a00c38215ec9becd87e0229f73983a8fe00a3b85f7279b39e00f4765f0d02", func := "lockkeeper/lockkeeperlaw4.TargetAll", spec := "targetAll", inPlace := ["internal/bytealg.IndexByteString", "internal/bytealg.IndexString", "internal/bytealg.CountString", "internal/abi.NoEscape", "internal/bytealg.MakeNoZero"], named := ["internal/bytealg.MaxLen", "unicode/utf8.first", "unicode/utf8.acceptRanges", "internal/strconv.uint64pow10", "math/bits.deBruijn32tab", "math/bits.deBruijn64tab"], apart := false, laid := [("math/bits.deBruijn32tab", laid_math_bits_deBruijn32tab), ("math/bits.deBruijn64tab", laid_math_bits_deBruijn64tab), ("internal/strconv.uint64pow10", laid_internal_strconv_uint64pow10), ("unicode/utf8.acceptRanges", laid_unicode_utf8_acceptRanges), ("unicode/utf8.first", laid_unicode_utf8_first)] }
def TargetAllSaid : Prop := targetAllRow.holds Tryd.pinned (OpenSpec.ofChange targetAllSpec)

/-- ITS FALSE NEIGHBOUR: 'it returns false'. Refute it at one input. -/
def targetAllWrong : ChangeSpec := { name := "targetAll", fn := fun _ => fun
  | [d] => { results := [.lit (.bool false)], args := [d] }
  | _ => none }
def TargetAllWrongFalsely : Prop := targetAllRow.holds Tryd.pinned (OpenSpec.ofChange targetAllWrong)

/-- 'lockkeeperlaw4.TargetShows': WHATEVER THE INPUT: true; the input reads as it did. -/
def targetShowsSpec : ChangeSpec := { name := "targetShows", fn := fun _ => fun
  | [d] => { results := [.lit (.bool true)], args := [d] }
  | _ => none }
def targetShowsRow : OpenClaim := { program := "ytbfbidifodcedaadoor", sum := "2f0a00c38215ec9becd87e0229f73983a8fe00a3b85f7279b39e00f4765f0d02", func := "lockkeeper/lockkeeperlaw4.TargetShows", spec := "targetShows", inPlace := ["internal/bytealg.IndexByteString", "internal/bytealg.IndexString", "internal/bytealg.CountString", "internal/abi.NoEscape", "internal/bytealg.MakeNoZero"], named := ["internal/bytealg.MaxLen", "unicode/utf8.first", "unicode/utf8.acceptRanges", "internal/strconv.uint64pow10", "math/bits.deBruijn32tab", "math/bits.deBruijn64tab"], apart := false, laid := [("math/bits.deBruijn32tab", laid_math_bits_deBruijn32tab), ("math/bits.deBruijn64tab", laid_math_bits_deBruijn64tab), ("internal/strconv.uint64pow10", laid_internal_strconv_uint64pow10), ("unicode/utf8.acceptRanges", laid_unicode_utf8_acceptRanges), ("unicode/utf8.first", laid_unicode_utf8_first)] }
def TargetShowsSaid : Prop := targetShowsRow.holds Tryd.pinned (OpenSpec.ofChange targetShowsSpec)

/-- ITS FALSE NEIGHBOUR: 'it returns false'. Refute it at one input. -/
def targetShowsWrong : ChangeSpec := { name := "targetShows", fn := fun _ => fun
  | [d] => { results := [.lit (.bool false)], args := [d] }
  | _ => none }
def TargetShowsWrongFalsely : Prop := targetShowsRow.holds Tryd.pinned (OpenSpec.ofChange targetShowsWrong)

/-- 'lockkeeperlaw4.TargetBack': WHATEVER THE INPUT: true; the input reads as it did. -/
def targetBackSpec : ChangeSpec := { name := "targetBack", fn := fun _ => fun
  | [d1, d2] => { results := [.lit (.bool true)], args := [d1, d2] }
  | _ => none }
def targetBackRow : OpenClaim := { program := "ytbfbidifodcedaadoor", sum := "2f0a00c38215ec9becd87e0229f73983a8fe00a3b85f7279b39e00f4765f0d02", func := "lockkeeper/lockkeeperlaw4.TargetBack", spec := "targetBack", inPlace := ["internal/bytealg.IndexByteString", "internal/bytealg.IndexString", "internal/bytealg.CountString", "internal/abi.NoEscape", "internal/bytealg.MakeNoZero"], named := ["internal/bytealg.MaxLen", "unicode/utf8.first", "unicode/utf8.acceptRanges", "internal/strconv.uint64pow10", "math/bits.deBruijn32tab", "math/bits.deBruijn64tab"], apart := false, laid := [("math/bits.deBruijn32tab", laid_math_bits_deBruijn32tab), ("math/bits.deBruijn64tab", laid_math_bits_deBruijn64tab), ("internal/strconv.uint64pow10", laid_internal_strconv_uint64pow10), ("unicode/utf8.acceptRanges", laid_unicode_utf8_acceptRanges), ("unicode/utf8.first", laid_unicode_utf8_first)] }
def TargetBackSaid : Prop := targetBackRow.holds Tryd.pinned (OpenSpec.ofChange targetBackSpec)

/-- ITS FALSE NEIGHBOUR: 'it returns false'. Refute it at one input. -/
def targetBackWrong : ChangeSpec := { name := "targetBack", fn := fun _ => fun
  | [d1, d2] => { results := [.lit (.bool false)], args := [d1, d2] }
  | _ => none }
def TargetBackWrongFalsely : Prop := targetBackRow.holds Tryd.pinned (OpenSpec.ofChange targetBackWrong)

/-- 'lockkeeperlaw4.TargetCleans': WHATEVER THE INPUT: true; the input reads as it did. -/
def targetCleansSpec : ChangeSpec := { name := "targetCleans", fn := fun _ => fun
  | [d] => { results := [.lit (.bool true)], args := [d] }
  | _ => none }
def targetCleansRow : OpenClaim := { program := "ytbfbidifodcedaadoor", sum := "2f0a00c38215ec9becd87e0229f73983a8fe00a3b85f7279b39e00f4765f0d02", func := "lockkeeper/lockkeeperlaw4.TargetCleans", spec := "targetCleans", inPlace := ["internal/bytealg.IndexByteString", "internal/bytealg.IndexString", "internal/bytealg.CountString", "internal/abi.NoEscape", "internal/bytealg.MakeNoZero"], named := ["internal/bytealg.MaxLen", "unicode/utf8.first", "unicode/utf8.acceptRanges", "internal/strconv.uint64pow10", "math/bits.deBruijn32tab", "math/bits.deBruijn64tab"], apart := false, laid := [("math/bits.deBruijn32tab", laid_math_bits_deBruijn32tab), ("math/bits.deBruijn64tab", laid_math_bits_deBruijn64tab), ("internal/strconv.uint64pow10", laid_internal_strconv_uint64pow10), ("unicode/utf8.acceptRanges", laid_unicode_utf8_acceptRanges), ("unicode/utf8.first", laid_unicode_utf8_first)] }
def TargetCleansSaid : Prop := targetCleansRow.holds Tryd.pinned (OpenSpec.ofChange targetCleansSpec)

/-- ITS FALSE NEIGHBOUR: 'it returns false'. Refute it at one input. -/
def targetCleansWrong : ChangeSpec := { name := "targetCleans", fn := fun _ => fun
  | [d] => { results := [.lit (.bool false)], args := [d] }
  | _ => none }
def TargetCleansWrongFalsely : Prop := targetCleansRow.holds Tryd.pinned (OpenSpec.ofChange targetCleansWrong)

/-- 'lockkeeperlaw4.TargetSegments': WHATEVER THE INPUT: true; the input reads as it did. -/
def targetSegmentsSpec : ChangeSpec := { name := "targetSegments", fn := fun _ => fun
  | [d1, d2] => { results := [.lit (.bool true)], args := [d1, d2] }
  | _ => none }
def targetSegmentsRow : OpenClaim := { program := "ytbfbidifodcedaadoor", sum := "2f0a00c38215ec9becd87e0229f73983a8fe00a3b85f7279b39e00f4765f0d02", func := "lockkeeper/lockkeeperlaw4.TargetSegments", spec := "targetSegments", inPlace := ["internal/bytealg.IndexByteString", "internal/bytealg.IndexString", "internal/bytealg.CountString", "internal/abi.NoEscape", "internal/bytealg.MakeNoZero"], named := ["internal/bytealg.MaxLen", "unicode/utf8.first", "unicode/utf8.acceptRanges", "internal/strconv.uint64pow10", "math/bits.deBruijn32tab", "math/bits.deBruijn64tab"], apart := false, laid := [("math/bits.deBruijn32tab", laid_math_bits_deBruijn32tab), ("math/bits.deBruijn64tab", laid_math_bits_deBruijn64tab), ("internal/strconv.uint64pow10", laid_internal_strconv_uint64pow10), ("unicode/utf8.acceptRanges", laid_unicode_utf8_acceptRanges), ("unicode/utf8.first", laid_unicode_utf8_first)] }
def TargetSegmentsSaid : Prop := targetSegmentsRow.holds Tryd.pinned (OpenSpec.ofChange targetSegmentsSpec)

/-- ITS FALSE NEIGHBOUR: 'it returns false'. Refute it at one input. -/
def targetSegmentsWrong : ChangeSpec := { name := "targetSegments", fn := fun _ => fun
  | [d1, d2] => { results := [.lit (.bool false)], args := [d1, d2] }
  | _ => none }
def TargetSegmentsWrongFalsely : Prop := targetSegmentsRow.holds Tryd.pinned (OpenSpec.ofChange targetSegmentsWrong)

/-- 'lockkeeperlaw4.TargetFragments': WHATEVER THE INPUT: true; the input reads as it did. -/
def targetFragmentsSpec : ChangeSpec := { name := "targetFragments", fn := fun _ => fun
  | [d1, d2] => { results := [.lit (.bool true)], args := [d1, d2] }
  | _ => none }
def targetFragmentsRow : OpenClaim := { program := "ytbfbidifodcedaadoor", sum := "2f0a00c38215ec9becd87e0229f73983a8fe00a3b85f7279b39e00f4765f0d02", func := "lockkeeper/lockkeeperlaw4.TargetFragments", spec := "targetFragments", inPlace := ["internal/bytealg.IndexByteString", "internal/bytealg.IndexString", "internal/bytealg.CountString", "internal/abi.NoEscape", "internal/bytealg.MakeNoZero"], named := ["internal/bytealg.MaxLen", "unicode/utf8.first", "unicode/utf8.acceptRanges", "internal/strconv.uint64pow10", "math/bits.deBruijn32tab", "math/bits.deBruijn64tab"], apart := false, laid := [("math/bits.deBruijn32tab", laid_math_bits_deBruijn32tab), ("math/bits.deBruijn64tab", laid_math_bits_deBruijn64tab), ("internal/strconv.uint64pow10", laid_internal_strconv_uint64pow10), ("unicode/utf8.acceptRanges", laid_unicode_utf8_acceptRanges), ("unicode/utf8.first", laid_unicode_utf8_first)] }
def TargetFragmentsSaid : Prop := targetFragmentsRow.holds Tryd.pinned (OpenSpec.ofChange targetFragmentsSpec)

/-- ITS FALSE NEIGHBOUR: 'it returns false'. Refute it at one input. -/
def targetFragmentsWrong : ChangeSpec := { name := "targetFragments", fn := fun _ => fun
  | [d1, d2] => { results := [.lit (.bool false)], args := [d1, d2] }
  | _ => none }
def TargetFragmentsWrongFalsely : Prop := targetFragmentsRow.holds Tryd.pinned (OpenSpec.ofChange targetFragmentsWrong)

/-- 'lockkeeperlaw4.TargetUps': WHATEVER THE INPUT: true; the input reads as it did. -/
def targetUpsSpec : ChangeSpec := { name := "targetUps", fn := fun _ => fun
  | [d1, d2] => { results := [.lit (.bool true)], args := [d1, d2] }
  | _ => none }
def targetUpsRow : OpenClaim := { program := "ytbfbidifodcedaadoor", sum := "2f0a00c38215ec9becd87e0229f73983a8fe00a3b85f7279b39e00f4765f0d02", func := "lockkeeper/lockkeeperlaw4.TargetUps", spec := "targetUps", inPlace := ["internal/bytealg.IndexByteString", "internal/bytealg.IndexString", "internal/bytealg.CountString", "internal/abi.NoEscape", "internal/bytealg.MakeNoZero"], named := ["internal/bytealg.MaxLen", "unicode/utf8.first", "unicode/utf8.acceptRanges", "internal/strconv.uint64pow10", "math/bits.deBruijn32tab", "math/bits.deBruijn64tab"], apart := false, laid := [("math/bits.deBruijn32tab", laid_math_bits_deBruijn32tab), ("math/bits.deBruijn64tab", laid_math_bits_deBruijn64tab), ("internal/strconv.uint64pow10", laid_internal_strconv_uint64pow10), ("unicode/utf8.acceptRanges", laid_unicode_utf8_acceptRanges), ("unicode/utf8.first", laid_unicode_utf8_first)] }
def TargetUpsSaid : Prop := targetUpsRow.holds Tryd.pinned (OpenSpec.ofChange targetUpsSpec)

/-- ITS FALSE NEIGHBOUR: 'it returns false'. Refute it at one input. -/
def targetUpsWrong : ChangeSpec := { name := "targetUps", fn := fun _ => fun
  | [d1, d2] => { results := [.lit (.bool false)], args := [d1, d2] }
  | _ => none }
def TargetUpsWrongFalsely : Prop := targetUpsRow.holds Tryd.pinned (OpenSpec.ofChange targetUpsWrong)

/-- 'lockkeeperlaw4.TargetOrigins': WHATEVER THE INPUT: true; the input reads as it did. -/
def targetOriginsSpec : ChangeSpec := { name := "targetOrigins", fn := fun _ => fun
  | [d1, d2] => { results := [.lit (.bool true)], args := [d1, d2] }
  | _ => none }
def targetOriginsRow : OpenClaim := { program := "ytbfbidifodcedaadoor", sum := "2f0a00c38215ec9becd87e0229f73983a8fe00a3b85f7279b39e00f4765f0d02", func := "lockkeeper/lockkeeperlaw4.TargetOrigins", spec := "targetOrigins", inPlace := ["internal/bytealg.IndexByteString", "internal/bytealg.IndexString", "internal/bytealg.CountString", "internal/abi.NoEscape", "internal/bytealg.MakeNoZero"], named := ["internal/bytealg.MaxLen", "unicode/utf8.first", "unicode/utf8.acceptRanges", "internal/strconv.uint64pow10", "math/bits.deBruijn32tab", "math/bits.deBruijn64tab"], apart := false, laid := [("math/bits.deBruijn32tab", laid_math_bits_deBruijn32tab), ("math/bits.deBruijn64tab", laid_math_bits_deBruijn64tab), ("internal/strconv.uint64pow10", laid_internal_strconv_uint64pow10), ("unicode/utf8.acceptRanges", laid_unicode_utf8_acceptRanges), ("unicode/utf8.first", laid_unicode_utf8_first)] }
def TargetOriginsSaid : Prop := targetOriginsRow.holds Tryd.pinned (OpenSpec.ofChange targetOriginsSpec)

/-- ITS FALSE NEIGHBOUR: 'it returns false'. Refute it at one input. -/
def targetOriginsWrong : ChangeSpec := { name := "targetOrigins", fn := fun _ => fun
  | [d1, d2] => { results := [.lit (.bool false)], args := [d1, d2] }
  | _ => none }
def TargetOriginsWrongFalsely : Prop := targetOriginsRow.holds Tryd.pinned (OpenSpec.ofChange targetOriginsWrong)

/- THE SECOND FORM. 'bulk': how many values and letters a reading holds, each counted each time it is reached (what is shared counts as often as it is met; a slice's spare places count too). A statement '..UptoSaid' is the law's where the arguments, and the package variables that the reading takes, are together of bulk at most 1048576: NARROWER than '..Said'. Prove '..Said' where nothing that the law and all that it calls make is longer than what came in: it says more and counts as full. Else prove '..UptoSaid'. A law counts once. -/
mutual
def uptoBulk {H : Type} : DataW H → Nat
  | .lit (.string bytes) => bytes.length + 1
  | .lit _ => 1
  | .nil => 1
  | .ptr d => uptoBulk d + 1
  | .slice elems spare => uptoBulkAll elems + uptoBulkAll spare + 1
  | .agg parts => uptoBulkAll parts + 1
  | .iface _ d => uptoBulk d + 1
  | .map entries => uptoBulkEntries entries + 1
  | .held _ => 1
def uptoBulkAll {H : Type} : List (DataW H) → Nat
  | [] => 0
  | d :: r => uptoBulk d + uptoBulkAll r
def uptoBulkEntries {H : Type} : List (Lit × DataW H) → Nat
  | [] => 0
  | x :: r => uptoBulkEntry x + uptoBulkEntries r
def uptoBulkEntry {H : Type} : Lit × DataW H → Nat
  | (.string bytes, d) => bytes.length + uptoBulk d + 1
  | (_, d) => uptoBulk d + 1
 end
def uptoSmall : (H : Type) → List (DataW H) → Bool := fun _ ds => decide (uptoBulkAll ds ≤ 1048576)
def OpenSpec.upto (s : _root_.Go.ChangeSpec) : _root_.Go.OpenSpec := { _root_.Go.OpenSpec.ofChange s with cond := some uptoSmall }

/-- 'lockkeeperlaw3.OriginAll', WHERE WHAT IT READS IS OF BULK AT MOST 1048576: true; the input reads as it did. -/
def originAllUptoRow : OpenClaim := { program := "ytbfbidifodcedaadoor", sum := "2f0a00c38215ec9becd87e0229f73983a8fe00a3b85f7279b39e00f4765f0d02", func := "lockkeeper/lockkeeperlaw3.OriginAll", spec := "originAll", inPlace := ["internal/bytealg.IndexByteString", "internal/bytealg.IndexString", "internal/bytealg.CountString"], named := ["internal/bytealg.MaxLen", "unicode/utf8.first", "unicode/utf8.acceptRanges", "internal/strconv.uint64pow10", "math/bits.deBruijn32tab", "math/bits.deBruijn64tab"], apart := false, laid := [("math/bits.deBruijn32tab", laid_math_bits_deBruijn32tab), ("math/bits.deBruijn64tab", laid_math_bits_deBruijn64tab), ("internal/strconv.uint64pow10", laid_internal_strconv_uint64pow10), ("unicode/utf8.acceptRanges", laid_unicode_utf8_acceptRanges), ("unicode/utf8.first", laid_unicode_utf8_first)], narrowed := true }
def OriginAllUptoSaid : Prop := originAllUptoRow.holds Tryd.pinned (OpenSpec.upto originAllSpec)

/-- 'lockkeeperlaw3.OriginBack', WHERE WHAT IT READS IS OF BULK AT MOST 1048576: true; the input reads as it did. -/
def originBackUptoRow : OpenClaim := { program := "ytbfbidifodcedaadoor", sum := "2f0a00c38215ec9becd87e0229f73983a8fe00a3b85f7279b39e00f4765f0d02", func := "lockkeeper/lockkeeperlaw3.OriginBack", spec := "originBack", inPlace := ["internal/bytealg.IndexByteString", "internal/bytealg.IndexString", "internal/bytealg.CountString"], named := ["internal/bytealg.MaxLen", "unicode/utf8.first", "unicode/utf8.acceptRanges", "internal/strconv.uint64pow10", "math/bits.deBruijn32tab", "math/bits.deBruijn64tab"], apart := false, laid := [("math/bits.deBruijn32tab", laid_math_bits_deBruijn32tab), ("math/bits.deBruijn64tab", laid_math_bits_deBruijn64tab), ("internal/strconv.uint64pow10", laid_internal_strconv_uint64pow10), ("unicode/utf8.acceptRanges", laid_unicode_utf8_acceptRanges), ("unicode/utf8.first", laid_unicode_utf8_first)], narrowed := true }
def OriginBackUptoSaid : Prop := originBackUptoRow.holds Tryd.pinned (OpenSpec.upto originBackSpec)

/-- 'lockkeeperlaw3.OriginCases', WHERE WHAT IT READS IS OF BULK AT MOST 1048576: true; the input reads as it did. -/
def originCasesUptoRow : OpenClaim := { program := "ytbfbidifodcedaadoor", sum := "2f0a00c38215ec9becd87e0229f73983a8fe00a3b85f7279b39e00f4765f0d02", func := "lockkeeper/lockkeeperlaw3.OriginCases", spec := "originCases", inPlace := ["internal/bytealg.IndexByteString", "internal/bytealg.IndexString", "internal/bytealg.CountString"], named := ["internal/bytealg.MaxLen", "unicode/utf8.first", "unicode/utf8.acceptRanges", "internal/strconv.uint64pow10", "math/bits.deBruijn32tab", "math/bits.deBruijn64tab"], apart := false, laid := [("math/bits.deBruijn32tab", laid_math_bits_deBruijn32tab), ("math/bits.deBruijn64tab", laid_math_bits_deBruijn64tab), ("internal/strconv.uint64pow10", laid_internal_strconv_uint64pow10), ("unicode/utf8.acceptRanges", laid_unicode_utf8_acceptRanges), ("unicode/utf8.first", laid_unicode_utf8_first)], narrowed := true }
def OriginCasesUptoSaid : Prop := originCasesUptoRow.holds Tryd.pinned (OpenSpec.upto originCasesSpec)

/-- 'lockkeeperlaw3.OriginPorts', WHERE WHAT IT READS IS OF BULK AT MOST 1048576: true; the input reads as it did. -/
def originPortsUptoRow : OpenClaim := { program := "ytbfbidifodcedaadoor", sum := "2f0a00c38215ec9becd87e0229f73983a8fe00a3b85f7279b39e00f4765f0d02", func := "lockkeeper/lockkeeperlaw3.OriginPorts", spec := "originPorts", inPlace := ["internal/bytealg.IndexByteString", "internal/bytealg.IndexString", "internal/bytealg.CountString"], named := ["internal/bytealg.MaxLen", "unicode/utf8.first", "unicode/utf8.acceptRanges", "internal/strconv.uint64pow10", "math/bits.deBruijn32tab", "math/bits.deBruijn64tab"], apart := false, laid := [("math/bits.deBruijn32tab", laid_math_bits_deBruijn32tab), ("math/bits.deBruijn64tab", laid_math_bits_deBruijn64tab), ("internal/strconv.uint64pow10", laid_internal_strconv_uint64pow10), ("unicode/utf8.acceptRanges", laid_unicode_utf8_acceptRanges), ("unicode/utf8.first", laid_unicode_utf8_first)], narrowed := true }
def OriginPortsUptoSaid : Prop := originPortsUptoRow.holds Tryd.pinned (OpenSpec.upto originPortsSpec)

/-- 'lockkeeperlaw3.OriginLabels', WHERE WHAT IT READS IS OF BULK AT MOST 1048576: true; the input reads as it did. -/
def originLabelsUptoRow : OpenClaim := { program := "ytbfbidifodcedaadoor", sum := "2f0a00c38215ec9becd87e0229f73983a8fe00a3b85f7279b39e00f4765f0d02", func := "lockkeeper/lockkeeperlaw3.OriginLabels", spec := "originLabels", inPlace := ["internal/bytealg.IndexByteString", "internal/bytealg.IndexString", "internal/bytealg.CountString"], named := ["internal/bytealg.MaxLen", "unicode/utf8.first", "unicode/utf8.acceptRanges", "internal/strconv.uint64pow10", "math/bits.deBruijn32tab", "math/bits.deBruijn64tab"], apart := false, laid := [("math/bits.deBruijn32tab", laid_math_bits_deBruijn32tab), ("math/bits.deBruijn64tab", laid_math_bits_deBruijn64tab), ("internal/strconv.uint64pow10", laid_internal_strconv_uint64pow10), ("unicode/utf8.acceptRanges", laid_unicode_utf8_acceptRanges), ("unicode/utf8.first", laid_unicode_utf8_first)], narrowed := true }
def OriginLabelsUptoSaid : Prop := originLabelsUptoRow.holds Tryd.pinned (OpenSpec.upto originLabelsSpec)

/-- 'lockkeeperlaw3.OriginApart', WHERE WHAT IT READS IS OF BULK AT MOST 1048576: true; the input reads as it did. -/
def originApartUptoRow : OpenClaim := { program := "ytbfbidifodcedaadoor", sum := "2f0a00c38215ec9becd87e0229f73983a8fe00a3b85f7279b39e00f4765f0d02", func := "lockkeeper/lockkeeperlaw3.OriginApart", spec := "originApart", inPlace := ["internal/bytealg.CountString", "internal/bytealg.IndexByteString", "internal/bytealg.IndexString"], named := ["unicode/utf8.first", "unicode/utf8.acceptRanges", "internal/bytealg.MaxLen", "internal/strconv.uint64pow10", "math/bits.deBruijn32tab", "math/bits.deBruijn64tab"], apart := false, laid := [("math/bits.deBruijn32tab", laid_math_bits_deBruijn32tab), ("math/bits.deBruijn64tab", laid_math_bits_deBruijn64tab), ("internal/strconv.uint64pow10", laid_internal_strconv_uint64pow10), ("unicode/utf8.acceptRanges", laid_unicode_utf8_acceptRanges), ("unicode/utf8.first", laid_unicode_utf8_first)], narrowed := true }
def OriginApartUptoSaid : Prop := originApartUptoRow.holds Tryd.pinned (OpenSpec.upto originApartSpec)

/-- 'lockkeeperlaw4.TargetAll', WHERE WHAT IT READS IS OF BULK AT MOST 1048576: true; the input reads as it did. -/
def targetAllUptoRow : OpenClaim := { program := "ytbfbidifodcedaadoor", sum := "2f0a00c38215ec9becd87e0229f73983a8fe00a3b85f7279b39e00f4765f0d02", func := "lockkeeper/lockkeeperlaw4.TargetAll", spec := "targetAll", inPlace := ["internal/bytealg.IndexByteString", "internal/bytealg.IndexString", "internal/bytealg.CountString", "internal/abi.NoEscape", "internal/bytealg.MakeNoZero"], named := ["internal/bytealg.MaxLen", "unicode/utf8.first", "unicode/utf8.acceptRanges", "internal/strconv.uint64pow10", "math/bits.deBruijn32tab", "math/bits.deBruijn64tab"], apart := false, laid := [("math/bits.deBruijn32tab", laid_math_bits_deBruijn32tab), ("math/bits.deBruijn64tab", laid_math_bits_deBruijn64tab), ("internal/strconv.uint64pow10", laid_internal_strconv_uint64pow10), ("unicode/utf8.acceptRanges", laid_unicode_utf8_acceptRanges), ("unicode/utf8.first", laid_unicode_utf8_first)], narrowed := true }
def TargetAllUptoSaid : Prop := targetAllUptoRow.holds Tryd.pinned (OpenSpec.upto targetAllSpec)

/-- 'lockkeeperlaw4.TargetShows', WHERE WHAT IT READS IS OF BULK AT MOST 1048576: true; the input reads as it did. -/
def targetShowsUptoRow : OpenClaim := { program := "ytbfbidifodcedaadoor", sum := "2f0a00c38215ec9becd87e0229f73983a8fe00a3b85f7279b39e00f4765f0d02", func := "lockkeeper/lockkeeperlaw4.TargetShows", spec := "targetShows", inPlace := ["internal/bytealg.IndexByteString", "internal/bytealg.IndexString", "internal/bytealg.CountString", "internal/abi.NoEscape", "internal/bytealg.MakeNoZero"], named := ["internal/bytealg.MaxLen", "unicode/utf8.first", "unicode/utf8.acceptRanges", "internal/strconv.uint64pow10", "math/bits.deBruijn32tab", "math/bits.deBruijn64tab"], apart := false, laid := [("math/bits.deBruijn32tab", laid_math_bits_deBruijn32tab), ("math/bits.deBruijn64tab", laid_math_bits_deBruijn64tab), ("internal/strconv.uint64pow10", laid_internal_strconv_uint64pow10), ("unicode/utf8.acceptRanges", laid_unicode_utf8_acceptRanges), ("unicode/utf8.first", laid_unicode_utf8_first)], narrowed := true }
def TargetShowsUptoSaid : Prop := targetShowsUptoRow.holds Tryd.pinned (OpenSpec.upto targetShowsSpec)

/-- 'lockkeeperlaw4.TargetBack', WHERE WHAT IT READS IS OF BULK AT MOST 1048576: true; the input reads as it did. -/
def targetBackUptoRow : OpenClaim := { program := "ytbfbidifodcedaadoor", sum := "2f0a00c38215ec9becd87e0229f73983a8fe00a3b85f7279b39e00f4765f0d02", func := "lockkeeper/lockkeeperlaw4.TargetBack", spec := "targetBack", inPlace := ["internal/bytealg.IndexByteString", "internal/bytealg.IndexString", "internal/bytealg.CountString", "internal/abi.NoEscape", "internal/bytealg.MakeNoZero"], named := ["internal/bytealg.MaxLen", "unicode/utf8.first", "unicode/utf8.acceptRanges", "internal/strconv.uint64pow10", "math/bits.deBruijn32tab", "math/bits.deBruijn64tab"], apart := false, laid := [("math/bits.deBruijn32tab", laid_math_bits_deBruijn32tab), ("math/bits.deBruijn64tab", laid_math_bits_deBruijn64tab), ("internal/strconv.uint64pow10", laid_internal_strconv_uint64pow10), ("unicode/utf8.acceptRanges", laid_unicode_utf8_acceptRanges), ("unicode/utf8.first", laid_unicode_utf8_first)], narrowed := true }
def TargetBackUptoSaid : Prop := targetBackUptoRow.holds Tryd.pinned (OpenSpec.upto targetBackSpec)

/-- 'lockkeeperlaw4.TargetCleans', WHERE WHAT IT READS IS OF BULK AT MOST 1048576: true; the input reads as it did. -/
def targetCleansUptoRow : OpenClaim := { program := "ytbfbidifodcedaadoor", sum := "2f0a00c38215ec9becd87e0229f73983a8fe00a3b85f7279b39e00f4765f0d02", func := "lockkeeper/lockkeeperlaw4.TargetCleans", spec := "targetCleans", inPlace := ["internal/bytealg.IndexByteString", "internal/bytealg.IndexString", "internal/bytealg.CountString", "internal/abi.NoEscape", "internal/bytealg.MakeNoZero"], named := ["internal/bytealg.MaxLen", "unicode/utf8.first", "unicode/utf8.acceptRanges", "internal/strconv.uint64pow10", "math/bits.deBruijn32tab", "math/bits.deBruijn64tab"], apart := false, laid := [("math/bits.deBruijn32tab", laid_math_bits_deBruijn32tab), ("math/bits.deBruijn64tab", laid_math_bits_deBruijn64tab), ("internal/strconv.uint64pow10", laid_internal_strconv_uint64pow10), ("unicode/utf8.acceptRanges", laid_unicode_utf8_acceptRanges), ("unicode/utf8.first", laid_unicode_utf8_first)], narrowed := true }
def TargetCleansUptoSaid : Prop := targetCleansUptoRow.holds Tryd.pinned (OpenSpec.upto targetCleansSpec)

/-- 'lockkeeperlaw4.TargetSegments', WHERE WHAT IT READS IS OF BULK AT MOST 1048576: true; the input reads as it did. -/
def targetSegmentsUptoRow : OpenClaim := { program := "ytbfbidifodcedaadoor", sum := "2f0a00c38215ec9becd87e0229f73983a8fe00a3b85f7279b39e00f4765f0d02", func := "lockkeeper/lockkeeperlaw4.TargetSegments", spec := "targetSegments", inPlace := ["internal/bytealg.IndexByteString", "internal/bytealg.IndexString", "internal/bytealg.CountString", "internal/abi.NoEscape", "internal/bytealg.MakeNoZero"], named := ["internal/bytealg.MaxLen", "unicode/utf8.first", "unicode/utf8.acceptRanges", "internal/strconv.uint64pow10", "math/bits.deBruijn32tab", "math/bits.deBruijn64tab"], apart := false, laid := [("math/bits.deBruijn32tab", laid_math_bits_deBruijn32tab), ("math/bits.deBruijn64tab", laid_math_bits_deBruijn64tab), ("internal/strconv.uint64pow10", laid_internal_strconv_uint64pow10), ("unicode/utf8.acceptRanges", laid_unicode_utf8_acceptRanges), ("unicode/utf8.first", laid_unicode_utf8_first)], narrowed := true }
def TargetSegmentsUptoSaid : Prop := targetSegmentsUptoRow.holds Tryd.pinned (OpenSpec.upto targetSegmentsSpec)

/-- 'lockkeeperlaw4.TargetFragments', WHERE WHAT IT READS IS OF BULK AT MOST 1048576: true; the input reads as it did. -/
def targetFragmentsUptoRow : OpenClaim := { program := "ytbfbidifodcedaadoor", sum := "2f0a00c38215ec9becd87e0229f73983a8fe00a3b85f7279b39e00f4765f0d02", func := "lockkeeper/lockkeeperlaw4.TargetFragments", spec := "targetFragments", inPlace := ["internal/bytealg.IndexByteString", "internal/bytealg.IndexString", "internal/bytealg.CountString", "internal/abi.NoEscape", "internal/bytealg.MakeNoZero"], named := ["internal/bytealg.MaxLen", "unicode/utf8.first", "unicode/utf8.acceptRanges", "internal/strconv.uint64pow10", "math/bits.deBruijn32tab", "math/bits.deBruijn64tab"], apart := false, laid := [("math/bits.deBruijn32tab", laid_math_bits_deBruijn32tab), ("math/bits.deBruijn64tab", laid_math_bits_deBruijn64tab), ("internal/strconv.uint64pow10", laid_internal_strconv_uint64pow10), ("unicode/utf8.acceptRanges", laid_unicode_utf8_acceptRanges), ("unicode/utf8.first", laid_unicode_utf8_first)], narrowed := true }
def TargetFragmentsUptoSaid : Prop := targetFragmentsUptoRow.holds Tryd.pinned (OpenSpec.upto targetFragmentsSpec)

/-- 'lockkeeperlaw4.TargetUps', WHERE WHAT IT READS IS OF BULK AT MOST 1048576: true; the input reads as it did. -/
def targetUpsUptoRow : OpenClaim := { program := "ytbfbidifodcedaadoor", sum := "2f0a00c38215ec9becd87e0229f73983a8fe00a3b85f7279b39e00f4765f0d02", func := "lockkeeper/lockkeeperlaw4.TargetUps", spec := "targetUps", inPlace := ["internal/bytealg.IndexByteString", "internal/bytealg.IndexString", "internal/bytealg.CountString", "internal/abi.NoEscape", "internal/bytealg.MakeNoZero"], named := ["internal/bytealg.MaxLen", "unicode/utf8.first", "unicode/utf8.acceptRanges", "internal/strconv.uint64pow10", "math/bits.deBruijn32tab", "math/bits.deBruijn64tab"], apart := false, laid := [("math/bits.deBruijn32tab", laid_math_bits_deBruijn32tab), ("math/bits.deBruijn64tab", laid_math_bits_deBruijn64tab), ("internal/strconv.uint64pow10", laid_internal_strconv_uint64pow10), ("unicode/utf8.acceptRanges", laid_unicode_utf8_acceptRanges), ("unicode/utf8.first", laid_unicode_utf8_first)], narrowed := true }
def TargetUpsUptoSaid : Prop := targetUpsUptoRow.holds Tryd.pinned (OpenSpec.upto targetUpsSpec)

/-- 'lockkeeperlaw4.TargetOrigins', WHERE WHAT IT READS IS OF BULK AT MOST 1048576: true; the input reads as it did. -/
def targetOriginsUptoRow : OpenClaim := { program := "ytbfbidifodcedaadoor", sum := "2f0a00c38215ec9becd87e0229f73983a8fe00a3b85f7279b39e00f4765f0d02", func := "lockkeeper/lockkeeperlaw4.TargetOrigins", spec := "targetOrigins", inPlace := ["internal/bytealg.IndexByteString", "internal/bytealg.IndexString", "internal/bytealg.CountString", "internal/abi.NoEscape", "internal/bytealg.MakeNoZero"], named := ["internal/bytealg.MaxLen", "unicode/utf8.first", "unicode/utf8.acceptRanges", "internal/strconv.uint64pow10", "math/bits.deBruijn32tab", "math/bits.deBruijn64tab"], apart := false, laid := [("math/bits.deBruijn32tab", laid_math_bits_deBruijn32tab), ("math/bits.deBruijn64tab", laid_math_bits_deBruijn64tab), ("internal/strconv.uint64pow10", laid_internal_strconv_uint64pow10), ("unicode/utf8.acceptRanges", laid_unicode_utf8_acceptRanges), ("unicode/utf8.first", laid_unicode_utf8_first)], narrowed := true }
def TargetOriginsUptoSaid : Prop := targetOriginsUptoRow.holds Tryd.pinned (OpenSpec.upto targetOriginsSpec)

end Rows
end Go.Proofs.YtbfbidifodcedaaDoor
