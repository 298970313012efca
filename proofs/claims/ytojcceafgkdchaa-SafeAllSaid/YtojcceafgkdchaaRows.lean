/-
  No cell of these rows narrows 'for every input' (looked for: loops, veiled, ifaces, maps, wideKeys, modest, calm, conditions, laid).
  DERIVED. THE GIVEN ROWS OF THIS SEAT. 14 by the template 'for every input the law returns true; each argument reads behind the call as it read before'; 0 by the template 'total and deterministic' (their statements: YtojcceafgkdchaaTotals.lean).
  GIVEN WITH THE SEED: the statements are not yours to turn. If you find one false, say at which input.
  Laid BY PROGRAM, IN A SANDBOX (cutbox-rows.mjs): the forced cells as the released guide's own fill.sh prints them over the translation a40bc3f45c3b3761… (all of the seat's roots in one cut). By AI agents, Wed Nov 11 2026. No macro, syntax, notation, axiom, sorry.
-/
import Derived.Test.YtojcceafgkdchaaChecked
import GoSem.Claim
import GoSem.ClaimJoined
import GoSem.ClaimMapViews
import Derived.JoinedTies
import Derived.KernelRfl
namespace Go.Proofs.Ytojcceafgkdchaa
/- THE CELL 'sum', in the pinned program and in every row, IS THE sha256 OF THE DUMP (.gsa) THAT YtojcceafgkdchaaProg.lean LOADS. Nothing in Lean hashes anything: it is a label: what it is worth is what the hold of that sum in a sandbox is worth. -/
noncomputable def Try.pinned : Pinned := { name := "ytojcceafgkdchaa", sum := "a40bc3f45c3b3761505052ce615d41d4fd909345bbe3d6f2c320cadc0adea456", checked := Try.checked }
namespace Rows
def none {H : Type} : Left H := { results := [], args := [] }

/-- 'lockkeeperlaw15.CorsOnes': WHATEVER THE INPUT: true; the input reads as it did. -/
def corsOnesSpec : ChangeSpec := { name := "corsOnes", fn := fun _ => fun
  | [d1, d2, d3] => { results := [.lit (.bool true)], args := [d1, d2, d3] }
  | _ => none }
def corsOnesRow : OpenClaim := { program := "ytojcceafgkdchaa", sum := "a40bc3f45c3b3761505052ce615d41d4fd909345bbe3d6f2c320cadc0adea456", func := "lockkeeper/lockkeeperlaw15.CorsOnes", spec := "corsOnes", inPlace := ["internal/bytealg.IndexByteString", "internal/abi.NoEscape", "internal/bytealg.MakeNoZero"], apart := false }
def CorsOnesSaid : Prop := corsOnesRow.holds Try.pinned (OpenSpec.ofChange corsOnesSpec)

/-- ITS FALSE NEIGHBOUR: 'it returns false'. Refute it at one input. -/
def corsOnesWrong : ChangeSpec := { name := "corsOnes", fn := fun _ => fun
  | [d1, d2, d3] => { results := [.lit (.bool false)], args := [d1, d2, d3] }
  | _ => none }
def CorsOnesWrongFalsely : Prop := corsOnesRow.holds Try.pinned (OpenSpec.ofChange corsOnesWrong)

/-- 'lockkeeperlaw15.CorsOthers': WHATEVER THE INPUT: true; the input reads as it did. -/
def corsOthersSpec : ChangeSpec := { name := "corsOthers", fn := fun _ => fun
  | [d1, d2, d3, d4, d5] => { results := [.lit (.bool true)], args := [d1, d2, d3, d4, d5] }
  | _ => none }
def corsOthersRow : OpenClaim := { program := "ytojcceafgkdchaa", sum := "a40bc3f45c3b3761505052ce615d41d4fd909345bbe3d6f2c320cadc0adea456", func := "lockkeeper/lockkeeperlaw15.CorsOthers", spec := "corsOthers", inPlace := ["internal/bytealg.IndexByteString", "internal/abi.NoEscape", "internal/bytealg.MakeNoZero"], apart := false }
def CorsOthersSaid : Prop := corsOthersRow.holds Try.pinned (OpenSpec.ofChange corsOthersSpec)

/-- ITS FALSE NEIGHBOUR: 'it returns false'. Refute it at one input. -/
def corsOthersWrong : ChangeSpec := { name := "corsOthers", fn := fun _ => fun
  | [d1, d2, d3, d4, d5] => { results := [.lit (.bool false)], args := [d1, d2, d3, d4, d5] }
  | _ => none }
def CorsOthersWrongFalsely : Prop := corsOthersRow.holds Try.pinned (OpenSpec.ofChange corsOthersWrong)

/-- 'lockkeeperlaw6.HeaderSets': WHATEVER THE INPUT: true; the input reads as it did. -/
def headerSetsSpec : ChangeSpec := { name := "headerSets", fn := fun _ => fun
  | [d1, d2, d3, d4] => { results := [.lit (.bool true)], args := [d1, d2, d3, d4] }
  | _ => none }
def headerSetsRow : OpenClaim := { program := "ytojcceafgkdchaa", sum := "a40bc3f45c3b3761505052ce615d41d4fd909345bbe3d6f2c320cadc0adea456", func := "lockkeeper/lockkeeperlaw6.HeaderSets", spec := "headerSets", inPlace := ["internal/bytealg.IndexByteString", "internal/abi.NoEscape", "internal/bytealg.MakeNoZero"], apart := false }
def HeaderSetsSaid : Prop := headerSetsRow.holds Try.pinned (OpenSpec.ofChange headerSetsSpec)

/-- ITS FALSE NEIGHBOUR: 'it returns false'. Refute it at one input. -/
def headerSetsWrong : ChangeSpec := { name := "headerSets", fn := fun _ => fun
  | [d1, d2, d3, d4] => { results := [.lit (.bool false)], args := [d1, d2, d3, d4] }
  | _ => none }
def HeaderSetsWrongFalsely : Prop := headerSetsRow.holds Try.pinned (OpenSpec.ofChange headerSetsWrong)

/-- 'lockkeeperlaw6.HeaderJoins': WHATEVER THE INPUT: true; the input reads as it did. -/
def headerJoinsSpec : ChangeSpec := { name := "headerJoins", fn := fun _ => fun
  | [d1, d2, d3] => { results := [.lit (.bool true)], args := [d1, d2, d3] }
  | _ => none }
def headerJoinsRow : OpenClaim := { program := "ytojcceafgkdchaa", sum := "a40bc3f45c3b3761505052ce615d41d4fd909345bbe3d6f2c320cadc0adea456", func := "lockkeeper/lockkeeperlaw6.HeaderJoins", spec := "headerJoins", inPlace := ["internal/bytealg.IndexByteString", "internal/abi.NoEscape", "internal/bytealg.MakeNoZero"], apart := false }
def HeaderJoinsSaid : Prop := headerJoinsRow.holds Try.pinned (OpenSpec.ofChange headerJoinsSpec)

/-- ITS FALSE NEIGHBOUR: 'it returns false'. Refute it at one input. -/
def headerJoinsWrong : ChangeSpec := { name := "headerJoins", fn := fun _ => fun
  | [d1, d2, d3] => { results := [.lit (.bool false)], args := [d1, d2, d3] }
  | _ => none }
def HeaderJoinsWrongFalsely : Prop := headerJoinsRow.holds Try.pinned (OpenSpec.ofChange headerJoinsWrong)

/-- 'lockkeeperlaw7.SafeRanges': WHATEVER THE INPUT: true; the input reads as it did. -/
def safeRangesSpec : ChangeSpec := { name := "safeRanges", fn := fun _ => fun
  | [d1, d2, d3] => { results := [.lit (.bool true)], args := [d1, d2, d3] }
  | _ => none }
def safeRangesRow : OpenClaim := { program := "ytojcceafgkdchaa", sum := "a40bc3f45c3b3761505052ce615d41d4fd909345bbe3d6f2c320cadc0adea456", func := "lockkeeper/lockkeeperlaw7.SafeRanges", spec := "safeRanges", inPlace := ["internal/bytealg.IndexByteString", "internal/bytealg.IndexString"], unfollowed := true, recurses := true, named := ["internal/bytealg.MaxLen"], apart := false }
def SafeRangesSaid : Prop := safeRangesRow.holds Try.pinned (OpenSpec.ofChange safeRangesSpec)

/-- ITS FALSE NEIGHBOUR: 'it returns false'. Refute it at one input. -/
def safeRangesWrong : ChangeSpec := { name := "safeRanges", fn := fun _ => fun
  | [d1, d2, d3] => { results := [.lit (.bool false)], args := [d1, d2, d3] }
  | _ => none }
def SafeRangesWrongFalsely : Prop := safeRangesRow.holds Try.pinned (OpenSpec.ofChange safeRangesWrong)

/-- 'lockkeeperlaw7.SafeTypes': WHATEVER THE INPUT: true; the input reads as it did. -/
def safeTypesSpec : ChangeSpec := { name := "safeTypes", fn := fun _ => fun
  | [d1, d2, d3] => { results := [.lit (.bool true)], args := [d1, d2, d3] }
  | _ => none }
def safeTypesRow : OpenClaim := { program := "ytojcceafgkdchaa", sum := "a40bc3f45c3b3761505052ce615d41d4fd909345bbe3d6f2c320cadc0adea456", func := "lockkeeper/lockkeeperlaw7.SafeTypes", spec := "safeTypes", inPlace := ["internal/bytealg.IndexByteString", "internal/bytealg.IndexString"], unfollowed := true, recurses := true, named := ["internal/bytealg.MaxLen"], apart := false }
def SafeTypesSaid : Prop := safeTypesRow.holds Try.pinned (OpenSpec.ofChange safeTypesSpec)

/-- ITS FALSE NEIGHBOUR: 'it returns false'. Refute it at one input. -/
def safeTypesWrong : ChangeSpec := { name := "safeTypes", fn := fun _ => fun
  | [d1, d2, d3] => { results := [.lit (.bool false)], args := [d1, d2, d3] }
  | _ => none }
def SafeTypesWrongFalsely : Prop := safeTypesRow.holds Try.pinned (OpenSpec.ofChange safeTypesWrong)

/-- 'lockkeeperlaw6.HeaderLimits': WHATEVER THE INPUT: true; the input reads as it did. -/
def headerLimitsSpec : ChangeSpec := { name := "headerLimits", fn := fun _ => fun
  | [d1, d2, d3] => { results := [.lit (.bool true)], args := [d1, d2, d3] }
  | _ => none }
def headerLimitsRow : OpenClaim := { program := "ytojcceafgkdchaa", sum := "a40bc3f45c3b3761505052ce615d41d4fd909345bbe3d6f2c320cadc0adea456", func := "lockkeeper/lockkeeperlaw6.HeaderLimits", spec := "headerLimits", inPlace := ["internal/bytealg.IndexByteString", "internal/bytealg.IndexString", "internal/abi.NoEscape", "internal/bytealg.MakeNoZero"], named := ["internal/bytealg.MaxLen"], apart := false }
def HeaderLimitsSaid : Prop := headerLimitsRow.holds Try.pinned (OpenSpec.ofChange headerLimitsSpec)

/-- ITS FALSE NEIGHBOUR: 'it returns false'. Refute it at one input. -/
def headerLimitsWrong : ChangeSpec := { name := "headerLimits", fn := fun _ => fun
  | [d1, d2, d3] => { results := [.lit (.bool false)], args := [d1, d2, d3] }
  | _ => none }
def HeaderLimitsWrongFalsely : Prop := headerLimitsRow.holds Try.pinned (OpenSpec.ofChange headerLimitsWrong)

/-- 'lockkeeperlaw6.HeaderNames': WHATEVER THE INPUT: true; the input reads as it did. -/
def headerNamesSpec : ChangeSpec := { name := "headerNames", fn := fun _ => fun
  | [d1, d2] => { results := [.lit (.bool true)], args := [d1, d2] }
  | _ => none }
def headerNamesRow : OpenClaim := { program := "ytojcceafgkdchaa", sum := "a40bc3f45c3b3761505052ce615d41d4fd909345bbe3d6f2c320cadc0adea456", func := "lockkeeper/lockkeeperlaw6.HeaderNames", spec := "headerNames", inPlace := ["internal/bytealg.IndexByteString", "internal/abi.NoEscape", "internal/bytealg.MakeNoZero"], recurses := true, apart := false }
def HeaderNamesSaid : Prop := headerNamesRow.holds Try.pinned (OpenSpec.ofChange headerNamesSpec)

/-- ITS FALSE NEIGHBOUR: 'it returns false'. Refute it at one input. -/
def headerNamesWrong : ChangeSpec := { name := "headerNames", fn := fun _ => fun
  | [d1, d2] => { results := [.lit (.bool false)], args := [d1, d2] }
  | _ => none }
def HeaderNamesWrongFalsely : Prop := headerNamesRow.holds Try.pinned (OpenSpec.ofChange headerNamesWrong)

/-- 'lockkeeperlaw7.SafeAll': WHATEVER THE INPUT: true; the input reads as it did. -/
def safeAllSpec : ChangeSpec := { name := "safeAll", fn := fun _ => fun
  | [d1, d2, d3, d4] => { results := [.lit (.bool true)], args := [d1, d2, d3, d4] }
  | _ => none }
def safeAllRow : OpenClaim := { program := "ytojcceafgkdchaa", sum := "a40bc3f45c3b3761505052ce615d41d4fd909345bbe3d6f2c320cadc0adea456", func := "lockkeeper/lockkeeperlaw7.SafeAll", spec := "safeAll", inPlace := ["internal/bytealg.IndexByteString", "internal/bytealg.IndexString"], unfollowed := true, recurses := true, named := ["internal/bytealg.MaxLen"], apart := false }
def SafeAllSaid : Prop := safeAllRow.holds Try.pinned (OpenSpec.ofChange safeAllSpec)

/-- ITS FALSE NEIGHBOUR: 'it returns false'. Refute it at one input. -/
def safeAllWrong : ChangeSpec := { name := "safeAll", fn := fun _ => fun
  | [d1, d2, d3, d4] => { results := [.lit (.bool false)], args := [d1, d2, d3, d4] }
  | _ => none }
def SafeAllWrongFalsely : Prop := safeAllRow.holds Try.pinned (OpenSpec.ofChange safeAllWrong)

/-- 'lockkeeperlaw7.SafeSizes': WHATEVER THE INPUT: true; the input reads as it did. -/
def safeSizesSpec : ChangeSpec := { name := "safeSizes", fn := fun _ => fun
  | [d1, d2, d3] => { results := [.lit (.bool true)], args := [d1, d2, d3] }
  | _ => none }
def safeSizesRow : OpenClaim := { program := "ytojcceafgkdchaa", sum := "a40bc3f45c3b3761505052ce615d41d4fd909345bbe3d6f2c320cadc0adea456", func := "lockkeeper/lockkeeperlaw7.SafeSizes", spec := "safeSizes", inPlace := ["internal/bytealg.IndexByteString", "internal/bytealg.IndexString"], unfollowed := true, recurses := true, named := ["internal/bytealg.MaxLen"], apart := false }
def SafeSizesSaid : Prop := safeSizesRow.holds Try.pinned (OpenSpec.ofChange safeSizesSpec)

/-- ITS FALSE NEIGHBOUR: 'it returns false'. Refute it at one input. -/
def safeSizesWrong : ChangeSpec := { name := "safeSizes", fn := fun _ => fun
  | [d1, d2, d3] => { results := [.lit (.bool false)], args := [d1, d2, d3] }
  | _ => none }
def SafeSizesWrongFalsely : Prop := safeSizesRow.holds Try.pinned (OpenSpec.ofChange safeSizesWrong)

/-- 'lockkeeperlaw7.SafeNames': WHATEVER THE INPUT: true; the input reads as it did. -/
def safeNamesSpec : ChangeSpec := { name := "safeNames", fn := fun _ => fun
  | [d1, d2] => { results := [.lit (.bool true)], args := [d1, d2] }
  | _ => none }
def safeNamesRow : OpenClaim := { program := "ytojcceafgkdchaa", sum := "a40bc3f45c3b3761505052ce615d41d4fd909345bbe3d6f2c320cadc0adea456", func := "lockkeeper/lockkeeperlaw7.SafeNames", spec := "safeNames", inPlace := ["internal/bytealg.IndexByteString", "internal/bytealg.IndexString"], unfollowed := true, recurses := true, named := ["internal/bytealg.MaxLen"], apart := false }
def SafeNamesSaid : Prop := safeNamesRow.holds Try.pinned (OpenSpec.ofChange safeNamesSpec)

/-- ITS FALSE NEIGHBOUR: 'it returns false'. Refute it at one input. -/
def safeNamesWrong : ChangeSpec := { name := "safeNames", fn := fun _ => fun
  | [d1, d2] => { results := [.lit (.bool false)], args := [d1, d2] }
  | _ => none }
def SafeNamesWrongFalsely : Prop := safeNamesRow.holds Try.pinned (OpenSpec.ofChange safeNamesWrong)

/-- 'lockkeeperlaw7.SafeMerges': WHATEVER THE INPUT: true; the input reads as it did. -/
def safeMergesSpec : ChangeSpec := { name := "safeMerges", fn := fun _ => fun
  | [d1, d2] => { results := [.lit (.bool true)], args := [d1, d2] }
  | _ => none }
def safeMergesRow : OpenClaim := { program := "ytojcceafgkdchaa", sum := "a40bc3f45c3b3761505052ce615d41d4fd909345bbe3d6f2c320cadc0adea456", func := "lockkeeper/lockkeeperlaw7.SafeMerges", spec := "safeMerges", inPlace := ["internal/bytealg.IndexByteString", "internal/bytealg.IndexString"], unfollowed := true, recurses := true, named := ["internal/bytealg.MaxLen"], apart := false }
def SafeMergesSaid : Prop := safeMergesRow.holds Try.pinned (OpenSpec.ofChange safeMergesSpec)

/-- ITS FALSE NEIGHBOUR: 'it returns false'. Refute it at one input. -/
def safeMergesWrong : ChangeSpec := { name := "safeMerges", fn := fun _ => fun
  | [d1, d2] => { results := [.lit (.bool false)], args := [d1, d2] }
  | _ => none }
def SafeMergesWrongFalsely : Prop := safeMergesRow.holds Try.pinned (OpenSpec.ofChange safeMergesWrong)

/-- 'lockkeeperlaw6.HeaderAll': WHATEVER THE INPUT: true; the input reads as it did. -/
def headerAllSpec : ChangeSpec := { name := "headerAll", fn := fun _ => fun
  | [d1, d2, d3, d4] => { results := [.lit (.bool true)], args := [d1, d2, d3, d4] }
  | _ => none }
def headerAllRow : OpenClaim := { program := "ytojcceafgkdchaa", sum := "a40bc3f45c3b3761505052ce615d41d4fd909345bbe3d6f2c320cadc0adea456", func := "lockkeeper/lockkeeperlaw6.HeaderAll", spec := "headerAll", inPlace := ["internal/bytealg.IndexByteString", "internal/abi.NoEscape", "internal/bytealg.MakeNoZero", "internal/bytealg.IndexString"], recurses := true, named := ["internal/bytealg.MaxLen"], apart := false }
def HeaderAllSaid : Prop := headerAllRow.holds Try.pinned (OpenSpec.ofChange headerAllSpec)

/-- ITS FALSE NEIGHBOUR: 'it returns false'. Refute it at one input. -/
def headerAllWrong : ChangeSpec := { name := "headerAll", fn := fun _ => fun
  | [d1, d2, d3, d4] => { results := [.lit (.bool false)], args := [d1, d2, d3, d4] }
  | _ => none }
def HeaderAllWrongFalsely : Prop := headerAllRow.holds Try.pinned (OpenSpec.ofChange headerAllWrong)

/-- 'lockkeeperlaw6.HeaderNorms': WHATEVER THE INPUT: true; the input reads as it did. -/
def headerNormsSpec : ChangeSpec := { name := "headerNorms", fn := fun _ => fun
  | [d1, d2] => { results := [.lit (.bool true)], args := [d1, d2] }
  | _ => none }
def headerNormsRow : OpenClaim := { program := "ytojcceafgkdchaa", sum := "a40bc3f45c3b3761505052ce615d41d4fd909345bbe3d6f2c320cadc0adea456", func := "lockkeeper/lockkeeperlaw6.HeaderNorms", spec := "headerNorms", inPlace := ["internal/bytealg.IndexByteString", "internal/abi.NoEscape", "internal/bytealg.MakeNoZero", "internal/bytealg.IndexString"], recurses := true, named := ["internal/bytealg.MaxLen"], apart := false }
def HeaderNormsSaid : Prop := headerNormsRow.holds Try.pinned (OpenSpec.ofChange headerNormsSpec)

/-- ITS FALSE NEIGHBOUR: 'it returns false'. Refute it at one input. -/
def headerNormsWrong : ChangeSpec := { name := "headerNorms", fn := fun _ => fun
  | [d1, d2] => { results := [.lit (.bool false)], args := [d1, d2] }
  | _ => none }
def HeaderNormsWrongFalsely : Prop := headerNormsRow.holds Try.pinned (OpenSpec.ofChange headerNormsWrong)

/- THE SECOND FORM. 'bulk': how many values and letters a reading holds, each counted each time it is reached (what is shared counts as often as it is met; a slice's spare places count too). A statement '..UptoSaid' is the law's where the arguments, and the package variables that the reading takes, are together of bulk at most 1048576: NARROWER than '..Said'. Prove '..Said' where nothing that the law and all that it calls make is longer than what came in: it says more and counts as full. Else prove '..UptoSaid'. A law counts once. -/
mutual
def uptoBulk {H : Type} : DataW H → Nat
  | .lit (.string bytes) => bytes.length + 1
  | .lit _ => 1
  | .nil => 1
  | .ptr d => uptoBulk d + 1
  | .slice elems spare => uptoBulkAll elems + uptoBulkAll spare + 1
  | .agg parts => uptoBulkAll parts + 1
  | .iface _ d => uptoBulk d + 1
  | .map entries => uptoBulkEntries entries + 1
  | .held _ => 1
def uptoBulkAll {H : Type} : List (DataW H) → Nat
  | [] => 0
  | d :: r => uptoBulk d + uptoBulkAll r
def uptoBulkEntries {H : Type} : List (Lit × DataW H) → Nat
  | [] => 0
  | x :: r => uptoBulkEntry x + uptoBulkEntries r
def uptoBulkEntry {H : Type} : Lit × DataW H → Nat
  | (.string bytes, d) => bytes.length + uptoBulk d + 1
  | (_, d) => uptoBulk d + 1
 end
def uptoSmall : (H : Type) → List (DataW H) → Bool := fun _ ds => decide (uptoBulkAll ds ≤ 1048576)
def OpenSpec.upto (s : _root_.Go.ChangeSpec) : _root_.Go.OpenSpec := { _root_.Go.OpenSpec.ofChange s with cond := some uptoSmall }

/-- 'lockkeeperlaw15.CorsOnes', WHERE WHAT IT READS IS OF BULK AT MOST 1048576: true; the input reads as it did. -/
def corsOnesUptoRow : OpenClaim := { program := "ytojcceafgkdchaa", sum := "a40bc3f45c3b3761505052ce615d41d4fd909345bbe3d6f2c320cadc0adea456", func := "lockkeeper/lockkeeperlaw15.CorsOnes", spec := "corsOnes", inPlace := ["internal/bytealg.IndexByteString", "internal/abi.NoEscape", "internal/bytealg.MakeNoZero"], apart := false, narrowed := true }
def CorsOnesUptoSaid : Prop := corsOnesUptoRow.holds Try.pinned (OpenSpec.upto corsOnesSpec)

/-- 'lockkeeperlaw15.CorsOthers', WHERE WHAT IT READS IS OF BULK AT MOST 1048576: true; the input reads as it did. -/
def corsOthersUptoRow : OpenClaim := { program := "ytojcceafgkdchaa", sum := "a40bc3f45c3b3761505052ce615d41d4fd909345bbe3d6f2c320cadc0adea456", func := "lockkeeper/lockkeeperlaw15.CorsOthers", spec := "corsOthers", inPlace := ["internal/bytealg.IndexByteString", "internal/abi.NoEscape", "internal/bytealg.MakeNoZero"], apart := false, narrowed := true }
def CorsOthersUptoSaid : Prop := corsOthersUptoRow.holds Try.pinned (OpenSpec.upto corsOthersSpec)

/-- 'lockkeeperlaw6.HeaderSets', WHERE WHAT IT READS IS OF BULK AT MOST 1048576: true; the input reads as it did. -/
def headerSetsUptoRow : OpenClaim := { program := "ytojcceafgkdchaa", sum := "a40bc3f45c3b3761505052ce615d41d4fd909345bbe3d6f2c320cadc0adea456", func := "lockkeeper/lockkeeperlaw6.HeaderSets", spec := "headerSets", inPlace := ["internal/bytealg.IndexByteString", "internal/abi.NoEscape", "internal/bytealg.MakeNoZero"], apart := false, narrowed := true }
def HeaderSetsUptoSaid : Prop := headerSetsUptoRow.holds Try.pinned (OpenSpec.upto headerSetsSpec)

/-- 'lockkeeperlaw6.HeaderJoins', WHERE WHAT IT READS IS OF BULK AT MOST 1048576: true; the input reads as it did. -/
def headerJoinsUptoRow : OpenClaim := { program := "ytojcceafgkdchaa", sum := "a40bc3f45c3b3761505052ce615d41d4fd909345bbe3d6f2c320cadc0adea456", func := "lockkeeper/lockkeeperlaw6.HeaderJoins", spec := "headerJoins", inPlace := ["internal/bytealg.IndexByteString", "internal/abi.NoEscape", "internal/bytealg.MakeNoZero"], apart := false, narrowed := true }
def HeaderJoinsUptoSaid : Prop := headerJoinsUptoRow.holds Try.pinned (OpenSpec.upto headerJoinsSpec)

/-- 'lockkeeperlaw7.SafeRanges', WHERE WHAT IT READS IS OF BULK AT MOST 1048576: true; the input reads as it did. -/
def safeRangesUptoRow : OpenClaim := { program := "ytojcceafgkdchaa", sum := "a40bc3f45c3b3761505052ce615d41d4fd909345bbe3d6f2c320cadc0adea456", func := "lockkeeper/lockkeeperlaw7.SafeRanges", spec := "safeRanges", inPlace := ["internal/bytealg.IndexByteString", "internal/bytealg.IndexString"], unfollowed := true, recurses := true, named := ["internal/bytealg.MaxLen"], apart := false, narrowed := true }
def SafeRangesUptoSaid : Prop := safeRangesUptoRow.holds Try.pinned (OpenSpec.upto safeRangesSpec)

/-- 'lockkeeperlaw7.SafeTypes', WHERE WHAT IT READS IS OF BULK AT MOST 1048576: true; the input reads as it did. -/
def safeTypesUptoRow : OpenClaim := { program := "ytojcceafgkdchaa", sum := "a40bc3f45c3b3761505052ce615d41d4fd909345bbe3d6f2c320cadc0adea456", func := "lockkeeper/lockkeeperlaw7.SafeTypes", spec := "safeTypes", inPlace := ["internal/bytealg.IndexByteString", "internal/bytealg.IndexString"], unfollowed := true, recurses := true, named := ["internal/bytealg.MaxLen"], apart := false, narrowed := true }
def SafeTypesUptoSaid : Prop := safeTypesUptoRow.holds Try.pinned (OpenSpec.upto safeTypesSpec)

/-- 'lockkeeperlaw6.HeaderLimits', WHERE WHAT IT READS IS OF BULK AT MOST 1048576: true; the input reads as it did. -/
def headerLimitsUptoRow : OpenClaim := { program := "ytojcceafgkdchaa", sum := "a40bc3f45c3b3761505052ce615d41d4fd909345bbe3d6f2c320cadc0adea456", func := "lockkeeper/lockkeeperlaw6.HeaderLimits", spec := "headerLimits", inPlace := ["internal/bytealg.IndexByteString", "internal/bytealg.IndexString", "internal/abi.NoEscape", "internal/bytealg.MakeNoZero"], named := ["internal/bytealg.MaxLen"], apart := false, narrowed := true }
def HeaderLimitsUptoSaid : Prop := headerLimitsUptoRow.holds Try.pinned (OpenSpec.upto headerLimitsSpec)

/-- 'lockkeeperlaw6.HeaderNames', WHERE WHAT IT READS IS OF BULK AT MOST 1048576: true; the input reads as it did. -/
def headerNamesUptoRow : OpenClaim := { program := "ytojcceafgkdchaa", sum := "a40bc3f45c3b3761505052ce615d41d4fd909345bbe3d6f2c320cadc0adea456", func := "lockkeeper/lockkeeperlaw6.HeaderNames", spec := "headerNames", inPlace := ["internal/bytealg.IndexByteString", "internal/abi.NoEscape", "internal/bytealg.MakeNoZero"], recurses := true, apart := false, narrowed := true }
def HeaderNamesUptoSaid : Prop := headerNamesUptoRow.holds Try.pinned (OpenSpec.upto headerNamesSpec)

/-- 'lockkeeperlaw7.SafeAll', WHERE WHAT IT READS IS OF BULK AT MOST 1048576: true; the input reads as it did. -/
def safeAllUptoRow : OpenClaim := { program := "ytojcceafgkdchaa", sum := "a40bc3f45c3b3761505052ce615d41d4fd909345bbe3d6f2c320cadc0adea456", func := "lockkeeper/lockkeeperlaw7.SafeAll", spec := "safeAll", inPlace := ["internal/bytealg.IndexByteString", "internal/bytealg.IndexString"], unfollowed := true, recurses := true, named := ["internal/bytealg.MaxLen"], apart := false, narrowed := true }
def SafeAllUptoSaid : Prop := safeAllUptoRow.holds Try.pinned (OpenSpec.upto safeAllSpec)

/-- 'lockkeeperlaw7.SafeSizes', WHERE WHAT IT READS IS OF BULK AT MOST 1048576: true; the input reads as it did. -/
def safeSizesUptoRow : OpenClaim := { program := "ytojcceafgkdchaa", sum := "a40bc3f45c3b3761505052ce615d41d4fd909345bbe3d6f2c320cadc0adea456", func := "lockkeeper/lockkeeperlaw7.SafeSizes", spec := "safeSizes", inPlace := ["internal/bytealg.IndexByteString", "internal/bytealg.IndexString"], unfollowed := true, recurses := true, named := ["internal/bytealg.MaxLen"], apart := false, narrowed := true }
def SafeSizesUptoSaid : Prop := safeSizesUptoRow.holds Try.pinned (OpenSpec.upto safeSizesSpec)

/-- 'lockkeeperlaw7.SafeNames', WHERE WHAT IT READS IS OF BULK AT MOST 1048576: true; the input reads as it did. -/
def safeNamesUptoRow : OpenClaim := { program := "ytojcceafgkdchaa", sum := "a40bc3f45c3b3761505052ce615d41d4fd909345bbe3d6f2c320cadc0adea456", func := "lockkeeper/lockkeeperlaw7.SafeNames", spec := "safeNames", inPlace := ["internal/bytealg.IndexByteString", "internal/bytealg.IndexString"], unfollowed := true, recurses := true, named := ["internal/bytealg.MaxLen"], apart := false, narrowed := true }
def SafeNamesUptoSaid : Prop := safeNamesUptoRow.holds Try.pinned (OpenSpec.upto safeNamesSpec)

/-- 'lockkeeperlaw7.SafeMerges', WHERE WHAT IT READS IS OF BULK AT MOST 1048576: true; the input reads as it did. -/
def safeMergesUptoRow : OpenClaim := { program := "ytojcceafgkdchaa", sum := "a40bc3f45c3b3761505052ce615d41d4fd909345bbe3d6f2c320cadc0adea456", func := "lockkeeper/lockkeeperlaw7.SafeMerges", spec := "safeMerges", inPlace := ["internal/bytealg.IndexByteString", "internal/bytealg.IndexString"], unfollowed := true, recurses := true, named := ["internal/bytealg.MaxLen"], apart := false, narrowed := true }
def SafeMergesUptoSaid : Prop := safeMergesUptoRow.holds Try.pinned (OpenSpec.upto safeMergesSpec)

/-- 'lockkeeperlaw6.HeaderAll', WHERE WHAT IT READS IS OF BULK AT MOST 1048576: true; the input reads as it did. -/
def headerAllUptoRow : OpenClaim := { program := "ytojcceafgkdchaa", sum := "a40bc3f45c3b3761505052ce615d41d4fd909345bbe3d6f2c320cadc0adea456", func := "lockkeeper/lockkeeperlaw6.HeaderAll", spec := "headerAll", inPlace := ["internal/bytealg.IndexByteString", "internal/abi.NoEscape", "internal/bytealg.MakeNoZero", "internal/bytealg.IndexString"], recurses := true, named := ["internal/bytealg.MaxLen"], apart := false, narrowed := true }
def HeaderAllUptoSaid : Prop := headerAllUptoRow.holds Try.pinned (OpenSpec.upto headerAllSpec)

/-- 'lockkeeperlaw6.HeaderNorms', WHERE WHAT IT READS IS OF BULK AT MOST 1048576: true; the input reads as it did. -/
def headerNormsUptoRow : OpenClaim := { program := "ytojcceafgkdchaa", sum := "a40bc3f45c3b3761505052ce615d41d4fd909345bbe3d6f2c320cadc0adea456", func := "lockkeeper/lockkeeperlaw6.HeaderNorms", spec := "headerNorms", inPlace := ["internal/bytealg.IndexByteString", "internal/abi.NoEscape", "internal/bytealg.MakeNoZero", "internal/bytealg.IndexString"], recurses := true, named := ["internal/bytealg.MaxLen"], apart := false, narrowed := true }
def HeaderNormsUptoSaid : Prop := headerNormsUptoRow.holds Try.pinned (OpenSpec.upto headerNormsSpec)

end Rows
end Go.Proofs.Ytojcceafgkdchaa
