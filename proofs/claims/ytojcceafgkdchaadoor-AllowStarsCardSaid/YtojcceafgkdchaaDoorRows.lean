/-
  NARROWER THAN 'FOR EVERY INPUT', by the rows' own cells (each row's printed sentence says how): OctetCases: laid · OctetTrims: laid · OctetDigits: laid · OctetTokens: laid · OctetParts: laid · OctetAll: laid · OctetSplits: laid · CorsAll: laid · CorsSeen: laid · AllowAges: laid · AllowAll: laid · AllowStars: laid · AllowNames: laid.
  DERIVED. THE GIVEN ROWS OF THIS SEAT. 13 by the template 'for every input the law returns true; each argument reads behind the call as it read before'; 0 by the template 'total and deterministic' (their statements: YtojcceafgkdchaaDoorTotals.lean).
  GIVEN WITH THE SEED: the statements are not yours to turn. If you find one false, say at which input.
  Laid BY PROGRAM, IN A SANDBOX (cutbox-rows.mjs): the forced cells as the released guide's own fill.sh prints them over the translation bf7d9f055dcc6a4c… (all of the seat's roots in one cut). By AI agents, Wed Nov 11 2026. No macro, syntax, notation, axiom, sorry.
-/
import Derived.Test.YtojcceafgkdchaaDoorChecked
import GoSem.PinnedTables
import GoSem.Claim
import GoSem.ClaimJoined
import GoSem.ClaimMapViews
import Derived.JoinedTies
import Derived.KernelRfl
namespace Go.Proofs.YtojcceafgkdchaaDoor
/- THE CELL 'sum', in the pinned program and in every row, IS THE sha256 OF THE DUMP (.gsa) THAT YtojcceafgkdchaaDoorProg.lean LOADS. Nothing in Lean hashes anything: it is a label: what it is worth is what the hold of that sum in a sandbox is worth. -/
noncomputable def Tryd.pinned : Pinned := { name := "ytojcceafgkdchaadoor", sum := "bf7d9f055dcc6a4cee71e7db7107b4db2515316d77529312a3636c01c3278c92", checked := Tryd.checked }
namespace Rows
def none {H : Type} : Left H := { results := [], args := [] }

/- WHAT THE LISTED PACKAGE-LEVEL VARIABLES READ AS WHEN THE CALL BEGINS. Each datum BY PROGRAM (the guide's laid-datum.mjs) off the statement by which the dump's own 'gosem.cut.vars' lays the variable. In a bare row this is a premise. The card (YtojcceafgkdchaaDoorCards.lean) ties it to the program's text. -/
def laid_unicode_utf8_acceptRanges {H : Type} : DataW H := .agg [.agg [.lit (.int .u8 128), .lit (.int .u8 191)], .agg [.lit (.int .u8 160), .lit (.int .u8 191)], .agg [.lit (.int .u8 128), .lit (.int .u8 159)], .agg [.lit (.int .u8 144), .lit (.int .u8 191)], .agg [.lit (.int .u8 128), .lit (.int .u8 143)], .agg [.lit (.int .u8 0), .lit (.int .u8 0)], .agg [.lit (.int .u8 0), .lit (.int .u8 0)], .agg [.lit (.int .u8 0), .lit (.int .u8 0)], .agg [.lit (.int .u8 0), .lit (.int .u8 0)], .agg [.lit (.int .u8 0), .lit (.int .u8 0)], .agg [.lit (.int .u8 0), .lit (.int .u8 0)], .agg [.lit (.int .u8 0), .lit (.int .u8 0)], .agg [.lit (.int .u8 0), .lit (.int .u8 0)], .agg [.lit (.int .u8 0), .lit (.int .u8 0)], .agg [.lit (.int .u8 0), .lit (.int .u8 0)], .agg [.lit (.int .u8 0), .lit (.int .u8 0)]]
/-- One of Go's own tables, pinned by name: the form's constant. -/
def laid_unicode_utf8_first : DataW Unit := Go.Pinned.utf8First

/-- 'lockkeeperlaw1.OctetCases': WHATEVER THE INPUT: true; the input reads as it did. -/
def octetCasesSpec : ChangeSpec := { name := "octetCases", fn := fun _ => fun
  | [d1, d2] => { results := [.lit (.bool true)], args := [d1, d2] }
  | _ => none }
def octetCasesRow : OpenClaim := { program := "ytojcceafgkdchaadoor", sum := "bf7d9f055dcc6a4cee71e7db7107b4db2515316d77529312a3636c01c3278c92", func := "lockkeeper/lockkeeperlaw1.OctetCases", spec := "octetCases", inPlace := ["internal/bytealg.CountString", "internal/bytealg.IndexByteString", "internal/bytealg.IndexString"], named := ["unicode/utf8.first", "unicode/utf8.acceptRanges", "internal/bytealg.MaxLen"], apart := false, laid := [("unicode/utf8.acceptRanges", laid_unicode_utf8_acceptRanges), ("unicode/utf8.first", laid_unicode_utf8_first)] }
def OctetCasesSaid : Prop := octetCasesRow.holds Tryd.pinned (OpenSpec.ofChange octetCasesSpec)

/-- ITS FALSE NEIGHBOUR: 'it returns false'. Refute it at one input. -/
def octetCasesWrong : ChangeSpec := { name := "octetCases", fn := fun _ => fun
  | [d1, d2] => { results := [.lit (.bool false)], args := [d1, d2] }
  | _ => none }
def OctetCasesWrongFalsely : Prop := octetCasesRow.holds Tryd.pinned (OpenSpec.ofChange octetCasesWrong)

/-- 'lockkeeperlaw1.OctetTrims': WHATEVER THE INPUT: true; the input reads as it did. -/
def octetTrimsSpec : ChangeSpec := { name := "octetTrims", fn := fun _ => fun
  | [d1, d2, d3] => { results := [.lit (.bool true)], args := [d1, d2, d3] }
  | _ => none }
def octetTrimsRow : OpenClaim := { program := "ytojcceafgkdchaadoor", sum := "bf7d9f055dcc6a4cee71e7db7107b4db2515316d77529312a3636c01c3278c92", func := "lockkeeper/lockkeeperlaw1.OctetTrims", spec := "octetTrims", inPlace := ["internal/bytealg.CountString", "internal/bytealg.IndexByteString", "internal/bytealg.IndexString"], unfollowed := true, recurses := true, named := ["unicode/utf8.first", "unicode/utf8.acceptRanges", "internal/bytealg.MaxLen"], apart := false, laid := [("unicode/utf8.acceptRanges", laid_unicode_utf8_acceptRanges), ("unicode/utf8.first", laid_unicode_utf8_first)] }
def OctetTrimsSaid : Prop := octetTrimsRow.holds Tryd.pinned (OpenSpec.ofChange octetTrimsSpec)

/-- ITS FALSE NEIGHBOUR: 'it returns false'. Refute it at one input. -/
def octetTrimsWrong : ChangeSpec := { name := "octetTrims", fn := fun _ => fun
  | [d1, d2, d3] => { results := [.lit (.bool false)], args := [d1, d2, d3] }
  | _ => none }
def OctetTrimsWrongFalsely : Prop := octetTrimsRow.holds Tryd.pinned (OpenSpec.ofChange octetTrimsWrong)

/-- 'lockkeeperlaw1.OctetDigits': WHATEVER THE INPUT: true; the input reads as it did. -/
def octetDigitsSpec : ChangeSpec := { name := "octetDigits", fn := fun _ => fun
  | [d1, d2, d3, d4] => { results := [.lit (.bool true)], args := [d1, d2, d3, d4] }
  | _ => none }
def octetDigitsRow : OpenClaim := { program := "ytojcceafgkdchaadoor", sum := "bf7d9f055dcc6a4cee71e7db7107b4db2515316d77529312a3636c01c3278c92", func := "lockkeeper/lockkeeperlaw1.OctetDigits", spec := "octetDigits", inPlace := ["internal/bytealg.CountString", "internal/bytealg.IndexByteString", "internal/bytealg.IndexString"], named := ["unicode/utf8.first", "unicode/utf8.acceptRanges", "internal/bytealg.MaxLen"], apart := false, laid := [("unicode/utf8.acceptRanges", laid_unicode_utf8_acceptRanges), ("unicode/utf8.first", laid_unicode_utf8_first)] }
def OctetDigitsSaid : Prop := octetDigitsRow.holds Tryd.pinned (OpenSpec.ofChange octetDigitsSpec)

/-- ITS FALSE NEIGHBOUR: 'it returns false'. Refute it at one input. -/
def octetDigitsWrong : ChangeSpec := { name := "octetDigits", fn := fun _ => fun
  | [d1, d2, d3, d4] => { results := [.lit (.bool false)], args := [d1, d2, d3, d4] }
  | _ => none }
def OctetDigitsWrongFalsely : Prop := octetDigitsRow.holds Tryd.pinned (OpenSpec.ofChange octetDigitsWrong)

/-- 'lockkeeperlaw1.OctetTokens': WHATEVER THE INPUT: true; the input reads as it did. -/
def octetTokensSpec : ChangeSpec := { name := "octetTokens", fn := fun _ => fun
  | [d] => { results := [.lit (.bool true)], args := [d] }
  | _ => none }
def octetTokensRow : OpenClaim := { program := "ytojcceafgkdchaadoor", sum := "bf7d9f055dcc6a4cee71e7db7107b4db2515316d77529312a3636c01c3278c92", func := "lockkeeper/lockkeeperlaw1.OctetTokens", spec := "octetTokens", inPlace := ["internal/bytealg.CountString", "internal/bytealg.IndexByteString", "internal/bytealg.IndexString"], named := ["unicode/utf8.first", "unicode/utf8.acceptRanges", "internal/bytealg.MaxLen"], apart := false, laid := [("unicode/utf8.acceptRanges", laid_unicode_utf8_acceptRanges), ("unicode/utf8.first", laid_unicode_utf8_first)] }
def OctetTokensSaid : Prop := octetTokensRow.holds Tryd.pinned (OpenSpec.ofChange octetTokensSpec)

/-- ITS FALSE NEIGHBOUR: 'it returns false'. Refute it at one input. -/
def octetTokensWrong : ChangeSpec := { name := "octetTokens", fn := fun _ => fun
  | [d] => { results := [.lit (.bool false)], args := [d] }
  | _ => none }
def OctetTokensWrongFalsely : Prop := octetTokensRow.holds Tryd.pinned (OpenSpec.ofChange octetTokensWrong)

/-- 'lockkeeperlaw1.OctetParts': WHATEVER THE INPUT: true; the input reads as it did. -/
def octetPartsSpec : ChangeSpec := { name := "octetParts", fn := fun _ => fun
  | [d1, d2] => { results := [.lit (.bool true)], args := [d1, d2] }
  | _ => none }
def octetPartsRow : OpenClaim := { program := "ytojcceafgkdchaadoor", sum := "bf7d9f055dcc6a4cee71e7db7107b4db2515316d77529312a3636c01c3278c92", func := "lockkeeper/lockkeeperlaw1.OctetParts", spec := "octetParts", inPlace := ["internal/bytealg.CountString", "internal/bytealg.IndexByteString", "internal/bytealg.IndexString"], named := ["unicode/utf8.first", "unicode/utf8.acceptRanges", "internal/bytealg.MaxLen"], apart := false, laid := [("unicode/utf8.acceptRanges", laid_unicode_utf8_acceptRanges), ("unicode/utf8.first", laid_unicode_utf8_first)] }
def OctetPartsSaid : Prop := octetPartsRow.holds Tryd.pinned (OpenSpec.ofChange octetPartsSpec)

/-- ITS FALSE NEIGHBOUR: 'it returns false'. Refute it at one input. -/
def octetPartsWrong : ChangeSpec := { name := "octetParts", fn := fun _ => fun
  | [d1, d2] => { results := [.lit (.bool false)], args := [d1, d2] }
  | _ => none }
def OctetPartsWrongFalsely : Prop := octetPartsRow.holds Tryd.pinned (OpenSpec.ofChange octetPartsWrong)

/-- 'lockkeeperlaw1.OctetAll': WHATEVER THE INPUT: true; the input reads as it did. -/
def octetAllSpec : ChangeSpec := { name := "octetAll", fn := fun _ => fun
  | [d1, d2, d3] => { results := [.lit (.bool true)], args := [d1, d2, d3] }
  | _ => none }
def octetAllRow : OpenClaim := { program := "ytojcceafgkdchaadoor", sum := "bf7d9f055dcc6a4cee71e7db7107b4db2515316d77529312a3636c01c3278c92", func := "lockkeeper/lockkeeperlaw1.OctetAll", spec := "octetAll", inPlace := ["internal/bytealg.CountString", "internal/bytealg.IndexByteString", "internal/bytealg.IndexString", "internal/abi.NoEscape", "internal/bytealg.MakeNoZero"], named := ["unicode/utf8.first", "unicode/utf8.acceptRanges", "internal/bytealg.MaxLen"], apart := false, laid := [("unicode/utf8.acceptRanges", laid_unicode_utf8_acceptRanges), ("unicode/utf8.first", laid_unicode_utf8_first)] }
def OctetAllSaid : Prop := octetAllRow.holds Tryd.pinned (OpenSpec.ofChange octetAllSpec)

/-- ITS FALSE NEIGHBOUR: 'it returns false'. Refute it at one input. -/
def octetAllWrong : ChangeSpec := { name := "octetAll", fn := fun _ => fun
  | [d1, d2, d3] => { results := [.lit (.bool false)], args := [d1, d2, d3] }
  | _ => none }
def OctetAllWrongFalsely : Prop := octetAllRow.holds Tryd.pinned (OpenSpec.ofChange octetAllWrong)

/-- 'lockkeeperlaw1.OctetSplits': WHATEVER THE INPUT: true; the input reads as it did. -/
def octetSplitsSpec : ChangeSpec := { name := "octetSplits", fn := fun _ => fun
  | [d] => { results := [.lit (.bool true)], args := [d] }
  | _ => none }
def octetSplitsRow : OpenClaim := { program := "ytojcceafgkdchaadoor", sum := "bf7d9f055dcc6a4cee71e7db7107b4db2515316d77529312a3636c01c3278c92", func := "lockkeeper/lockkeeperlaw1.OctetSplits", spec := "octetSplits", inPlace := ["internal/bytealg.CountString", "internal/bytealg.IndexByteString", "internal/bytealg.IndexString", "internal/abi.NoEscape", "internal/bytealg.MakeNoZero"], named := ["unicode/utf8.first", "unicode/utf8.acceptRanges", "internal/bytealg.MaxLen"], apart := false, laid := [("unicode/utf8.acceptRanges", laid_unicode_utf8_acceptRanges), ("unicode/utf8.first", laid_unicode_utf8_first)] }
def OctetSplitsSaid : Prop := octetSplitsRow.holds Tryd.pinned (OpenSpec.ofChange octetSplitsSpec)

/-- ITS FALSE NEIGHBOUR: 'it returns false'. Refute it at one input. -/
def octetSplitsWrong : ChangeSpec := { name := "octetSplits", fn := fun _ => fun
  | [d] => { results := [.lit (.bool false)], args := [d] }
  | _ => none }
def OctetSplitsWrongFalsely : Prop := octetSplitsRow.holds Tryd.pinned (OpenSpec.ofChange octetSplitsWrong)

/-- 'lockkeeperlaw15.CorsAll': WHATEVER THE INPUT: true; the input reads as it did. -/
def corsAllSpec : ChangeSpec := { name := "corsAll", fn := fun _ => fun
  | [d1, d2, d3] => { results := [.lit (.bool true)], args := [d1, d2, d3] }
  | _ => none }
def corsAllRow : OpenClaim := { program := "ytojcceafgkdchaadoor", sum := "bf7d9f055dcc6a4cee71e7db7107b4db2515316d77529312a3636c01c3278c92", func := "lockkeeper/lockkeeperlaw15.CorsAll", spec := "corsAll", inPlace := ["internal/bytealg.IndexByteString", "internal/abi.NoEscape", "internal/bytealg.MakeNoZero", "internal/bytealg.CountString", "internal/bytealg.IndexString"], unfollowed := true, recurses := true, named := ["unicode/utf8.first", "unicode/utf8.acceptRanges", "internal/bytealg.MaxLen"], apart := false, laid := [("unicode/utf8.acceptRanges", laid_unicode_utf8_acceptRanges), ("unicode/utf8.first", laid_unicode_utf8_first)] }
def CorsAllSaid : Prop := corsAllRow.holds Tryd.pinned (OpenSpec.ofChange corsAllSpec)

/-- ITS FALSE NEIGHBOUR: 'it returns false'. Refute it at one input. -/
def corsAllWrong : ChangeSpec := { name := "corsAll", fn := fun _ => fun
  | [d1, d2, d3] => { results := [.lit (.bool false)], args := [d1, d2, d3] }
  | _ => none }
def CorsAllWrongFalsely : Prop := corsAllRow.holds Tryd.pinned (OpenSpec.ofChange corsAllWrong)

/-- 'lockkeeperlaw15.CorsSeen': WHATEVER THE INPUT: true; the input reads as it did. -/
def corsSeenSpec : ChangeSpec := { name := "corsSeen", fn := fun _ => fun
  | [d1, d2, d3] => { results := [.lit (.bool true)], args := [d1, d2, d3] }
  | _ => none }
def corsSeenRow : OpenClaim := { program := "ytojcceafgkdchaadoor", sum := "bf7d9f055dcc6a4cee71e7db7107b4db2515316d77529312a3636c01c3278c92", func := "lockkeeper/lockkeeperlaw15.CorsSeen", spec := "corsSeen", inPlace := ["internal/bytealg.IndexByteString", "internal/abi.NoEscape", "internal/bytealg.MakeNoZero", "internal/bytealg.CountString", "internal/bytealg.IndexString"], unfollowed := true, recurses := true, named := ["unicode/utf8.first", "unicode/utf8.acceptRanges", "internal/bytealg.MaxLen"], apart := false, laid := [("unicode/utf8.acceptRanges", laid_unicode_utf8_acceptRanges), ("unicode/utf8.first", laid_unicode_utf8_first)] }
def CorsSeenSaid : Prop := corsSeenRow.holds Tryd.pinned (OpenSpec.ofChange corsSeenSpec)

/-- ITS FALSE NEIGHBOUR: 'it returns false'. Refute it at one input. -/
def corsSeenWrong : ChangeSpec := { name := "corsSeen", fn := fun _ => fun
  | [d1, d2, d3] => { results := [.lit (.bool false)], args := [d1, d2, d3] }
  | _ => none }
def CorsSeenWrongFalsely : Prop := corsSeenRow.holds Tryd.pinned (OpenSpec.ofChange corsSeenWrong)

/-- 'lockkeeperlaw14.AllowAges': WHATEVER THE INPUT: true; the input reads as it did. -/
def allowAgesSpec : ChangeSpec := { name := "allowAges", fn := fun _ => fun
  | [d1, d2, d3] => { results := [.lit (.bool true)], args := [d1, d2, d3] }
  | _ => none }
def allowAgesRow : OpenClaim := { program := "ytojcceafgkdchaadoor", sum := "bf7d9f055dcc6a4cee71e7db7107b4db2515316d77529312a3636c01c3278c92", func := "lockkeeper/lockkeeperlaw14.AllowAges", spec := "allowAges", inPlace := ["internal/bytealg.IndexByteString", "internal/abi.NoEscape", "internal/bytealg.MakeNoZero", "internal/bytealg.CountString", "internal/bytealg.IndexString"], named := ["unicode/utf8.first", "unicode/utf8.acceptRanges", "internal/bytealg.MaxLen"], apart := false, laid := [("unicode/utf8.acceptRanges", laid_unicode_utf8_acceptRanges), ("unicode/utf8.first", laid_unicode_utf8_first)] }
def AllowAgesSaid : Prop := allowAgesRow.holds Tryd.pinned (OpenSpec.ofChange allowAgesSpec)

/-- ITS FALSE NEIGHBOUR: 'it returns false'. Refute it at one input. -/
def allowAgesWrong : ChangeSpec := { name := "allowAges", fn := fun _ => fun
  | [d1, d2, d3] => { results := [.lit (.bool false)], args := [d1, d2, d3] }
  | _ => none }
def AllowAgesWrongFalsely : Prop := allowAgesRow.holds Tryd.pinned (OpenSpec.ofChange allowAgesWrong)

/-- 'lockkeeperlaw14.AllowAll': WHATEVER THE INPUT: true; the input reads as it did. -/
def allowAllSpec : ChangeSpec := { name := "allowAll", fn := fun _ => fun
  | [d1, d2, d3, d4] => { results := [.lit (.bool true)], args := [d1, d2, d3, d4] }
  | _ => none }
def allowAllRow : OpenClaim := { program := "ytojcceafgkdchaadoor", sum := "bf7d9f055dcc6a4cee71e7db7107b4db2515316d77529312a3636c01c3278c92", func := "lockkeeper/lockkeeperlaw14.AllowAll", spec := "allowAll", inPlace := ["internal/bytealg.IndexByteString", "internal/abi.NoEscape", "internal/bytealg.MakeNoZero", "internal/bytealg.CountString", "internal/bytealg.IndexString"], named := ["unicode/utf8.first", "unicode/utf8.acceptRanges", "internal/bytealg.MaxLen"], apart := false, laid := [("unicode/utf8.acceptRanges", laid_unicode_utf8_acceptRanges), ("unicode/utf8.first", laid_unicode_utf8_first)] }
def AllowAllSaid : Prop := allowAllRow.holds Tryd.pinned (OpenSpec.ofChange allowAllSpec)

/-- ITS FALSE NEIGHBOUR: 'it returns false'. Refute it at one input. -/
def allowAllWrong : ChangeSpec := { name := "allowAll", fn := fun _ => fun
  | [d1, d2, d3, d4] => { results := [.lit (.bool false)], args := [d1, d2, d3, d4] }
  | _ => none }
def AllowAllWrongFalsely : Prop := allowAllRow.holds Tryd.pinned (OpenSpec.ofChange allowAllWrong)

/-- 'lockkeeperlaw14.AllowStars': WHATEVER THE INPUT: true; the input reads as it did. -/
def allowStarsSpec : ChangeSpec := { name := "allowStars", fn := fun _ => fun
  | [d1, d2, d3] => { results := [.lit (.bool true)], args := [d1, d2, d3] }
  | _ => none }
def allowStarsRow : OpenClaim := { program := "ytojcceafgkdchaadoor", sum := "bf7d9f055dcc6a4cee71e7db7107b4db2515316d77529312a3636c01c3278c92", func := "lockkeeper/lockkeeperlaw14.AllowStars", spec := "allowStars", inPlace := ["internal/bytealg.IndexByteString", "internal/abi.NoEscape", "internal/bytealg.MakeNoZero", "internal/bytealg.CountString", "internal/bytealg.IndexString"], named := ["unicode/utf8.first", "unicode/utf8.acceptRanges", "internal/bytealg.MaxLen"], apart := false, laid := [("unicode/utf8.acceptRanges", laid_unicode_utf8_acceptRanges), ("unicode/utf8.first", laid_unicode_utf8_first)] }
def AllowStarsSaid : Prop := allowStarsRow.holds Tryd.pinned (OpenSpec.ofChange allowStarsSpec)

/-- ITS FALSE NEIGHBOUR: 'it returns false'. Refute it at one input. -/
def allowStarsWrong : ChangeSpec := { name := "allowStars", fn := fun _ => fun
  | [d1, d2, d3] => { results := [.lit (.bool false)], args := [d1, d2, d3] }
  | _ => none }
def AllowStarsWrongFalsely : Prop := allowStarsRow.holds Tryd.pinned (OpenSpec.ofChange allowStarsWrong)

/-- 'lockkeeperlaw14.AllowNames': WHATEVER THE INPUT: true; the input reads as it did. -/
def allowNamesSpec : ChangeSpec := { name := "allowNames", fn := fun _ => fun
  | [d1, d2, d3] => { results := [.lit (.bool true)], args := [d1, d2, d3] }
  | _ => none }
def allowNamesRow : OpenClaim := { program := "ytojcceafgkdchaadoor", sum := "bf7d9f055dcc6a4cee71e7db7107b4db2515316d77529312a3636c01c3278c92", func := "lockkeeper/lockkeeperlaw14.AllowNames", spec := "allowNames", inPlace := ["internal/bytealg.IndexByteString", "internal/abi.NoEscape", "internal/bytealg.MakeNoZero", "internal/bytealg.CountString", "internal/bytealg.IndexString"], named := ["unicode/utf8.first", "unicode/utf8.acceptRanges", "internal/bytealg.MaxLen"], apart := false, laid := [("unicode/utf8.acceptRanges", laid_unicode_utf8_acceptRanges), ("unicode/utf8.first", laid_unicode_utf8_first)] }
def AllowNamesSaid : Prop := allowNamesRow.holds Tryd.pinned (OpenSpec.ofChange allowNamesSpec)

/-- ITS FALSE NEIGHBOUR: 'it returns false'. Refute it at one input. -/
def allowNamesWrong : ChangeSpec := { name := "allowNames", fn := fun _ => fun
  | [d1, d2, d3] => { results := [.lit (.bool false)], args := [d1, d2, d3] }
  | _ => none }
def AllowNamesWrongFalsely : Prop := allowNamesRow.holds Tryd.pinned (OpenSpec.ofChange allowNamesWrong)

/- THE SECOND FORM. 'bulk': how many values and letters a reading holds, each counted each time it is reached (what is shared counts as often as it is met; a slice's spare places count too). A statement '..UptoSaid' is the law's where the arguments, and the package variables that the reading takes, are together of bulk at most 1048576: NARROWER than '..Said'. Prove '..Said' where nothing that the law and all that it calls make is longer than what came in: it says more and counts as full. Else prove '..UptoSaid'. A law counts once. -/
mutual
def uptoBulk {H : Type} : DataW H → Nat
  | .lit (.string bytes) => bytes.length + 1
  | .lit _ => 1
  | .nil => 1
  | .ptr d => uptoBulk d + 1
  | .slice elems spare => uptoBulkAll elems + uptoBulkAll spare + 1
  | .agg parts => uptoBulkAll parts + 1
  | .iface _ d => uptoBulk d + 1
  | .map entries => uptoBulkEntries entries + 1
  | .held _ => 1
def uptoBulkAll {H : Type} : List (DataW H) → Nat
  | [] => 0
  | d :: r => uptoBulk d + uptoBulkAll r
def uptoBulkEntries {H : Type} : List (Lit × DataW H) → Nat
  | [] => 0
  | x :: r => uptoBulkEntry x + uptoBulkEntries r
def uptoBulkEntry {H : Type} : Lit × DataW H → Nat
  | (.string bytes, d) => bytes.length + uptoBulk d + 1
  | (_, d) => uptoBulk d + 1
 end
def uptoSmall : (H : Type) → List (DataW H) → Bool := fun _ ds => decide (uptoBulkAll ds ≤ 1048576)
def OpenSpec.upto (s : _root_.Go.ChangeSpec) : _root_.Go.OpenSpec := { _root_.Go.OpenSpec.ofChange s with cond := some uptoSmall }

/-- 'lockkeeperlaw1.OctetCases', WHERE WHAT IT READS IS OF BULK AT MOST 1048576: true; the input reads as it did. -/
def octetCasesUptoRow : OpenClaim := { program := "ytojcceafgkdchaadoor", sum := "bf7d9f055dcc6a4cee71e7db7107b4db2515316d77529312a3636c01c3278c92", func := "lockkeeper/lockkeeperlaw1.OctetCases", spec := "octetCases", inPlace := ["internal/bytealg.CountString", "internal/bytealg.IndexByteString", "internal/bytealg.IndexString"], named := ["unicode/utf8.first", "unicode/utf8.acceptRanges", "internal/bytealg.MaxLen"], apart := false, laid := [("unicode/utf8.acceptRanges", laid_unicode_utf8_acceptRanges), ("unicode/utf8.first", laid_unicode_utf8_first)], narrowed := true }
def OctetCasesUptoSaid : Prop := octetCasesUptoRow.holds Tryd.pinned (OpenSpec.upto octetCasesSpec)

/-- 'lockkeeperlaw1.OctetTrims', WHERE WHAT IT READS IS OF BULK AT MOST 1048576: true; the input reads as it did. -/
def octetTrimsUptoRow : OpenClaim := { program := "ytojcceafgkdchaadoor", sum := "bf7d9f055dcc6a4cee71e7db7107b4db2515316d77529312a3636c01c3278c92", func := "lockkeeper/lockkeeperlaw1.OctetTrims", spec := "octetTrims", inPlace := ["internal/bytealg.CountString", "internal/bytealg.IndexByteString", "internal/bytealg.IndexString"], unfollowed := true, recurses := true, named := ["unicode/utf8.first", "unicode/utf8.acceptRanges", "internal/bytealg.MaxLen"], apart := false, laid := [("unicode/utf8.acceptRanges", laid_unicode_utf8_acceptRanges), ("unicode/utf8.first", laid_unicode_utf8_first)], narrowed := true }
def OctetTrimsUptoSaid : Prop := octetTrimsUptoRow.holds Tryd.pinned (OpenSpec.upto octetTrimsSpec)

/-- 'lockkeeperlaw1.OctetDigits', WHERE WHAT IT READS IS OF BULK AT MOST 1048576: true; the input reads as it did. -/
def octetDigitsUptoRow : OpenClaim := { program := "ytojcceafgkdchaadoor", sum := "bf7d9f055dcc6a4cee71e7db7107b4db2515316d77529312a3636c01c3278c92", func := "lockkeeper/lockkeeperlaw1.OctetDigits", spec := "octetDigits", inPlace := ["internal/bytealg.CountString", "internal/bytealg.IndexByteString", "internal/bytealg.IndexString"], named := ["unicode/utf8.first", "unicode/utf8.acceptRanges", "internal/bytealg.MaxLen"], apart := false, laid := [("unicode/utf8.acceptRanges", laid_unicode_utf8_acceptRanges), ("unicode/utf8.first", laid_unicode_utf8_first)], narrowed := true }
def OctetDigitsUptoSaid : Prop := octetDigitsUptoRow.holds Tryd.pinned (OpenSpec.upto octetDigitsSpec)

/-- 'lockkeeperlaw1.OctetTokens', WHERE WHAT IT READS IS OF BULK AT MOST 1048576: true; the input reads as it did. -/
def octetTokensUptoRow : OpenClaim := { program := "ytojcceafgkdchaadoor", sum := "bf7d9f055dcc6a4cee71e7db7107b4db2515316d77529312a3636c01c3278c92", func := "lockkeeper/lockkeeperlaw1.OctetTokens", spec := "octetTokens", inPlace := ["internal/bytealg.CountString", "internal/bytealg.IndexByteString", "internal/bytealg.IndexString"], named := ["unicode/utf8.first", "unicode/utf8.acceptRanges", "internal/bytealg.MaxLen"], apart := false, laid := [("unicode/utf8.acceptRanges", laid_unicode_utf8_acceptRanges), ("unicode/utf8.first", laid_unicode_utf8_first)], narrowed := true }
def OctetTokensUptoSaid : Prop := octetTokensUptoRow.holds Tryd.pinned (OpenSpec.upto octetTokensSpec)

/-- 'lockkeeperlaw1.OctetParts', WHERE WHAT IT READS IS OF BULK AT MOST 1048576: true; the input reads as it did. -/
def octetPartsUptoRow : OpenClaim := { program := "ytojcceafgkdchaadoor", sum := "bf7d9f055dcc6a4cee71e7db7107b4db2515316d77529312a3636c01c3278c92", func := "lockkeeper/lockkeeperlaw1.OctetParts", spec := "octetParts", inPlace := ["internal/bytealg.CountString", "internal/bytealg.IndexByteString", "internal/bytealg.IndexString"], named := ["unicode/utf8.first", "unicode/utf8.acceptRanges", "internal/bytealg.MaxLen"], apart := false, laid := [("unicode/utf8.acceptRanges", laid_unicode_utf8_acceptRanges), ("unicode/utf8.first", laid_unicode_utf8_first)], narrowed := true }
def OctetPartsUptoSaid : Prop := octetPartsUptoRow.holds Tryd.pinned (OpenSpec.upto octetPartsSpec)

/-- 'lockkeeperlaw1.OctetAll', WHERE WHAT IT READS IS OF BULK AT MOST 1048576: true; the input reads as it did. -/
def octetAllUptoRow : OpenClaim := { program := "ytojcceafgkdchaadoor", sum := "bf7d9f055dcc6a4cee71e7db7107b4db2515316d77529312a3636c01c3278c92", func := "lockkeeper/lockkeeperlaw1.OctetAll", spec := "octetAll", inPlace := ["internal/bytealg.CountString", "internal/bytealg.IndexByteString", "internal/bytealg.IndexString", "internal/abi.NoEscape", "internal/bytealg.MakeNoZero"], named := ["unicode/utf8.first", "unicode/utf8.acceptRanges", "internal/bytealg.MaxLen"], apart := false, laid := [("unicode/utf8.acceptRanges", laid_unicode_utf8_acceptRanges), ("unicode/utf8.first", laid_unicode_utf8_first)], narrowed := true }
def OctetAllUptoSaid : Prop := octetAllUptoRow.holds Tryd.pinned (OpenSpec.upto octetAllSpec)

/-- 'lockkeeperlaw1.OctetSplits', WHERE WHAT IT READS IS OF BULK AT MOST 1048576: true; the input reads as it did. -/
def octetSplitsUptoRow : OpenClaim := { program := "ytojcceafgkdchaadoor", sum := "bf7d9f055dcc6a4cee71e7db7107b4db2515316d77529312a3636c01c3278c92", func := "lockkeeper/lockkeeperlaw1.OctetSplits", spec := "octetSplits", inPlace := ["internal/bytealg.CountString", "internal/bytealg.IndexByteString", "internal/bytealg.IndexString", "internal/abi.NoEscape", "internal/bytealg.MakeNoZero"], named := ["unicode/utf8.first", "unicode/utf8.acceptRanges", "internal/bytealg.MaxLen"], apart := false, laid := [("unicode/utf8.acceptRanges", laid_unicode_utf8_acceptRanges), ("unicode/utf8.first", laid_unicode_utf8_first)], narrowed := true }
def OctetSplitsUptoSaid : Prop := octetSplitsUptoRow.holds Tryd.pinned (OpenSpec.upto octetSplitsSpec)

/-- 'lockkeeperlaw15.CorsAll', WHERE WHAT IT READS IS OF BULK AT MOST 1048576: true; the input reads as it did. -/
def corsAllUptoRow : OpenClaim := { program := "ytojcceafgkdchaadoor", sum := "bf7d9f055dcc6a4cee71e7db7107b4db2515316d77529312a3636c01c3278c92", func := "lockkeeper/lockkeeperlaw15.CorsAll", spec := "corsAll", inPlace := ["internal/bytealg.IndexByteString", "internal/abi.NoEscape", "internal/bytealg.MakeNoZero", "internal/bytealg.CountString", "internal/bytealg.IndexString"], unfollowed := true, recurses := true, named := ["unicode/utf8.first", "unicode/utf8.acceptRanges", "internal/bytealg.MaxLen"], apart := false, laid := [("unicode/utf8.acceptRanges", laid_unicode_utf8_acceptRanges), ("unicode/utf8.first", laid_unicode_utf8_first)], narrowed := true }
def CorsAllUptoSaid : Prop := corsAllUptoRow.holds Tryd.pinned (OpenSpec.upto corsAllSpec)

/-- 'lockkeeperlaw15.CorsSeen', WHERE WHAT IT READS IS OF BULK AT MOST 1048576: true; the input reads as it did. -/
def corsSeenUptoRow : OpenClaim := { program := "ytojcceafgkdchaadoor", sum := "bf7d9f055dcc6a4cee71e7db7107b4db2515316d77529312a3636c01c3278c92", func := "lockkeeper/lockkeeperlaw15.CorsSeen", spec := "corsSeen", inPlace := ["internal/bytealg.IndexByteString", "internal/abi.NoEscape", "internal/bytealg.MakeNoZero", "internal/bytealg.CountString", "internal/bytealg.IndexString"], unfollowed := true, recurses := true, named := ["unicode/utf8.first", "unicode/utf8.acceptRanges", "internal/bytealg.MaxLen"], apart := false, laid := [("unicode/utf8.acceptRanges", laid_unicode_utf8_acceptRanges), ("unicode/utf8.first", laid_unicode_utf8_first)], narrowed := true }
def CorsSeenUptoSaid : Prop := corsSeenUptoRow.holds Tryd.pinned (OpenSpec.upto corsSeenSpec)

/-- 'lockkeeperlaw14.AllowAges', WHERE WHAT IT READS IS OF BULK AT MOST 1048576: true; the input reads as it did. -/
def allowAgesUptoRow : OpenClaim := { program := "ytojcceafgkdchaadoor", sum := "bf7d9f055dcc6a4cee71e7db7107b4db2515316d77529312a3636c01c3278c92", func := "lockkeeper/lockkeeperlaw14.AllowAges", spec := "allowAges", inPlace := ["internal/bytealg.IndexByteString", "internal/abi.NoEscape", "internal/bytealg.MakeNoZero", "internal/bytealg.CountString", "internal/bytealg.IndexString"], named := ["unicode/utf8.first", "unicode/utf8.acceptRanges", "internal/bytealg.MaxLen"], apart := false, laid := [("unicode/utf8.acceptRanges", laid_unicode_utf8_acceptRanges), ("unicode/utf8.first", laid_unicode_utf8_first)], narrowed := true }
def AllowAgesUptoSaid : Prop := allowAgesUptoRow.holds Tryd.pinned (OpenSpec.upto allowAgesSpec)

/-- 'lockkeeperlaw14.AllowAll', WHERE WHAT IT READS IS OF BULK AT MOST 1048576: true; the input reads as it did. -/
def allowAllUptoRow : OpenClaim := { program := "ytojcceafgkdchaadoor", sum := "bf7d9f055dcc6a4cee71e7db7107b4db2515316d77529312a3636c01c3278c92", func := "lockkeeper/lockkeeperlaw14.AllowAll", spec := "allowAll", inPlace := ["internal/bytealg.IndexByteString", "internal/abi.NoEscape", "internal/bytealg.MakeNoZero", "internal/bytealg.CountString", "internal/bytealg.IndexString"], named := ["unicode/utf8.first", "unicode/utf8.acceptRanges", "internal/bytealg.MaxLen"], apart := false, laid := [("unicode/utf8.acceptRanges", laid_unicode_utf8_acceptRanges), ("unicode/utf8.first", laid_unicode_utf8_first)], narrowed := true }
def AllowAllUptoSaid : Prop := allowAllUptoRow.holds Tryd.pinned (OpenSpec.upto allowAllSpec)

/-- 'lockkeeperlaw14.AllowStars', WHERE WHAT IT READS IS OF BULK AT MOST 1048576: true; the input reads as it did. -/
def allowStarsUptoRow : OpenClaim := { program := "ytojcceafgkdchaadoor", sum := "bf7d9f055dcc6a4cee71e7db7107b4db2515316d77529312a3636c01c3278c92", func := "lockkeeper/lockkeeperlaw14.AllowStars", spec := "allowStars", inPlace := ["internal/bytealg.IndexByteString", "internal/abi.NoEscape", "internal/bytealg.MakeNoZero", "internal/bytealg.CountString", "internal/bytealg.IndexString"], named := ["unicode/utf8.first", "unicode/utf8.acceptRanges", "internal/bytealg.MaxLen"], apart := false, laid := [("unicode/utf8.acceptRanges", laid_unicode_utf8_acceptRanges), ("unicode/utf8.first", laid_unicode_utf8_first)], narrowed := true }
def AllowStarsUptoSaid : Prop := allowStarsUptoRow.holds Tryd.pinned (OpenSpec.upto allowStarsSpec)

/-- 'lockkeeperlaw14.AllowNames', WHERE WHAT IT READS IS OF BULK AT MOST 1048576: true; the input reads as it did. -/
def allowNamesUptoRow : OpenClaim := { program := "ytojcceafgkdchaadoor", sum := "bf7d9f055dcc6a4cee71e7db7107b4db2515316d77529312a3636c01c3278c92", func := "lockkeeper/lockkeeperlaw14.AllowNames", spec := "allowNames", inPlace := ["internal/bytealg.IndexByteString", "internal/abi.NoEscape", "internal/bytealg.MakeNoZero", "internal/bytealg.CountString", "internal/bytealg.IndexString"], named := ["unicode/utf8.first", "unicode/utf8.acceptRanges", "internal/bytealg.MaxLen"], apart := false, laid := [("unicode/utf8.acceptRanges", laid_unicode_utf8_acceptRanges), ("unicode/utf8.first", laid_unicode_utf8_first)], narrowed := true }
def AllowNamesUptoSaid : Prop := allowNamesUptoRow.holds Tryd.pinned (OpenSpec.upto allowNamesSpec)

end Rows
end Go.Proofs.YtojcceafgkdchaaDoor
