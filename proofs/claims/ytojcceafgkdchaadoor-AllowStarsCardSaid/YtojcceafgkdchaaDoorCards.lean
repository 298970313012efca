/-
  DERIVED. GIVEN WITH THE SEED: THE CARDS: each row of YtojcceafgkdchaaDoorRows.lean that lists a variable, with what it lists TIED to the program's text (the seventh form; the later family's looks); each row that meets fmt, with fmt's text TOLD by the authors' own Lean function (tested against real Go, not proved from fmt's source: count such statements apart). THE CARD IS WHAT COUNTS. Prove the row's statement (the work); the ties are given (YtojcceafgkdchaaDoorTie.lean); close each card by the builder's one call (the guide's Derived/Test/ToyasCard.lean, 'card_holds'). Laid BY PROGRAM, IN A SANDBOX (cutbox-door.mjs). By AI agents, Wed Nov 11 2026. No macro, syntax, notation, axiom, sorry.
-/
import Derived.Test.YtojcceafgkdchaaDoorRows
import GoSem.ClaimSeven
namespace Go.Proofs.YtojcceafgkdchaaDoor
namespace Rows

/-- THE TIED CARD OF 'lockkeeperlaw1.OctetCases'. -/
def octetCasesCard : Claim7 := { stood := { row := octetCasesRow, standIns := [], harness := (true, "1914eaae1a78b8cabf0b9d3bc738c9f748c50182e7f300ed894ebc60ed81af9e"), looks := false }, kinds := [], alts := [], laidByText := true, laidKinds := [.data, .pinned], laidTests := true, laidLooks := .later }
def OctetCasesCardSaid : Prop := Claim7.holds Tryd.pinned (.plain (OpenSpec.ofChange octetCasesSpec)) octetCasesCard

/-- THE TIED CARD OF 'lockkeeperlaw1.OctetTrims'. -/
def octetTrimsCard : Claim7 := { stood := { row := octetTrimsRow, standIns := [], harness := (true, "1914eaae1a78b8cabf0b9d3bc738c9f748c50182e7f300ed894ebc60ed81af9e"), looks := false }, kinds := [], alts := [], laidByText := true, laidKinds := [.data, .pinned], laidTests := true, laidLooks := .later }
def OctetTrimsCardSaid : Prop := Claim7.holds Tryd.pinned (.plain (OpenSpec.ofChange octetTrimsSpec)) octetTrimsCard

/-- THE TIED CARD OF 'lockkeeperlaw1.OctetDigits'. -/
def octetDigitsCard : Claim7 := { stood := { row := octetDigitsRow, standIns := [], harness := (true, "1914eaae1a78b8cabf0b9d3bc738c9f748c50182e7f300ed894ebc60ed81af9e"), looks := false }, kinds := [], alts := [], laidByText := true, laidKinds := [.data, .pinned], laidTests := true, laidLooks := .later }
def OctetDigitsCardSaid : Prop := Claim7.holds Tryd.pinned (.plain (OpenSpec.ofChange octetDigitsSpec)) octetDigitsCard

/-- THE TIED CARD OF 'lockkeeperlaw1.OctetTokens'. -/
def octetTokensCard : Claim7 := { stood := { row := octetTokensRow, standIns := [], harness := (true, "1914eaae1a78b8cabf0b9d3bc738c9f748c50182e7f300ed894ebc60ed81af9e"), looks := false }, kinds := [], alts := [], laidByText := true, laidKinds := [.data, .pinned], laidTests := true, laidLooks := .later }
def OctetTokensCardSaid : Prop := Claim7.holds Tryd.pinned (.plain (OpenSpec.ofChange octetTokensSpec)) octetTokensCard

/-- THE TIED CARD OF 'lockkeeperlaw1.OctetParts'. -/
def octetPartsCard : Claim7 := { stood := { row := octetPartsRow, standIns := [], harness := (true, "1914eaae1a78b8cabf0b9d3bc738c9f748c50182e7f300ed894ebc60ed81af9e"), looks := false }, kinds := [], alts := [], laidByText := true, laidKinds := [.data, .pinned], laidTests := true, laidLooks := .later }
def OctetPartsCardSaid : Prop := Claim7.holds Tryd.pinned (.plain (OpenSpec.ofChange octetPartsSpec)) octetPartsCard

/-- THE TIED CARD OF 'lockkeeperlaw1.OctetAll'. -/
def octetAllCard : Claim7 := { stood := { row := octetAllRow, standIns := [], harness := (true, "1914eaae1a78b8cabf0b9d3bc738c9f748c50182e7f300ed894ebc60ed81af9e"), looks := false }, kinds := [], alts := [], laidByText := true, laidKinds := [.data, .pinned], laidTests := true, laidLooks := .later }
def OctetAllCardSaid : Prop := Claim7.holds Tryd.pinned (.plain (OpenSpec.ofChange octetAllSpec)) octetAllCard

/-- THE TIED CARD OF 'lockkeeperlaw1.OctetSplits'. -/
def octetSplitsCard : Claim7 := { stood := { row := octetSplitsRow, standIns := [], harness := (true, "1914eaae1a78b8cabf0b9d3bc738c9f748c50182e7f300ed894ebc60ed81af9e"), looks := false }, kinds := [], alts := [], laidByText := true, laidKinds := [.data, .pinned], laidTests := true, laidLooks := .later }
def OctetSplitsCardSaid : Prop := Claim7.holds Tryd.pinned (.plain (OpenSpec.ofChange octetSplitsSpec)) octetSplitsCard

/-- THE TIED CARD OF 'lockkeeperlaw15.CorsAll'. -/
def corsAllCard : Claim7 := { stood := { row := corsAllRow, standIns := [], harness := (true, "1914eaae1a78b8cabf0b9d3bc738c9f748c50182e7f300ed894ebc60ed81af9e"), looks := false }, kinds := [], alts := [], laidByText := true, laidKinds := [.data, .pinned], laidTests := true, laidLooks := .later }
def CorsAllCardSaid : Prop := Claim7.holds Tryd.pinned (.plain (OpenSpec.ofChange corsAllSpec)) corsAllCard

/-- THE TIED CARD OF 'lockkeeperlaw15.CorsSeen'. -/
def corsSeenCard : Claim7 := { stood := { row := corsSeenRow, standIns := [], harness := (true, "1914eaae1a78b8cabf0b9d3bc738c9f748c50182e7f300ed894ebc60ed81af9e"), looks := false }, kinds := [], alts := [], laidByText := true, laidKinds := [.data, .pinned], laidTests := true, laidLooks := .later }
def CorsSeenCardSaid : Prop := Claim7.holds Tryd.pinned (.plain (OpenSpec.ofChange corsSeenSpec)) corsSeenCard

/-- THE TIED CARD OF 'lockkeeperlaw14.AllowAges'. -/
def allowAgesCard : Claim7 := { stood := { row := allowAgesRow, standIns := [], harness := (true, "1914eaae1a78b8cabf0b9d3bc738c9f748c50182e7f300ed894ebc60ed81af9e"), looks := false }, kinds := [], alts := [], laidByText := true, laidKinds := [.data, .pinned], laidTests := true, laidLooks := .later }
def AllowAgesCardSaid : Prop := Claim7.holds Tryd.pinned (.plain (OpenSpec.ofChange allowAgesSpec)) allowAgesCard

/-- THE TIED CARD OF 'lockkeeperlaw14.AllowAll'. -/
def allowAllCard : Claim7 := { stood := { row := allowAllRow, standIns := [], harness := (true, "1914eaae1a78b8cabf0b9d3bc738c9f748c50182e7f300ed894ebc60ed81af9e"), looks := false }, kinds := [], alts := [], laidByText := true, laidKinds := [.data, .pinned], laidTests := true, laidLooks := .later }
def AllowAllCardSaid : Prop := Claim7.holds Tryd.pinned (.plain (OpenSpec.ofChange allowAllSpec)) allowAllCard

/-- THE TIED CARD OF 'lockkeeperlaw14.AllowStars'. -/
def allowStarsCard : Claim7 := { stood := { row := allowStarsRow, standIns := [], harness := (true, "1914eaae1a78b8cabf0b9d3bc738c9f748c50182e7f300ed894ebc60ed81af9e"), looks := false }, kinds := [], alts := [], laidByText := true, laidKinds := [.data, .pinned], laidTests := true, laidLooks := .later }
def AllowStarsCardSaid : Prop := Claim7.holds Tryd.pinned (.plain (OpenSpec.ofChange allowStarsSpec)) allowStarsCard

/-- THE TIED CARD OF 'lockkeeperlaw14.AllowNames'. -/
def allowNamesCard : Claim7 := { stood := { row := allowNamesRow, standIns := [], harness := (true, "1914eaae1a78b8cabf0b9d3bc738c9f748c50182e7f300ed894ebc60ed81af9e"), looks := false }, kinds := [], alts := [], laidByText := true, laidKinds := [.data, .pinned], laidTests := true, laidLooks := .later }
def AllowNamesCardSaid : Prop := Claim7.holds Tryd.pinned (.plain (OpenSpec.ofChange allowNamesSpec)) allowNamesCard

/-- THE SECOND FORM's CARD OF 'lockkeeperlaw1.OctetCases'. -/
def octetCasesUptoCard : Claim7 := { stood := { row := octetCasesUptoRow, standIns := [], harness := (true, "1914eaae1a78b8cabf0b9d3bc738c9f748c50182e7f300ed894ebc60ed81af9e"), looks := false }, kinds := [], alts := [], laidByText := true, laidKinds := [.data, .pinned], laidTests := true, laidLooks := .later }
def OctetCasesUptoCardSaid : Prop := Claim7.holds Tryd.pinned (.plain (OpenSpec.upto octetCasesSpec)) octetCasesUptoCard

/-- THE SECOND FORM's CARD OF 'lockkeeperlaw1.OctetTrims'. -/
def octetTrimsUptoCard : Claim7 := { stood := { row := octetTrimsUptoRow, standIns := [], harness := (true, "1914eaae1a78b8cabf0b9d3bc738c9f748c50182e7f300ed894ebc60ed81af9e"), looks := false }, kinds := [], alts := [], laidByText := true, laidKinds := [.data, .pinned], laidTests := true, laidLooks := .later }
def OctetTrimsUptoCardSaid : Prop := Claim7.holds Tryd.pinned (.plain (OpenSpec.upto octetTrimsSpec)) octetTrimsUptoCard

/-- THE SECOND FORM's CARD OF 'lockkeeperlaw1.OctetDigits'. -/
def octetDigitsUptoCard : Claim7 := { stood := { row := octetDigitsUptoRow, standIns := [], harness := (true, "1914eaae1a78b8cabf0b9d3bc738c9f748c50182e7f300ed894ebc60ed81af9e"), looks := false }, kinds := [], alts := [], laidByText := true, laidKinds := [.data, .pinned], laidTests := true, laidLooks := .later }
def OctetDigitsUptoCardSaid : Prop := Claim7.holds Tryd.pinned (.plain (OpenSpec.upto octetDigitsSpec)) octetDigitsUptoCard

/-- THE SECOND FORM's CARD OF 'lockkeeperlaw1.OctetTokens'. -/
def octetTokensUptoCard : Claim7 := { stood := { row := octetTokensUptoRow, standIns := [], harness := (true, "1914eaae1a78b8cabf0b9d3bc738c9f748c50182e7f300ed894ebc60ed81af9e"), looks := false }, kinds := [], alts := [], laidByText := true, laidKinds := [.data, .pinned], laidTests := true, laidLooks := .later }
def OctetTokensUptoCardSaid : Prop := Claim7.holds Tryd.pinned (.plain (OpenSpec.upto octetTokensSpec)) octetTokensUptoCard

/-- THE SECOND FORM's CARD OF 'lockkeeperlaw1.OctetParts'. -/
def octetPartsUptoCard : Claim7 := { stood := { row := octetPartsUptoRow, standIns := [], harness := (true, "1914eaae1a78b8cabf0b9d3bc738c9f748c50182e7f300ed894ebc60ed81af9e"), looks := false }, kinds := [], alts := [], laidByText := true, laidKinds := [.data, .pinned], laidTests := true, laidLooks := .later }
def OctetPartsUptoCardSaid : Prop := Claim7.holds Tryd.pinned (.plain (OpenSpec.upto octetPartsSpec)) octetPartsUptoCard

/-- THE SECOND FORM's CARD OF 'lockkeeperlaw1.OctetAll'. -/
def octetAllUptoCard : Claim7 := { stood := { row := octetAllUptoRow, standIns := [], harness := (true, "1914eaae1a78b8cabf0b9d3bc738c9f748c50182e7f300ed894ebc60ed81af9e"), looks := false }, kinds := [], alts := [], laidByText := true, laidKinds := [.data, .pinned], laidTests := true, laidLooks := .later }
def OctetAllUptoCardSaid : Prop := Claim7.holds Tryd.pinned (.plain (OpenSpec.upto octetAllSpec)) octetAllUptoCard

/-- THE SECOND FORM's CARD OF 'lockkeeperlaw1.OctetSplits'. -/
def octetSplitsUptoCard : Claim7 := { stood := { row := octetSplitsUptoRow, standIns := [], harness := (true, "1914eaae1a78b8cabf0b9d3bc738c9f748c50182e7f300ed894ebc60ed81af9e"), looks := false }, kinds := [], alts := [], laidByText := true, laidKinds := [.data, .pinned], laidTests := true, laidLooks := .later }
def OctetSplitsUptoCardSaid : Prop := Claim7.holds Tryd.pinned (.plain (OpenSpec.upto octetSplitsSpec)) octetSplitsUptoCard

/-- THE SECOND FORM's CARD OF 'lockkeeperlaw15.CorsAll'. -/
def corsAllUptoCard : Claim7 := { stood := { row := corsAllUptoRow, standIns := [], harness := (true, "1914eaae1a78b8cabf0b9d3bc738c9f748c50182e7f300ed894ebc60ed81af9e"), looks := false }, kinds := [], alts := [], laidByText := true, laidKinds := [.data, .pinned], laidTests := true, laidLooks := .later }
def CorsAllUptoCardSaid : Prop := Claim7.holds Tryd.pinned (.plain (OpenSpec.upto corsAllSpec)) corsAllUptoCard

/-- THE SECOND FORM's CARD OF 'lockkeeperlaw15.CorsSeen'. -/
def corsSeenUptoCard : Claim7 := { stood := { row := corsSeenUptoRow, standIns := [], harness := (true, "1914eaae1a78b8cabf0b9d3bc738c9f748c50182e7f300ed894ebc60ed81af9e"), looks := false }, kinds := [], alts := [], laidByText := true, laidKinds := [.data, .pinned], laidTests := true, laidLooks := .later }
def CorsSeenUptoCardSaid : Prop := Claim7.holds Tryd.pinned (.plain (OpenSpec.upto corsSeenSpec)) corsSeenUptoCard

/-- THE SECOND FORM's CARD OF 'lockkeeperlaw14.AllowAges'. -/
def allowAgesUptoCard : Claim7 := { stood := { row := allowAgesUptoRow, standIns := [], harness := (true, "1914eaae1a78b8cabf0b9d3bc738c9f748c50182e7f300ed894ebc60ed81af9e"), looks := false }, kinds := [], alts := [], laidByText := true, laidKinds := [.data, .pinned], laidTests := true, laidLooks := .later }
def AllowAgesUptoCardSaid : Prop := Claim7.holds Tryd.pinned (.plain (OpenSpec.upto allowAgesSpec)) allowAgesUptoCard

/-- THE SECOND FORM's CARD OF 'lockkeeperlaw14.AllowAll'. -/
def allowAllUptoCard : Claim7 := { stood := { row := allowAllUptoRow, standIns := [], harness := (true, "1914eaae1a78b8cabf0b9d3bc738c9f748c50182e7f300ed894ebc60ed81af9e"), looks := false }, kinds := [], alts := [], laidByText := true, laidKinds := [.data, .pinned], laidTests := true, laidLooks := .later }
def AllowAllUptoCardSaid : Prop := Claim7.holds Tryd.pinned (.plain (OpenSpec.upto allowAllSpec)) allowAllUptoCard

/-- THE SECOND FORM's CARD OF 'lockkeeperlaw14.AllowStars'. -/
def allowStarsUptoCard : Claim7 := { stood := { row := allowStarsUptoRow, standIns := [], harness := (true, "1914eaae1a78b8cabf0b9d3bc738c9f748c50182e7f300ed894ebc60ed81af9e"), looks := false }, kinds := [], alts := [], laidByText := true, laidKinds := [.data, .pinned], laidTests := true, laidLooks := .later }
def AllowStarsUptoCardSaid : Prop := Claim7.holds Tryd.pinned (.plain (OpenSpec.upto allowStarsSpec)) allowStarsUptoCard

/-- THE SECOND FORM's CARD OF 'lockkeeperlaw14.AllowNames'. -/
def allowNamesUptoCard : Claim7 := { stood := { row := allowNamesUptoRow, standIns := [], harness := (true, "1914eaae1a78b8cabf0b9d3bc738c9f748c50182e7f300ed894ebc60ed81af9e"), looks := false }, kinds := [], alts := [], laidByText := true, laidKinds := [.data, .pinned], laidTests := true, laidLooks := .later }
def AllowNamesUptoCardSaid : Prop := Claim7.holds Tryd.pinned (.plain (OpenSpec.upto allowNamesSpec)) allowNamesUptoCard
end Rows
end Go.Proofs.YtojcceafgkdchaaDoor
