/-
  DERIVED. GIVEN WITH THE SEED: THE CARDS: each row of YtnbkfneolgeeeaaDoorRows.lean that lists a variable, with what it lists TIED to the program's text (the seventh form; the later family's looks); each row that meets fmt, with fmt's text TOLD by the authors' own Lean function (tested against real Go, not proved from fmt's source: count such statements apart). THE CARD IS WHAT COUNTS. Prove the row's statement (the work); the ties are given (YtnbkfneolgeeeaaDoorTie.lean); close each card by the builder's one call (the guide's Derived/Test/ToyasCard.lean, 'card_holds'). Laid BY PROGRAM, IN A SANDBOX (cutbox-door.mjs). By AI agents, Wed Nov 11 2026. No macro, syntax, notation, axiom, sorry.
-/
import Derived.Test.YtnbkfneolgeeeaaDoorRows
import GoSem.ClaimSeven
namespace Go.Proofs.YtnbkfneolgeeeaaDoor
namespace Rows

/-- THE TIED CARD OF 'lockkeeperlaw15.CorsAll'. -/
def corsAllCard : Claim7 := { stood := { row := corsAllRow, standIns := [], harness := (true, "d3c442d380fe1218a084aa81fdc97ba083140a55998c98fbd0dc8681456c6fe4"), looks := false }, kinds := [], alts := [], laidByText := true, laidKinds := [.data, .pinned], laidTests := true, laidLooks := .later }
def CorsAllCardSaid : Prop := Claim7.holds Tryd.pinned (.plain (OpenSpec.ofChange corsAllSpec)) corsAllCard

/-- THE TIED CARD OF 'lockkeeperlaw15.CorsSeen'. -/
def corsSeenCard : Claim7 := { stood := { row := corsSeenRow, standIns := [], harness := (true, "d3c442d380fe1218a084aa81fdc97ba083140a55998c98fbd0dc8681456c6fe4"), looks := false }, kinds := [], alts := [], laidByText := true, laidKinds := [.data, .pinned], laidTests := true, laidLooks := .later }
def CorsSeenCardSaid : Prop := Claim7.holds Tryd.pinned (.plain (OpenSpec.ofChange corsSeenSpec)) corsSeenCard

/-- THE TIED CARD OF 'lockkeeperlaw14.AllowAll'. -/
def allowAllCard : Claim7 := { stood := { row := allowAllRow, standIns := [], harness := (true, "d3c442d380fe1218a084aa81fdc97ba083140a55998c98fbd0dc8681456c6fe4"), looks := false }, kinds := [], alts := [], laidByText := true, laidKinds := [.data, .pinned], laidTests := true, laidLooks := .later }
def AllowAllCardSaid : Prop := Claim7.holds Tryd.pinned (.plain (OpenSpec.ofChange allowAllSpec)) allowAllCard

/-- THE SECOND FORM's CARD OF 'lockkeeperlaw15.CorsAll'. -/
def corsAllUptoCard : Claim7 := { stood := { row := corsAllUptoRow, standIns := [], harness := (true, "d3c442d380fe1218a084aa81fdc97ba083140a55998c98fbd0dc8681456c6fe4"), looks := false }, kinds := [], alts := [], laidByText := true, laidKinds := [.data, .pinned], laidTests := true, laidLooks := .later }
def CorsAllUptoCardSaid : Prop := Claim7.holds Tryd.pinned (.plain (OpenSpec.upto corsAllSpec)) corsAllUptoCard

/-- THE SECOND FORM's CARD OF 'lockkeeperlaw15.CorsSeen'. -/
def corsSeenUptoCard : Claim7 := { stood := { row := corsSeenUptoRow, standIns := [], harness := (true, "d3c442d380fe1218a084aa81fdc97ba083140a55998c98fbd0dc8681456c6fe4"), looks := false }, kinds := [], alts := [], laidByText := true, laidKinds := [.data, .pinned], laidTests := true, laidLooks := .later }
def CorsSeenUptoCardSaid : Prop := Claim7.holds Tryd.pinned (.plain (OpenSpec.upto corsSeenSpec)) corsSeenUptoCard

/-- THE SECOND FORM's CARD OF 'lockkeeperlaw14.AllowAll'. -/
def allowAllUptoCard : Claim7 := { stood := { row := allowAllUptoRow, standIns := [], harness := (true, "d3c442d380fe1218a084aa81fdc97ba083140a55998c98fbd0dc8681456c6fe4"), looks := false }, kinds := [], alts := [], laidByText := true, laidKinds := [.data, .pinned], laidTests := true, laidLooks := .later }
def AllowAllUptoCardSaid : Prop := Claim7.holds Tryd.pinned (.plain (OpenSpec.upto allowAllSpec)) allowAllUptoCard
end Rows
end Go.Proofs.YtnbkfneolgeeeaaDoor
