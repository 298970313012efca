/-
  DERIVED. GIVEN WITH THE SEED: THE CARDS: each row of YtfmajangcbgooaaGreatDoorRows.lean that lists a variable, with what it lists TIED to the program's text (the seventh form; the later family's looks); each row that meets fmt, with fmt's text TOLD by the authors' own Lean function (tested against real Go, not proved from fmt's source: count such statements apart). THE CARD IS WHAT COUNTS. Prove the row's statement (the work); the ties are given (YtfmajangcbgooaaGreatDoorTie.lean); close each card by the builder's one call (the guide's Derived/Test/ToyasCard.lean, 'card_holds'). Laid BY PROGRAM, IN A SANDBOX (cutbox-door.mjs). By AI agents, Wed Nov 11 2026. No macro, syntax, notation, axiom, sorry.
-/
import Derived.Test.YtfmajangcbgooaaGreatDoorRows
import GoSem.ClaimSeven
namespace Go.Proofs.YtfmajangcbgooaaGreatDoor
namespace Rows

/-- THE TIED CARD OF 'lockkeeperlaw8.AskModes'. -/
def askModesCard : Claim7 := { stood := { row := askModesRow, standIns := [], harness := (true, "542fa0bbc9504dc78195c6b3d45e7d3ac3954f912991a897e5dbf452a2ff2f89"), looks := false }, kinds := [], alts := [], laidByText := true, laidKinds := [.data, .data, .data, .data, .pinned], laidTests := true, laidLooks := .later }
def AskModesCardSaid : Prop := Claim7.holds Tryz.pinned (.plain (OpenSpec.ofChange askModesSpec)) askModesCard

/-- THE TIED CARD OF 'lockkeeperlaw8.AskOrder'. -/
def askOrderCard : Claim7 := { stood := { row := askOrderRow, standIns := [], harness := (true, "542fa0bbc9504dc78195c6b3d45e7d3ac3954f912991a897e5dbf452a2ff2f89"), looks := false }, kinds := [], alts := [], laidByText := true, laidKinds := [.data, .data, .data, .data, .pinned], laidTests := true, laidLooks := .later }
def AskOrderCardSaid : Prop := Claim7.holds Tryz.pinned (.plain (OpenSpec.ofChange askOrderSpec)) askOrderCard

/-- THE TIED CARD OF 'lockkeeperlaw8.AskAll'. -/
def askAllCard : Claim7 := { stood := { row := askAllRow, standIns := [], harness := (true, "542fa0bbc9504dc78195c6b3d45e7d3ac3954f912991a897e5dbf452a2ff2f89"), looks := false }, kinds := [], alts := [], laidByText := true, laidKinds := [.data, .data, .data, .data, .pinned], laidTests := true, laidLooks := .later }
def AskAllCardSaid : Prop := Claim7.holds Tryz.pinned (.plain (OpenSpec.ofChange askAllSpec)) askAllCard

/-- THE TIED CARD OF 'lockkeeperlaw8.AskNorms'. -/
def askNormsCard : Claim7 := { stood := { row := askNormsRow, standIns := [], harness := (true, "542fa0bbc9504dc78195c6b3d45e7d3ac3954f912991a897e5dbf452a2ff2f89"), looks := false }, kinds := [], alts := [], laidByText := true, laidKinds := [.data, .data, .data, .data, .pinned], laidTests := true, laidLooks := .later }
def AskNormsCardSaid : Prop := Claim7.holds Tryz.pinned (.plain (OpenSpec.ofChange askNormsSpec)) askNormsCard

/-- THE TIED CARD OF 'lockkeeperlaw8.AskWants'. -/
def askWantsCard : Claim7 := { stood := { row := askWantsRow, standIns := [], harness := (true, "542fa0bbc9504dc78195c6b3d45e7d3ac3954f912991a897e5dbf452a2ff2f89"), looks := false }, kinds := [], alts := [], laidByText := true, laidKinds := [.data, .data, .data, .data, .pinned], laidTests := true, laidLooks := .later }
def AskWantsCardSaid : Prop := Claim7.holds Tryz.pinned (.plain (OpenSpec.ofChange askWantsSpec)) askWantsCard

/-- THE TIED CARD OF 'lockkeeperlaw17.FlightOthers'. -/
def flightOthersCard : Claim7 := { stood := { row := flightOthersRow, standIns := [], harness := (true, "542fa0bbc9504dc78195c6b3d45e7d3ac3954f912991a897e5dbf452a2ff2f89"), looks := false }, kinds := [], alts := [], laidByText := true, laidKinds := [.data, .data, .data, .data, .pinned], laidTests := true, laidLooks := .later }
def FlightOthersCardSaid : Prop := Claim7.holds Tryz.pinned (.plain (OpenSpec.ofChange flightOthersSpec)) flightOthersCard

/-- THE TIED CARD OF 'lockkeeperlaw17.FlightLets'. -/
def flightLetsCard : Claim7 := { stood := { row := flightLetsRow, standIns := [], harness := (true, "542fa0bbc9504dc78195c6b3d45e7d3ac3954f912991a897e5dbf452a2ff2f89"), looks := false }, kinds := [], alts := [], laidByText := true, laidKinds := [.data, .data, .data, .data, .pinned], laidTests := true, laidLooks := .later }
def FlightLetsCardSaid : Prop := Claim7.holds Tryz.pinned (.plain (OpenSpec.ofChange flightLetsSpec)) flightLetsCard

/-- THE TIED CARD OF 'lockkeeperlaw17.FlightBuilds'. -/
def flightBuildsCard : Claim7 := { stood := { row := flightBuildsRow, standIns := [], harness := (true, "542fa0bbc9504dc78195c6b3d45e7d3ac3954f912991a897e5dbf452a2ff2f89"), looks := false }, kinds := [], alts := [], laidByText := true, laidKinds := [.data, .data, .data, .data, .pinned], laidTests := true, laidLooks := .later }
def FlightBuildsCardSaid : Prop := Claim7.holds Tryz.pinned (.plain (OpenSpec.ofChange flightBuildsSpec)) flightBuildsCard

/-- THE TIED CARD OF 'lockkeeperlaw17.FlightGrants'. -/
def flightGrantsCard : Claim7 := { stood := { row := flightGrantsRow, standIns := [], harness := (true, "542fa0bbc9504dc78195c6b3d45e7d3ac3954f912991a897e5dbf452a2ff2f89"), looks := false }, kinds := [], alts := [], laidByText := true, laidKinds := [.data, .data, .data, .data, .pinned], laidTests := true, laidLooks := .later }
def FlightGrantsCardSaid : Prop := Claim7.holds Tryz.pinned (.plain (OpenSpec.ofChange flightGrantsSpec)) flightGrantsCard

/-- THE SECOND FORM's CARD OF 'lockkeeperlaw8.AskModes'. -/
def askModesUptoCard : Claim7 := { stood := { row := askModesUptoRow, standIns := [], harness := (true, "542fa0bbc9504dc78195c6b3d45e7d3ac3954f912991a897e5dbf452a2ff2f89"), looks := false }, kinds := [], alts := [], laidByText := true, laidKinds := [.data, .data, .data, .data, .pinned], laidTests := true, laidLooks := .later }
def AskModesUptoCardSaid : Prop := Claim7.holds Tryz.pinned (.plain (OpenSpec.upto askModesSpec)) askModesUptoCard

/-- THE SECOND FORM's CARD OF 'lockkeeperlaw8.AskOrder'. -/
def askOrderUptoCard : Claim7 := { stood := { row := askOrderUptoRow, standIns := [], harness := (true, "542fa0bbc9504dc78195c6b3d45e7d3ac3954f912991a897e5dbf452a2ff2f89"), looks := false }, kinds := [], alts := [], laidByText := true, laidKinds := [.data, .data, .data, .data, .pinned], laidTests := true, laidLooks := .later }
def AskOrderUptoCardSaid : Prop := Claim7.holds Tryz.pinned (.plain (OpenSpec.upto askOrderSpec)) askOrderUptoCard

/-- THE SECOND FORM's CARD OF 'lockkeeperlaw8.AskAll'. -/
def askAllUptoCard : Claim7 := { stood := { row := askAllUptoRow, standIns := [], harness := (true, "542fa0bbc9504dc78195c6b3d45e7d3ac3954f912991a897e5dbf452a2ff2f89"), looks := false }, kinds := [], alts := [], laidByText := true, laidKinds := [.data, .data, .data, .data, .pinned], laidTests := true, laidLooks := .later }
def AskAllUptoCardSaid : Prop := Claim7.holds Tryz.pinned (.plain (OpenSpec.upto askAllSpec)) askAllUptoCard

/-- THE SECOND FORM's CARD OF 'lockkeeperlaw8.AskNorms'. -/
def askNormsUptoCard : Claim7 := { stood := { row := askNormsUptoRow, standIns := [], harness := (true, "542fa0bbc9504dc78195c6b3d45e7d3ac3954f912991a897e5dbf452a2ff2f89"), looks := false }, kinds := [], alts := [], laidByText := true, laidKinds := [.data, .data, .data, .data, .pinned], laidTests := true, laidLooks := .later }
def AskNormsUptoCardSaid : Prop := Claim7.holds Tryz.pinned (.plain (OpenSpec.upto askNormsSpec)) askNormsUptoCard

/-- THE SECOND FORM's CARD OF 'lockkeeperlaw8.AskWants'. -/
def askWantsUptoCard : Claim7 := { stood := { row := askWantsUptoRow, standIns := [], harness := (true, "542fa0bbc9504dc78195c6b3d45e7d3ac3954f912991a897e5dbf452a2ff2f89"), looks := false }, kinds := [], alts := [], laidByText := true, laidKinds := [.data, .data, .data, .data, .pinned], laidTests := true, laidLooks := .later }
def AskWantsUptoCardSaid : Prop := Claim7.holds Tryz.pinned (.plain (OpenSpec.upto askWantsSpec)) askWantsUptoCard

/-- THE SECOND FORM's CARD OF 'lockkeeperlaw17.FlightOthers'. -/
def flightOthersUptoCard : Claim7 := { stood := { row := flightOthersUptoRow, standIns := [], harness := (true, "542fa0bbc9504dc78195c6b3d45e7d3ac3954f912991a897e5dbf452a2ff2f89"), looks := false }, kinds := [], alts := [], laidByText := true, laidKinds := [.data, .data, .data, .data, .pinned], laidTests := true, laidLooks := .later }
def FlightOthersUptoCardSaid : Prop := Claim7.holds Tryz.pinned (.plain (OpenSpec.upto flightOthersSpec)) flightOthersUptoCard

/-- THE SECOND FORM's CARD OF 'lockkeeperlaw17.FlightLets'. -/
def flightLetsUptoCard : Claim7 := { stood := { row := flightLetsUptoRow, standIns := [], harness := (true, "542fa0bbc9504dc78195c6b3d45e7d3ac3954f912991a897e5dbf452a2ff2f89"), looks := false }, kinds := [], alts := [], laidByText := true, laidKinds := [.data, .data, .data, .data, .pinned], laidTests := true, laidLooks := .later }
def FlightLetsUptoCardSaid : Prop := Claim7.holds Tryz.pinned (.plain (OpenSpec.upto flightLetsSpec)) flightLetsUptoCard

/-- THE SECOND FORM's CARD OF 'lockkeeperlaw17.FlightBuilds'. -/
def flightBuildsUptoCard : Claim7 := { stood := { row := flightBuildsUptoRow, standIns := [], harness := (true, "542fa0bbc9504dc78195c6b3d45e7d3ac3954f912991a897e5dbf452a2ff2f89"), looks := false }, kinds := [], alts := [], laidByText := true, laidKinds := [.data, .data, .data, .data, .pinned], laidTests := true, laidLooks := .later }
def FlightBuildsUptoCardSaid : Prop := Claim7.holds Tryz.pinned (.plain (OpenSpec.upto flightBuildsSpec)) flightBuildsUptoCard

/-- THE SECOND FORM's CARD OF 'lockkeeperlaw17.FlightGrants'. -/
def flightGrantsUptoCard : Claim7 := { stood := { row := flightGrantsUptoRow, standIns := [], harness := (true, "542fa0bbc9504dc78195c6b3d45e7d3ac3954f912991a897e5dbf452a2ff2f89"), looks := false }, kinds := [], alts := [], laidByText := true, laidKinds := [.data, .data, .data, .data, .pinned], laidTests := true, laidLooks := .later }
def FlightGrantsUptoCardSaid : Prop := Claim7.holds Tryz.pinned (.plain (OpenSpec.upto flightGrantsSpec)) flightGrantsUptoCard
end Rows
end Go.Proofs.YtfmajangcbgooaaGreatDoor
