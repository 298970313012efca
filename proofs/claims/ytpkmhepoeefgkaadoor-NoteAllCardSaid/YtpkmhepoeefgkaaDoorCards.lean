/-
  DERIVED. GIVEN WITH THE SEED: THE CARDS: each row of YtpkmhepoeefgkaaDoorRows.lean that lists a variable, with what it lists TIED to the program's text (the seventh form; the later family's looks); each row that meets fmt, with fmt's text TOLD by the authors' own Lean function (tested against real Go, not proved from fmt's source: count such statements apart). THE CARD IS WHAT COUNTS. Prove the row's statement (the work); the ties are given (YtpkmhepoeefgkaaDoorTie.lean); close each card by the builder's one call (the guide's Derived/Test/ToyasCard.lean, 'card_holds'). Laid BY PROGRAM, IN A SANDBOX (cutbox-door.mjs). By AI agents, Wed Nov 11 2026. No macro, syntax, notation, axiom, sorry.
-/
import Derived.Test.YtpkmhepoeefgkaaDoorRows
import GoSem.ClaimSeven
namespace Go.Proofs.YtpkmhepoeefgkaaDoor
namespace Rows

/-- THE TIED CARD OF 'lockkeeperlaw24.NoteBack'. -/
def noteBackCard : Claim7 := { stood := { row := noteBackRow, standIns := [], harness := (true, "be4678ab2119c5bb267dcc34cc12066f9ead63d240207977ce04efdab9011c57"), looks := false }, kinds := [], alts := [], laidByText := true, laidKinds := [.data, .data, .data, .data, .pinned], laidTests := true, laidLooks := .later }
def NoteBackCardSaid : Prop := Claim7.holds Tryd.pinned (.plain (OpenSpec.ofChange noteBackSpec)) noteBackCard

/-- THE TIED CARD OF 'lockkeeperlaw24.NoteApart'. -/
def noteApartCard : Claim7 := { stood := { row := noteApartRow, standIns := [], harness := (true, "be4678ab2119c5bb267dcc34cc12066f9ead63d240207977ce04efdab9011c57"), looks := false }, kinds := [], alts := [], laidByText := true, laidKinds := [.data, .data, .data, .data, .pinned], laidTests := true, laidLooks := .later }
def NoteApartCardSaid : Prop := Claim7.holds Tryd.pinned (.plain (OpenSpec.ofChange noteApartSpec)) noteApartCard

/-- THE TIED CARD OF 'lockkeeperlaw24.NoteAll'. -/
def noteAllCard : Claim7 := { stood := { row := noteAllRow, standIns := [], harness := (true, "be4678ab2119c5bb267dcc34cc12066f9ead63d240207977ce04efdab9011c57"), looks := false }, kinds := [], alts := [], laidByText := true, laidKinds := [.data, .data, .data, .data, .pinned], laidTests := true, laidLooks := .later }
def NoteAllCardSaid : Prop := Claim7.holds Tryd.pinned (.plain (OpenSpec.ofChange noteAllSpec)) noteAllCard

/-- THE TIED CARD OF 'lockkeeperlaw24.NoteLines'. -/
def noteLinesCard : Claim7 := { stood := { row := noteLinesRow, standIns := [], harness := (true, "be4678ab2119c5bb267dcc34cc12066f9ead63d240207977ce04efdab9011c57"), looks := false }, kinds := [], alts := [], laidByText := true, laidKinds := [.data, .data, .data, .data, .pinned], laidTests := true, laidLooks := .later }
def NoteLinesCardSaid : Prop := Claim7.holds Tryd.pinned (.plain (OpenSpec.ofChange noteLinesSpec)) noteLinesCard

/-- THE TIED CARD OF 'lockkeeperlaw24.NoteJoins'. -/
def noteJoinsCard : Claim7 := { stood := { row := noteJoinsRow, standIns := [], harness := (true, "be4678ab2119c5bb267dcc34cc12066f9ead63d240207977ce04efdab9011c57"), looks := false }, kinds := [], alts := [], laidByText := true, laidKinds := [.data, .data, .data, .data, .pinned], laidTests := true, laidLooks := .later }
def NoteJoinsCardSaid : Prop := Claim7.holds Tryd.pinned (.plain (OpenSpec.ofChange noteJoinsSpec)) noteJoinsCard

/-- THE SECOND FORM's CARD OF 'lockkeeperlaw24.NoteBack'. -/
def noteBackUptoCard : Claim7 := { stood := { row := noteBackUptoRow, standIns := [], harness := (true, "be4678ab2119c5bb267dcc34cc12066f9ead63d240207977ce04efdab9011c57"), looks := false }, kinds := [], alts := [], laidByText := true, laidKinds := [.data, .data, .data, .data, .pinned], laidTests := true, laidLooks := .later }
def NoteBackUptoCardSaid : Prop := Claim7.holds Tryd.pinned (.plain (OpenSpec.upto noteBackSpec)) noteBackUptoCard

/-- THE SECOND FORM's CARD OF 'lockkeeperlaw24.NoteApart'. -/
def noteApartUptoCard : Claim7 := { stood := { row := noteApartUptoRow, standIns := [], harness := (true, "be4678ab2119c5bb267dcc34cc12066f9ead63d240207977ce04efdab9011c57"), looks := false }, kinds := [], alts := [], laidByText := true, laidKinds := [.data, .data, .data, .data, .pinned], laidTests := true, laidLooks := .later }
def NoteApartUptoCardSaid : Prop := Claim7.holds Tryd.pinned (.plain (OpenSpec.upto noteApartSpec)) noteApartUptoCard

/-- THE SECOND FORM's CARD OF 'lockkeeperlaw24.NoteAll'. -/
def noteAllUptoCard : Claim7 := { stood := { row := noteAllUptoRow, standIns := [], harness := (true, "be4678ab2119c5bb267dcc34cc12066f9ead63d240207977ce04efdab9011c57"), looks := false }, kinds := [], alts := [], laidByText := true, laidKinds := [.data, .data, .data, .data, .pinned], laidTests := true, laidLooks := .later }
def NoteAllUptoCardSaid : Prop := Claim7.holds Tryd.pinned (.plain (OpenSpec.upto noteAllSpec)) noteAllUptoCard

/-- THE SECOND FORM's CARD OF 'lockkeeperlaw24.NoteLines'. -/
def noteLinesUptoCard : Claim7 := { stood := { row := noteLinesUptoRow, standIns := [], harness := (true, "be4678ab2119c5bb267dcc34cc12066f9ead63d240207977ce04efdab9011c57"), looks := false }, kinds := [], alts := [], laidByText := true, laidKinds := [.data, .data, .data, .data, .pinned], laidTests := true, laidLooks := .later }
def NoteLinesUptoCardSaid : Prop := Claim7.holds Tryd.pinned (.plain (OpenSpec.upto noteLinesSpec)) noteLinesUptoCard

/-- THE SECOND FORM's CARD OF 'lockkeeperlaw24.NoteJoins'. -/
def noteJoinsUptoCard : Claim7 := { stood := { row := noteJoinsUptoRow, standIns := [], harness := (true, "be4678ab2119c5bb267dcc34cc12066f9ead63d240207977ce04efdab9011c57"), looks := false }, kinds := [], alts := [], laidByText := true, laidKinds := [.data, .data, .data, .data, .pinned], laidTests := true, laidLooks := .later }
def NoteJoinsUptoCardSaid : Prop := Claim7.holds Tryd.pinned (.plain (OpenSpec.upto noteJoinsSpec)) noteJoinsUptoCard
end Rows
end Go.Proofs.YtpkmhepoeefgkaaDoor
