/-
  DERIVED. GIVEN WITH THE SEED: THE CARDS: each row of YtbfbidifodcedaaDoorRows.lean that lists a variable, with what it lists TIED to the program's text (the seventh form; the later family's looks); each row that meets fmt, with fmt's text TOLD by the authors' own Lean function (tested against real Go, not proved from fmt's source: count such statements apart). THE CARD IS WHAT COUNTS. Prove the row's statement (the work); the ties are given (YtbfbidifodcedaaDoorTie.lean); close each card by the builder's one call (the guide's Derived/Test/ToyasCard.lean, 'card_holds'). Laid BY PROGRAM, IN A SANDBOX (cutbox-door.mjs). By AI agents, Wed Nov 11 2026. No macro, syntax, notation, axiom, sorry.
-/
import Derived.Test.YtbfbidifodcedaaDoorRows
import GoSem.ClaimSeven
namespace Go.Proofs.YtbfbidifodcedaaDoor
namespace Rows

/-- THE TIED CARD OF 'lockkeeperlaw3.OriginAll'. -/
def originAllCard : Claim7 := { stood := { row := originAllRow, standIns := [], harness := (true, "92d1f7180c5a082e4b860affc1cc1fac8f2384ef89117d5988e8040e42702b5f"), looks := false }, kinds := [], alts := [], laidByText := true, laidKinds := [.data, .data, .data, .data, .pinned], laidTests := true, laidLooks := .later }
def OriginAllCardSaid : Prop := Claim7.holds Tryd.pinned (.plain (OpenSpec.ofChange originAllSpec)) originAllCard

/-- THE TIED CARD OF 'lockkeeperlaw3.OriginBack'. -/
def originBackCard : Claim7 := { stood := { row := originBackRow, standIns := [], harness := (true, "92d1f7180c5a082e4b860affc1cc1fac8f2384ef89117d5988e8040e42702b5f"), looks := false }, kinds := [], alts := [], laidByText := true, laidKinds := [.data, .data, .data, .data, .pinned], laidTests := true, laidLooks := .later }
def OriginBackCardSaid : Prop := Claim7.holds Tryd.pinned (.plain (OpenSpec.ofChange originBackSpec)) originBackCard

/-- THE TIED CARD OF 'lockkeeperlaw3.OriginCases'. -/
def originCasesCard : Claim7 := { stood := { row := originCasesRow, standIns := [], harness := (true, "92d1f7180c5a082e4b860affc1cc1fac8f2384ef89117d5988e8040e42702b5f"), looks := false }, kinds := [], alts := [], laidByText := true, laidKinds := [.data, .data, .data, .data, .pinned], laidTests := true, laidLooks := .later }
def OriginCasesCardSaid : Prop := Claim7.holds Tryd.pinned (.plain (OpenSpec.ofChange originCasesSpec)) originCasesCard

/-- THE TIED CARD OF 'lockkeeperlaw3.OriginPorts'. -/
def originPortsCard : Claim7 := { stood := { row := originPortsRow, standIns := [], harness := (true, "92d1f7180c5a082e4b860affc1cc1fac8f2384ef89117d5988e8040e42702b5f"), looks := false }, kinds := [], alts := [], laidByText := true, laidKinds := [.data, .data, .data, .data, .pinned], laidTests := true, laidLooks := .later }
def OriginPortsCardSaid : Prop := Claim7.holds Tryd.pinned (.plain (OpenSpec.ofChange originPortsSpec)) originPortsCard

/-- THE TIED CARD OF 'lockkeeperlaw3.OriginLabels'. -/
def originLabelsCard : Claim7 := { stood := { row := originLabelsRow, standIns := [], harness := (true, "92d1f7180c5a082e4b860affc1cc1fac8f2384ef89117d5988e8040e42702b5f"), looks := false }, kinds := [], alts := [], laidByText := true, laidKinds := [.data, .data, .data, .data, .pinned], laidTests := true, laidLooks := .later }
def OriginLabelsCardSaid : Prop := Claim7.holds Tryd.pinned (.plain (OpenSpec.ofChange originLabelsSpec)) originLabelsCard

/-- THE TIED CARD OF 'lockkeeperlaw3.OriginApart'. -/
def originApartCard : Claim7 := { stood := { row := originApartRow, standIns := [], harness := (true, "92d1f7180c5a082e4b860affc1cc1fac8f2384ef89117d5988e8040e42702b5f"), looks := false }, kinds := [], alts := [], laidByText := true, laidKinds := [.data, .data, .data, .data, .pinned], laidTests := true, laidLooks := .later }
def OriginApartCardSaid : Prop := Claim7.holds Tryd.pinned (.plain (OpenSpec.ofChange originApartSpec)) originApartCard

/-- THE TIED CARD OF 'lockkeeperlaw4.TargetAll'. -/
def targetAllCard : Claim7 := { stood := { row := targetAllRow, standIns := [], harness := (true, "92d1f7180c5a082e4b860affc1cc1fac8f2384ef89117d5988e8040e42702b5f"), looks := false }, kinds := [], alts := [], laidByText := true, laidKinds := [.data, .data, .data, .data, .pinned], laidTests := true, laidLooks := .later }
def TargetAllCardSaid : Prop := Claim7.holds Tryd.pinned (.plain (OpenSpec.ofChange targetAllSpec)) targetAllCard

/-- THE TIED CARD OF 'lockkeeperlaw4.TargetShows'. -/
def targetShowsCard : Claim7 := { stood := { row := targetShowsRow, standIns := [], harness := (true, "92d1f7180c5a082e4b860affc1cc1fac8f2384ef89117d5988e8040e42702b5f"), looks := false }, kinds := [], alts := [], laidByText := true, laidKinds := [.data, .data, .data, .data, .pinned], laidTests := true, laidLooks := .later }
def TargetShowsCardSaid : Prop := Claim7.holds Tryd.pinned (.plain (OpenSpec.ofChange targetShowsSpec)) targetShowsCard

/-- THE TIED CARD OF 'lockkeeperlaw4.TargetBack'. -/
def targetBackCard : Claim7 := { stood := { row := targetBackRow, standIns := [], harness := (true, "92d1f7180c5a082e4b860affc1cc1fac8f2384ef89117d5988e8040e42702b5f"), looks := false }, kinds := [], alts := [], laidByText := true, laidKinds := [.data, .data, .data, .data, .pinned], laidTests := true, laidLooks := .later }
def TargetBackCardSaid : Prop := Claim7.holds Tryd.pinned (.plain (OpenSpec.ofChange targetBackSpec)) targetBackCard

/-- THE TIED CARD OF 'lockkeeperlaw4.TargetCleans'. -/
def targetCleansCard : Claim7 := { stood := { row := targetCleansRow, standIns := [], harness := (true, "92d1f7180c5a082e4b860affc1cc1fac8f2384ef89117d5988e8040e42702b5f"), looks := false }, kinds := [], alts := [], laidByText := true, laidKinds := [.data, .data, .data, .data, .pinned], laidTests := true, laidLooks := .later }
def TargetCleansCardSaid : Prop := Claim7.holds Tryd.pinned (.plain (OpenSpec.ofChange targetCleansSpec)) targetCleansCard

/-- THE TIED CARD OF 'lockkeeperlaw4.TargetSegments'. -/
def targetSegmentsCard : Claim7 := { stood := { row := targetSegmentsRow, standIns := [], harness := (true, "92d1f7180c5a082e4b860affc1cc1fac8f2384ef89117d5988e8040e42702b5f"), looks := false }, kinds := [], alts := [], laidByText := true, laidKinds := [.data, .data, .data, .data, .pinned], laidTests := true, laidLooks := .later }
def TargetSegmentsCardSaid : Prop := Claim7.holds Tryd.pinned (.plain (OpenSpec.ofChange targetSegmentsSpec)) targetSegmentsCard

/-- THE TIED CARD OF 'lockkeeperlaw4.TargetFragments'. -/
def targetFragmentsCard : Claim7 := { stood := { row := targetFragmentsRow, standIns := [], harness := (true, "92d1f7180c5a082e4b860affc1cc1fac8f2384ef89117d5988e8040e42702b5f"), looks := false }, kinds := [], alts := [], laidByText := true, laidKinds := [.data, .data, .data, .data, .pinned], laidTests := true, laidLooks := .later }
def TargetFragmentsCardSaid : Prop := Claim7.holds Tryd.pinned (.plain (OpenSpec.ofChange targetFragmentsSpec)) targetFragmentsCard

/-- THE TIED CARD OF 'lockkeeperlaw4.TargetUps'. -/
def targetUpsCard : Claim7 := { stood := { row := targetUpsRow, standIns := [], harness := (true, "92d1f7180c5a082e4b860affc1cc1fac8f2384ef89117d5988e8040e42702b5f"), looks := false }, kinds := [], alts := [], laidByText := true, laidKinds := [.data, .data, .data, .data, .pinned], laidTests := true, laidLooks := .later }
def TargetUpsCardSaid : Prop := Claim7.holds Tryd.pinned (.plain (OpenSpec.ofChange targetUpsSpec)) targetUpsCard

/-- THE TIED CARD OF 'lockkeeperlaw4.TargetOrigins'. -/
def targetOriginsCard : Claim7 := { stood := { row := targetOriginsRow, standIns := [], harness := (true, "92d1f7180c5a082e4b860affc1cc1fac8f2384ef89117d5988e8040e42702b5f"), looks := false }, kinds := [], alts := [], laidByText := true, laidKinds := [.data, .data, .data, .data, .pinned], laidTests := true, laidLooks := .later }
def TargetOriginsCardSaid : Prop := Claim7.holds Tryd.pinned (.plain (OpenSpec.ofChange targetOriginsSpec)) targetOriginsCard

/-- THE SECOND FORM's CARD OF 'lockkeeperlaw3.OriginAll'. -/
def originAllUptoCard : Claim7 := { stood := { row := originAllUptoRow, standIns := [], harness := (true, "92d1f7180c5a082e4b860affc1cc1fac8f2384ef89117d5988e8040e42702b5f"), looks := false }, kinds := [], alts := [], laidByText := true, laidKinds := [.data, .data, .data, .data, .pinned], laidTests := true, laidLooks := .later }
def OriginAllUptoCardSaid : Prop := Claim7.holds Tryd.pinned (.plain (OpenSpec.upto originAllSpec)) originAllUptoCard

/-- THE SECOND FORM's CARD OF 'lockkeeperlaw3.OriginBack'. -/
def originBackUptoCard : Claim7 := { stood := { row := originBackUptoRow, standIns := [], harness := (true, "92d1f7180c5a082e4b860affc1cc1fac8f2384ef89117d5988e8040e42702b5f"), looks := false }, kinds := [], alts := [], laidByText := true, laidKinds := [.data, .data, .data, .data, .pinned], laidTests := true, laidLooks := .later }
def OriginBackUptoCardSaid : Prop := Claim7.holds Tryd.pinned (.plain (OpenSpec.upto originBackSpec)) originBackUptoCard

/-- THE SECOND FORM's CARD OF 'lockkeeperlaw3.OriginCases'. -/
def originCasesUptoCard : Claim7 := { stood := { row := originCasesUptoRow, standIns := [], harness := (true, "92d1f7180c5a082e4b860affc1cc1fac8f2384ef89117d5988e8040e42702b5f"), looks := false }, kinds := [], alts := [], laidByText := true, laidKinds := [.data, .data, .data, .data, .pinned], laidTests := true, laidLooks := .later }
def OriginCasesUptoCardSaid : Prop := Claim7.holds Tryd.pinned (.plain (OpenSpec.upto originCasesSpec)) originCasesUptoCard

/-- THE SECOND FORM's CARD OF 'lockkeeperlaw3.OriginPorts'. -/
def originPortsUptoCard : Claim7 := { stood := { row := originPortsUptoRow, standIns := [], harness := (true, "92d1f7180c5a082e4b860affc1cc1fac8f2384ef89117d5988e8040e42702b5f"), looks := false }, kinds := [], alts := [], laidByText := true, laidKinds := [.data, .data, .data, .data, .pinned], laidTests := true, laidLooks := .later }
def OriginPortsUptoCardSaid : Prop := Claim7.holds Tryd.pinned (.plain (OpenSpec.upto originPortsSpec)) originPortsUptoCard

/-- THE SECOND FORM's CARD OF 'lockkeeperlaw3.OriginLabels'. -/
def originLabelsUptoCard : Claim7 := { stood := { row := originLabelsUptoRow, standIns := [], harness := (true, "92d1f7180c5a082e4b860affc1cc1fac8f2384ef89117d5988e8040e42702b5f"), looks := false }, kinds := [], alts := [], laidByText := true, laidKinds := [.data, .data, .data, .data, .pinned], laidTests := true, laidLooks := .later }
def OriginLabelsUptoCardSaid : Prop := Claim7.holds Tryd.pinned (.plain (OpenSpec.upto originLabelsSpec)) originLabelsUptoCard

/-- THE SECOND FORM's CARD OF 'lockkeeperlaw3.OriginApart'. -/
def originApartUptoCard : Claim7 := { stood := { row := originApartUptoRow, standIns := [], harness := (true, "92d1f7180c5a082e4b860affc1cc1fac8f2384ef89117d5988e8040e42702b5f"), looks := false }, kinds := [], alts := [], laidByText := true, laidKinds := [.data, .data, .data, .data, .pinned], laidTests := true, laidLooks := .later }
def OriginApartUptoCardSaid : Prop := Claim7.holds Tryd.pinned (.plain (OpenSpec.upto originApartSpec)) originApartUptoCard

/-- THE SECOND FORM's CARD OF 'lockkeeperlaw4.TargetAll'. -/
def targetAllUptoCard : Claim7 := { stood := { row := targetAllUptoRow, standIns := [], harness := (true, "92d1f7180c5a082e4b860affc1cc1fac8f2384ef89117d5988e8040e42702b5f"), looks := false }, kinds := [], alts := [], laidByText := true, laidKinds := [.data, .data, .data, .data, .pinned], laidTests := true, laidLooks := .later }
def TargetAllUptoCardSaid : Prop := Claim7.holds Tryd.pinned (.plain (OpenSpec.upto targetAllSpec)) targetAllUptoCard

/-- THE SECOND FORM's CARD OF 'lockkeeperlaw4.TargetShows'. -/
def targetShowsUptoCard : Claim7 := { stood := { row := targetShowsUptoRow, standIns := [], harness := (true, "92d1f7180c5a082e4b860affc1cc1fac8f2384ef89117d5988e8040e42702b5f"), looks := false }, kinds := [], alts := [], laidByText := true, laidKinds := [.data, .data, .data, .data, .pinned], laidTests := true, laidLooks := .later }
def TargetShowsUptoCardSaid : Prop := Claim7.holds Tryd.pinned (.plain (OpenSpec.upto targetShowsSpec)) targetShowsUptoCard

/-- THE SECOND FORM's CARD OF 'lockkeeperlaw4.TargetBack'. -/
def targetBackUptoCard : Claim7 := { stood := { row := targetBackUptoRow, standIns := [], harness := (true, "92d1f7180c5a082e4b860affc1cc1fac8f2384ef89117d5988e8040e42702b5f"), looks := false }, kinds := [], alts := [], laidByText := true, laidKinds := [.data, .data, .data, .data, .pinned], laidTests := true, laidLooks := .later }
def TargetBackUptoCardSaid : Prop := Claim7.holds Tryd.pinned (.plain (OpenSpec.upto targetBackSpec)) targetBackUptoCard

/-- THE SECOND FORM's CARD OF 'lockkeeperlaw4.TargetCleans'. -/
def targetCleansUptoCard : Claim7 := { stood := { row := targetCleansUptoRow, standIns := [], harness := (true, "92d1f7180c5a082e4b860affc1cc1fac8f2384ef89117d5988e8040e42702b5f"), looks := false }, kinds := [], alts := [], laidByText := true, laidKinds := [.data, .data, .data, .data, .pinned], laidTests := true, laidLooks := .later }
def TargetCleansUptoCardSaid : Prop := Claim7.holds Tryd.pinned (.plain (OpenSpec.upto targetCleansSpec)) targetCleansUptoCard

/-- THE SECOND FORM's CARD OF 'lockkeeperlaw4.TargetSegments'. -/
def targetSegmentsUptoCard : Claim7 := { stood := { row := targetSegmentsUptoRow, standIns := [], harness := (true, "92d1f7180c5a082e4b860affc1cc1fac8f2384ef89117d5988e8040e42702b5f"), looks := false }, kinds := [], alts := [], laidByText := true, laidKinds := [.data, .data, .data, .data, .pinned], laidTests := true, laidLooks := .later }
def TargetSegmentsUptoCardSaid : Prop := Claim7.holds Tryd.pinned (.plain (OpenSpec.upto targetSegmentsSpec)) targetSegmentsUptoCard

/-- THE SECOND FORM's CARD OF 'lockkeeperlaw4.TargetFragments'. -/
def targetFragmentsUptoCard : Claim7 := { stood := { row := targetFragmentsUptoRow, standIns := [], harness := (true, "92d1f7180c5a082e4b860affc1cc1fac8f2384ef89117d5988e8040e42702b5f"), looks := false }, kinds := [], alts := [], laidByText := true, laidKinds := [.data, .data, .data, .data, .pinned], laidTests := true, laidLooks := .later }
def TargetFragmentsUptoCardSaid : Prop := Claim7.holds Tryd.pinned (.plain (OpenSpec.upto targetFragmentsSpec)) targetFragmentsUptoCard

/-- THE SECOND FORM's CARD OF 'lockkeeperlaw4.TargetUps'. -/
def targetUpsUptoCard : Claim7 := { stood := { row := targetUpsUptoRow, standIns := [], harness := (true, "92d1f7180c5a082e4b860affc1cc1fac8f2384ef89117d5988e8040e42702b5f"), looks := false }, kinds := [], alts := [], laidByText := true, laidKinds := [.data, .data, .data, .data, .pinned], laidTests := true, laidLooks := .later }
def TargetUpsUptoCardSaid : Prop := Claim7.holds Tryd.pinned (.plain (OpenSpec.upto targetUpsSpec)) targetUpsUptoCard

/-- THE SECOND FORM's CARD OF 'lockkeeperlaw4.TargetOrigins'. -/
def targetOriginsUptoCard : Claim7 := { stood := { row := targetOriginsUptoRow, standIns := [], harness := (true, "92d1f7180c5a082e4b860affc1cc1fac8f2384ef89117d5988e8040e42702b5f"), looks := false }, kinds := [], alts := [], laidByText := true, laidKinds := [.data, .data, .data, .data, .pinned], laidTests := true, laidLooks := .later }
def TargetOriginsUptoCardSaid : Prop := Claim7.holds Tryd.pinned (.plain (OpenSpec.upto targetOriginsSpec)) targetOriginsUptoCard
end Rows
end Go.Proofs.YtbfbidifodcedaaDoor
