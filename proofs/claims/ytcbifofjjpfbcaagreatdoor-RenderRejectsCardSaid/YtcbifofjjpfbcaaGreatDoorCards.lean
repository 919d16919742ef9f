/-
  DERIVED. GIVEN WITH THE SEED: THE CARDS: each row of YtcbifofjjpfbcaaGreatDoorRows.lean that lists a variable, with what it lists TIED to the program's text (the seventh form; the later family's looks); each row that meets fmt, with fmt's text TOLD by the authors' own Lean function (tested against real Go, not proved from fmt's source: count such statements apart). THE CARD IS WHAT COUNTS. Prove the row's statement (the work); the ties are given (YtcbifofjjpfbcaaGreatDoorTie.lean); close each card by the builder's one call (the guide's Derived/Test/ToyasCard.lean, 'card_holds'). Laid BY PROGRAM, IN A SANDBOX (cutbox-door.mjs). By AI agents, Wed Nov 11 2026. No macro, syntax, notation, axiom, sorry.
-/
import Derived.Test.YtcbifofjjpfbcaaGreatDoorRows
import GoSem.ClaimSeven
namespace Go.Proofs.YtcbifofjjpfbcaaGreatDoor
namespace Rows

/-- THE TIED CARD OF 'compositorlaw25.RenderAgrees'. -/
def renderAgreesCard : Claim7 := { stood := { row := renderAgreesRow, standIns := [], harness := (true, "ebd23242a4009b1e8b93896b59089e6327dbe469c13bdd8b8c9b5f0b9363c476"), looks := false }, kinds := [], alts := [], laidByText := true, laidKinds := [.data, .data], laidTests := true, laidLooks := .later }
def RenderAgreesCardSaid : Prop := Claim7.holds Tryz.pinned (.plain (OpenSpec.ofChange renderAgreesSpec)) renderAgreesCard

/-- THE TIED CARD OF 'compositorlaw25.RenderIgnoresTiles'. -/
def renderIgnoresTilesCard : Claim7 := { stood := { row := renderIgnoresTilesRow, standIns := [], harness := (true, "ebd23242a4009b1e8b93896b59089e6327dbe469c13bdd8b8c9b5f0b9363c476"), looks := false }, kinds := [], alts := [], laidByText := true, laidKinds := [.data, .data], laidTests := true, laidLooks := .later }
def RenderIgnoresTilesCardSaid : Prop := Claim7.holds Tryz.pinned (.plain (OpenSpec.ofChange renderIgnoresTilesSpec)) renderIgnoresTilesCard

/-- THE TIED CARD OF 'compositorlaw25.RenderKeepsItsInput'. -/
def renderKeepsItsInputCard : Claim7 := { stood := { row := renderKeepsItsInputRow, standIns := [], harness := (true, "ebd23242a4009b1e8b93896b59089e6327dbe469c13bdd8b8c9b5f0b9363c476"), looks := false }, kinds := [], alts := [], laidByText := true, laidKinds := [.data, .data], laidTests := true, laidLooks := .later }
def RenderKeepsItsInputCardSaid : Prop := Claim7.holds Tryz.pinned (.plain (OpenSpec.ofChange renderKeepsItsInputSpec)) renderKeepsItsInputCard

/-- THE TIED CARD OF 'compositorlaw25.RenderRegionIsAPart'. -/
def renderRegionIsAPartCard : Claim7 := { stood := { row := renderRegionIsAPartRow, standIns := [], harness := (true, "ebd23242a4009b1e8b93896b59089e6327dbe469c13bdd8b8c9b5f0b9363c476"), looks := false }, kinds := [], alts := [], laidByText := true, laidKinds := [.data, .data], laidTests := true, laidLooks := .later }
def RenderRegionIsAPartCardSaid : Prop := Claim7.holds Tryz.pinned (.plain (OpenSpec.ofChange renderRegionIsAPartSpec)) renderRegionIsAPartCard

/-- THE TIED CARD OF 'compositorlaw25.RenderWorkAgrees'. -/
def renderWorkAgreesCard : Claim7 := { stood := { row := renderWorkAgreesRow, standIns := [], harness := (true, "ebd23242a4009b1e8b93896b59089e6327dbe469c13bdd8b8c9b5f0b9363c476"), looks := false }, kinds := [], alts := [], laidByText := true, laidKinds := [.data, .data], laidTests := true, laidLooks := .later }
def RenderWorkAgreesCardSaid : Prop := Claim7.holds Tryz.pinned (.plain (OpenSpec.ofChange renderWorkAgreesSpec)) renderWorkAgreesCard

/-- THE TIED CARD OF 'compositorlaw25.RenderRejects'. -/
def renderRejectsCard : Claim7 := { stood := { row := renderRejectsRow, standIns := [], harness := (true, "ebd23242a4009b1e8b93896b59089e6327dbe469c13bdd8b8c9b5f0b9363c476"), looks := false }, kinds := [], alts := [], laidByText := true, laidKinds := [.data, .data], laidTests := true, laidLooks := .later }
def RenderRejectsCardSaid : Prop := Claim7.holds Tryz.pinned (.plain (OpenSpec.ofChange renderRejectsSpec)) renderRejectsCard

/-- THE TIED CARD OF 'compositorlaw25.RenderIsTheProbe'. -/
def renderIsTheProbeCard : Claim7 := { stood := { row := renderIsTheProbeRow, standIns := [], harness := (true, "ebd23242a4009b1e8b93896b59089e6327dbe469c13bdd8b8c9b5f0b9363c476"), looks := false }, kinds := [], alts := [], laidByText := true, laidKinds := [.data, .data], laidTests := true, laidLooks := .later }
def RenderIsTheProbeCardSaid : Prop := Claim7.holds Tryz.pinned (.plain (OpenSpec.ofChange renderIsTheProbeSpec)) renderIsTheProbeCard

/-- THE SECOND FORM's CARD OF 'compositorlaw25.RenderAgrees'. -/
def renderAgreesUptoCard : Claim7 := { stood := { row := renderAgreesUptoRow, standIns := [], harness := (true, "ebd23242a4009b1e8b93896b59089e6327dbe469c13bdd8b8c9b5f0b9363c476"), looks := false }, kinds := [], alts := [], laidByText := true, laidKinds := [.data, .data], laidTests := true, laidLooks := .later }
def RenderAgreesUptoCardSaid : Prop := Claim7.holds Tryz.pinned (.plain (OpenSpec.upto renderAgreesSpec)) renderAgreesUptoCard

/-- THE SECOND FORM's CARD OF 'compositorlaw25.RenderIgnoresTiles'. -/
def renderIgnoresTilesUptoCard : Claim7 := { stood := { row := renderIgnoresTilesUptoRow, standIns := [], harness := (true, "ebd23242a4009b1e8b93896b59089e6327dbe469c13bdd8b8c9b5f0b9363c476"), looks := false }, kinds := [], alts := [], laidByText := true, laidKinds := [.data, .data], laidTests := true, laidLooks := .later }
def RenderIgnoresTilesUptoCardSaid : Prop := Claim7.holds Tryz.pinned (.plain (OpenSpec.upto renderIgnoresTilesSpec)) renderIgnoresTilesUptoCard

/-- THE SECOND FORM's CARD OF 'compositorlaw25.RenderKeepsItsInput'. -/
def renderKeepsItsInputUptoCard : Claim7 := { stood := { row := renderKeepsItsInputUptoRow, standIns := [], harness := (true, "ebd23242a4009b1e8b93896b59089e6327dbe469c13bdd8b8c9b5f0b9363c476"), looks := false }, kinds := [], alts := [], laidByText := true, laidKinds := [.data, .data], laidTests := true, laidLooks := .later }
def RenderKeepsItsInputUptoCardSaid : Prop := Claim7.holds Tryz.pinned (.plain (OpenSpec.upto renderKeepsItsInputSpec)) renderKeepsItsInputUptoCard

/-- THE SECOND FORM's CARD OF 'compositorlaw25.RenderRegionIsAPart'. -/
def renderRegionIsAPartUptoCard : Claim7 := { stood := { row := renderRegionIsAPartUptoRow, standIns := [], harness := (true, "ebd23242a4009b1e8b93896b59089e6327dbe469c13bdd8b8c9b5f0b9363c476"), looks := false }, kinds := [], alts := [], laidByText := true, laidKinds := [.data, .data], laidTests := true, laidLooks := .later }
def RenderRegionIsAPartUptoCardSaid : Prop := Claim7.holds Tryz.pinned (.plain (OpenSpec.upto renderRegionIsAPartSpec)) renderRegionIsAPartUptoCard

/-- THE SECOND FORM's CARD OF 'compositorlaw25.RenderWorkAgrees'. -/
def renderWorkAgreesUptoCard : Claim7 := { stood := { row := renderWorkAgreesUptoRow, standIns := [], harness := (true, "ebd23242a4009b1e8b93896b59089e6327dbe469c13bdd8b8c9b5f0b9363c476"), looks := false }, kinds := [], alts := [], laidByText := true, laidKinds := [.data, .data], laidTests := true, laidLooks := .later }
def RenderWorkAgreesUptoCardSaid : Prop := Claim7.holds Tryz.pinned (.plain (OpenSpec.upto renderWorkAgreesSpec)) renderWorkAgreesUptoCard

/-- THE SECOND FORM's CARD OF 'compositorlaw25.RenderRejects'. -/
def renderRejectsUptoCard : Claim7 := { stood := { row := renderRejectsUptoRow, standIns := [], harness := (true, "ebd23242a4009b1e8b93896b59089e6327dbe469c13bdd8b8c9b5f0b9363c476"), looks := false }, kinds := [], alts := [], laidByText := true, laidKinds := [.data, .data], laidTests := true, laidLooks := .later }
def RenderRejectsUptoCardSaid : Prop := Claim7.holds Tryz.pinned (.plain (OpenSpec.upto renderRejectsSpec)) renderRejectsUptoCard

/-- THE SECOND FORM's CARD OF 'compositorlaw25.RenderIsTheProbe'. -/
def renderIsTheProbeUptoCard : Claim7 := { stood := { row := renderIsTheProbeUptoRow, standIns := [], harness := (true, "ebd23242a4009b1e8b93896b59089e6327dbe469c13bdd8b8c9b5f0b9363c476"), looks := false }, kinds := [], alts := [], laidByText := true, laidKinds := [.data, .data], laidTests := true, laidLooks := .later }
def RenderIsTheProbeUptoCardSaid : Prop := Claim7.holds Tryz.pinned (.plain (OpenSpec.upto renderIsTheProbeSpec)) renderIsTheProbeUptoCard
end Rows
end Go.Proofs.YtcbifofjjpfbcaaGreatDoor
