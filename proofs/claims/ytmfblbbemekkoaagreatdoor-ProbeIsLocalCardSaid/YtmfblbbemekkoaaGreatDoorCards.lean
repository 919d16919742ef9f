/-
  DERIVED. GIVEN WITH THE SEED: THE CARDS: each row of YtmfblbbemekkoaaGreatDoorRows.lean that lists a variable, with what it lists TIED to the program's text (the seventh form; the later family's looks); each row that meets fmt, with fmt's text TOLD by the authors' own Lean function (tested against real Go, not proved from fmt's source: count such statements apart). THE CARD IS WHAT COUNTS. Prove the row's statement (the work); the ties are given (YtmfblbbemekkoaaGreatDoorTie.lean); close each card by the builder's one call (the guide's Derived/Test/ToyasCard.lean, 'card_holds'). Laid BY PROGRAM, IN A SANDBOX (cutbox-door.mjs). By AI agents, Wed Nov 11 2026. No macro, syntax, notation, axiom, sorry.
-/
import Derived.Test.YtmfblbbemekkoaaGreatDoorRows
import GoSem.ClaimSeven
namespace Go.Proofs.YtmfblbbemekkoaaGreatDoor
namespace Rows

/-- THE TIED CARD OF 'compositorlaw23.ProbeSampleAgrees'. -/
def probeSampleAgreesCard : Claim7 := { stood := { row := probeSampleAgreesRow, standIns := [], harness := (true, "b7286bd364013388ad80c73ed306d93e45756609ce7bfe2f79f8e5d3248f2836"), looks := false }, kinds := [], alts := [], laidByText := true, laidKinds := [.data, .data], laidTests := true, laidLooks := .later }
def ProbeSampleAgreesCardSaid : Prop := Claim7.holds Tryz.pinned (.plain (OpenSpec.ofChange probeSampleAgreesSpec)) probeSampleAgreesCard

/-- THE TIED CARD OF 'compositorlaw23.ProbeEvalAgrees'. -/
def probeEvalAgreesCard : Claim7 := { stood := { row := probeEvalAgreesRow, standIns := [], harness := (true, "b7286bd364013388ad80c73ed306d93e45756609ce7bfe2f79f8e5d3248f2836"), looks := false }, kinds := [], alts := [], laidByText := true, laidKinds := [.data, .data], laidTests := true, laidLooks := .later }
def ProbeEvalAgreesCardSaid : Prop := Claim7.holds Tryz.pinned (.plain (OpenSpec.ofChange probeEvalAgreesSpec)) probeEvalAgreesCard

/-- THE TIED CARD OF 'compositorlaw23.ProbeRejects'. -/
def probeRejectsCard : Claim7 := { stood := { row := probeRejectsRow, standIns := [], harness := (true, "b7286bd364013388ad80c73ed306d93e45756609ce7bfe2f79f8e5d3248f2836"), looks := false }, kinds := [], alts := [], laidByText := true, laidKinds := [.data, .data], laidTests := true, laidLooks := .later }
def ProbeRejectsCardSaid : Prop := Claim7.holds Tryz.pinned (.plain (OpenSpec.ofChange probeRejectsSpec)) probeRejectsCard

/-- THE TIED CARD OF 'compositorlaw23.ProbeTraceAgrees'. -/
def probeTraceAgreesCard : Claim7 := { stood := { row := probeTraceAgreesRow, standIns := [], harness := (true, "b7286bd364013388ad80c73ed306d93e45756609ce7bfe2f79f8e5d3248f2836"), looks := false }, kinds := [], alts := [], laidByText := true, laidKinds := [.data, .data], laidTests := true, laidLooks := .later }
def ProbeTraceAgreesCardSaid : Prop := Claim7.holds Tryz.pinned (.plain (OpenSpec.ofChange probeTraceAgreesSpec)) probeTraceAgreesCard

/-- THE TIED CARD OF 'compositorlaw23.ProbeTranslates'. -/
def probeTranslatesCard : Claim7 := { stood := { row := probeTranslatesRow, standIns := [], harness := (true, "b7286bd364013388ad80c73ed306d93e45756609ce7bfe2f79f8e5d3248f2836"), looks := false }, kinds := [], alts := [], laidByText := true, laidKinds := [.data, .data], laidTests := true, laidLooks := .later }
def ProbeTranslatesCardSaid : Prop := Claim7.holds Tryz.pinned (.plain (OpenSpec.ofChange probeTranslatesSpec)) probeTranslatesCard

/-- THE TIED CARD OF 'compositorlaw23.ProbeIsLocal'. -/
def probeIsLocalCard : Claim7 := { stood := { row := probeIsLocalRow, standIns := [], harness := (true, "b7286bd364013388ad80c73ed306d93e45756609ce7bfe2f79f8e5d3248f2836"), looks := false }, kinds := [], alts := [], laidByText := true, laidKinds := [.data, .data], laidTests := true, laidLooks := .later }
def ProbeIsLocalCardSaid : Prop := Claim7.holds Tryz.pinned (.plain (OpenSpec.ofChange probeIsLocalSpec)) probeIsLocalCard

/-- THE TIED CARD OF 'compositorlaw25.RenderAgrees'. -/
def renderAgreesCard : Claim7 := { stood := { row := renderAgreesRow, standIns := [], harness := (true, "b7286bd364013388ad80c73ed306d93e45756609ce7bfe2f79f8e5d3248f2836"), looks := false }, kinds := [], alts := [], laidByText := true, laidKinds := [.data, .data], laidTests := true, laidLooks := .later }
def RenderAgreesCardSaid : Prop := Claim7.holds Tryz.pinned (.plain (OpenSpec.ofChange renderAgreesSpec)) renderAgreesCard

/-- THE TIED CARD OF 'compositorlaw25.RenderIgnoresTiles'. -/
def renderIgnoresTilesCard : Claim7 := { stood := { row := renderIgnoresTilesRow, standIns := [], harness := (true, "b7286bd364013388ad80c73ed306d93e45756609ce7bfe2f79f8e5d3248f2836"), looks := false }, kinds := [], alts := [], laidByText := true, laidKinds := [.data, .data], laidTests := true, laidLooks := .later }
def RenderIgnoresTilesCardSaid : Prop := Claim7.holds Tryz.pinned (.plain (OpenSpec.ofChange renderIgnoresTilesSpec)) renderIgnoresTilesCard

/-- THE TIED CARD OF 'compositorlaw25.RenderRegionIsAPart'. -/
def renderRegionIsAPartCard : Claim7 := { stood := { row := renderRegionIsAPartRow, standIns := [], harness := (true, "b7286bd364013388ad80c73ed306d93e45756609ce7bfe2f79f8e5d3248f2836"), looks := false }, kinds := [], alts := [], laidByText := true, laidKinds := [.data, .data], laidTests := true, laidLooks := .later }
def RenderRegionIsAPartCardSaid : Prop := Claim7.holds Tryz.pinned (.plain (OpenSpec.ofChange renderRegionIsAPartSpec)) renderRegionIsAPartCard

/-- THE TIED CARD OF 'compositorlaw25.RenderWorkAgrees'. -/
def renderWorkAgreesCard : Claim7 := { stood := { row := renderWorkAgreesRow, standIns := [], harness := (true, "b7286bd364013388ad80c73ed306d93e45756609ce7bfe2f79f8e5d3248f2836"), looks := false }, kinds := [], alts := [], laidByText := true, laidKinds := [.data, .data], laidTests := true, laidLooks := .later }
def RenderWorkAgreesCardSaid : Prop := Claim7.holds Tryz.pinned (.plain (OpenSpec.ofChange renderWorkAgreesSpec)) renderWorkAgreesCard

/-- THE TIED CARD OF 'compositorlaw25.RenderRejects'. -/
def renderRejectsCard : Claim7 := { stood := { row := renderRejectsRow, standIns := [], harness := (true, "b7286bd364013388ad80c73ed306d93e45756609ce7bfe2f79f8e5d3248f2836"), looks := false }, kinds := [], alts := [], laidByText := true, laidKinds := [.data, .data], laidTests := true, laidLooks := .later }
def RenderRejectsCardSaid : Prop := Claim7.holds Tryz.pinned (.plain (OpenSpec.ofChange renderRejectsSpec)) renderRejectsCard

/-- THE TIED CARD OF 'compositorlaw25.RenderIsTheProbe'. -/
def renderIsTheProbeCard : Claim7 := { stood := { row := renderIsTheProbeRow, standIns := [], harness := (true, "b7286bd364013388ad80c73ed306d93e45756609ce7bfe2f79f8e5d3248f2836"), looks := false }, kinds := [], alts := [], laidByText := true, laidKinds := [.data, .data], laidTests := true, laidLooks := .later }
def RenderIsTheProbeCardSaid : Prop := Claim7.holds Tryz.pinned (.plain (OpenSpec.ofChange renderIsTheProbeSpec)) renderIsTheProbeCard

/-- THE SECOND FORM's CARD OF 'compositorlaw23.ProbeSampleAgrees'. -/
def probeSampleAgreesUptoCard : Claim7 := { stood := { row := probeSampleAgreesUptoRow, standIns := [], harness := (true, "b7286bd364013388ad80c73ed306d93e45756609ce7bfe2f79f8e5d3248f2836"), looks := false }, kinds := [], alts := [], laidByText := true, laidKinds := [.data, .data], laidTests := true, laidLooks := .later }
def ProbeSampleAgreesUptoCardSaid : Prop := Claim7.holds Tryz.pinned (.plain (OpenSpec.upto probeSampleAgreesSpec)) probeSampleAgreesUptoCard

/-- THE SECOND FORM's CARD OF 'compositorlaw23.ProbeEvalAgrees'. -/
def probeEvalAgreesUptoCard : Claim7 := { stood := { row := probeEvalAgreesUptoRow, standIns := [], harness := (true, "b7286bd364013388ad80c73ed306d93e45756609ce7bfe2f79f8e5d3248f2836"), looks := false }, kinds := [], alts := [], laidByText := true, laidKinds := [.data, .data], laidTests := true, laidLooks := .later }
def ProbeEvalAgreesUptoCardSaid : Prop := Claim7.holds Tryz.pinned (.plain (OpenSpec.upto probeEvalAgreesSpec)) probeEvalAgreesUptoCard

/-- THE SECOND FORM's CARD OF 'compositorlaw23.ProbeRejects'. -/
def probeRejectsUptoCard : Claim7 := { stood := { row := probeRejectsUptoRow, standIns := [], harness := (true, "b7286bd364013388ad80c73ed306d93e45756609ce7bfe2f79f8e5d3248f2836"), looks := false }, kinds := [], alts := [], laidByText := true, laidKinds := [.data, .data], laidTests := true, laidLooks := .later }
def ProbeRejectsUptoCardSaid : Prop := Claim7.holds Tryz.pinned (.plain (OpenSpec.upto probeRejectsSpec)) probeRejectsUptoCard

/-- THE SECOND FORM's CARD OF 'compositorlaw23.ProbeTraceAgrees'. -/
def probeTraceAgreesUptoCard : Claim7 := { stood := { row := probeTraceAgreesUptoRow, standIns := [], harness := (true, "b7286bd364013388ad80c73ed306d93e45756609ce7bfe2f79f8e5d3248f2836"), looks := false }, kinds := [], alts := [], laidByText := true, laidKinds := [.data, .data], laidTests := true, laidLooks := .later }
def ProbeTraceAgreesUptoCardSaid : Prop := Claim7.holds Tryz.pinned (.plain (OpenSpec.upto probeTraceAgreesSpec)) probeTraceAgreesUptoCard

/-- THE SECOND FORM's CARD OF 'compositorlaw23.ProbeTranslates'. -/
def probeTranslatesUptoCard : Claim7 := { stood := { row := probeTranslatesUptoRow, standIns := [], harness := (true, "b7286bd364013388ad80c73ed306d93e45756609ce7bfe2f79f8e5d3248f2836"), looks := false }, kinds := [], alts := [], laidByText := true, laidKinds := [.data, .data], laidTests := true, laidLooks := .later }
def ProbeTranslatesUptoCardSaid : Prop := Claim7.holds Tryz.pinned (.plain (OpenSpec.upto probeTranslatesSpec)) probeTranslatesUptoCard

/-- THE SECOND FORM's CARD OF 'compositorlaw23.ProbeIsLocal'. -/
def probeIsLocalUptoCard : Claim7 := { stood := { row := probeIsLocalUptoRow, standIns := [], harness := (true, "b7286bd364013388ad80c73ed306d93e45756609ce7bfe2f79f8e5d3248f2836"), looks := false }, kinds := [], alts := [], laidByText := true, laidKinds := [.data, .data], laidTests := true, laidLooks := .later }
def ProbeIsLocalUptoCardSaid : Prop := Claim7.holds Tryz.pinned (.plain (OpenSpec.upto probeIsLocalSpec)) probeIsLocalUptoCard

/-- THE SECOND FORM's CARD OF 'compositorlaw25.RenderAgrees'. -/
def renderAgreesUptoCard : Claim7 := { stood := { row := renderAgreesUptoRow, standIns := [], harness := (true, "b7286bd364013388ad80c73ed306d93e45756609ce7bfe2f79f8e5d3248f2836"), looks := false }, kinds := [], alts := [], laidByText := true, laidKinds := [.data, .data], laidTests := true, laidLooks := .later }
def RenderAgreesUptoCardSaid : Prop := Claim7.holds Tryz.pinned (.plain (OpenSpec.upto renderAgreesSpec)) renderAgreesUptoCard

/-- THE SECOND FORM's CARD OF 'compositorlaw25.RenderIgnoresTiles'. -/
def renderIgnoresTilesUptoCard : Claim7 := { stood := { row := renderIgnoresTilesUptoRow, standIns := [], harness := (true, "b7286bd364013388ad80c73ed306d93e45756609ce7bfe2f79f8e5d3248f2836"), looks := false }, kinds := [], alts := [], laidByText := true, laidKinds := [.data, .data], laidTests := true, laidLooks := .later }
def RenderIgnoresTilesUptoCardSaid : Prop := Claim7.holds Tryz.pinned (.plain (OpenSpec.upto renderIgnoresTilesSpec)) renderIgnoresTilesUptoCard

/-- THE SECOND FORM's CARD OF 'compositorlaw25.RenderRegionIsAPart'. -/
def renderRegionIsAPartUptoCard : Claim7 := { stood := { row := renderRegionIsAPartUptoRow, standIns := [], harness := (true, "b7286bd364013388ad80c73ed306d93e45756609ce7bfe2f79f8e5d3248f2836"), looks := false }, kinds := [], alts := [], laidByText := true, laidKinds := [.data, .data], laidTests := true, laidLooks := .later }
def RenderRegionIsAPartUptoCardSaid : Prop := Claim7.holds Tryz.pinned (.plain (OpenSpec.upto renderRegionIsAPartSpec)) renderRegionIsAPartUptoCard

/-- THE SECOND FORM's CARD OF 'compositorlaw25.RenderWorkAgrees'. -/
def renderWorkAgreesUptoCard : Claim7 := { stood := { row := renderWorkAgreesUptoRow, standIns := [], harness := (true, "b7286bd364013388ad80c73ed306d93e45756609ce7bfe2f79f8e5d3248f2836"), looks := false }, kinds := [], alts := [], laidByText := true, laidKinds := [.data, .data], laidTests := true, laidLooks := .later }
def RenderWorkAgreesUptoCardSaid : Prop := Claim7.holds Tryz.pinned (.plain (OpenSpec.upto renderWorkAgreesSpec)) renderWorkAgreesUptoCard

/-- THE SECOND FORM's CARD OF 'compositorlaw25.RenderRejects'. -/
def renderRejectsUptoCard : Claim7 := { stood := { row := renderRejectsUptoRow, standIns := [], harness := (true, "b7286bd364013388ad80c73ed306d93e45756609ce7bfe2f79f8e5d3248f2836"), looks := false }, kinds := [], alts := [], laidByText := true, laidKinds := [.data, .data], laidTests := true, laidLooks := .later }
def RenderRejectsUptoCardSaid : Prop := Claim7.holds Tryz.pinned (.plain (OpenSpec.upto renderRejectsSpec)) renderRejectsUptoCard

/-- THE SECOND FORM's CARD OF 'compositorlaw25.RenderIsTheProbe'. -/
def renderIsTheProbeUptoCard : Claim7 := { stood := { row := renderIsTheProbeUptoRow, standIns := [], harness := (true, "b7286bd364013388ad80c73ed306d93e45756609ce7bfe2f79f8e5d3248f2836"), looks := false }, kinds := [], alts := [], laidByText := true, laidKinds := [.data, .data], laidTests := true, laidLooks := .later }
def RenderIsTheProbeUptoCardSaid : Prop := Claim7.holds Tryz.pinned (.plain (OpenSpec.upto renderIsTheProbeSpec)) renderIsTheProbeUptoCard
end Rows
end Go.Proofs.YtmfblbbemekkoaaGreatDoor
