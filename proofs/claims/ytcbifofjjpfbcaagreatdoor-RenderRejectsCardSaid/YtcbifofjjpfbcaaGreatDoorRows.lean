/-
  NARROWER THAN 'FOR EVERY INPUT', by the rows' own cells (each row's printed sentence says how): RenderAgrees: laid · RenderIgnoresTiles: laid · RenderKeepsItsInput: laid · RenderRegionIsAPart: laid · RenderWorkAgrees: laid · RenderRejects: laid · RenderIsTheProbe: laid.
  DERIVED. THE GIVEN ROWS OF THIS SEAT. 7 by the template 'for every input the law returns true; each argument reads behind the call as it read before'; 0 by the template 'total and deterministic' (their statements: YtcbifofjjpfbcaaGreatDoorTotals.lean).
  GIVEN WITH THE SEED: the statements are not yours to turn. If you find one false, say at which input.
  Laid BY PROGRAM, IN A SANDBOX (cutbox-rows.mjs): the forced cells as the released guide's own fill.sh prints them over the translation 3fce0f7e1c9a6cf2… (all of the seat's roots in one cut). By AI agents, Wed Nov 11 2026. No macro, syntax, notation, axiom, sorry.
-/
import Derived.Test.YtcbifofjjpfbcaaGreatDoorChecked
import GoSem.Claim
import GoSem.ClaimJoined
import GoSem.ClaimMapViews
import Derived.JoinedTies
import Derived.KernelRfl
namespace Go.Proofs.YtcbifofjjpfbcaaGreatDoor
/- THE CELL 'sum', in the pinned program and in every row, IS THE sha256 OF THE DUMP (.gsa) THAT YtcbifofjjpfbcaaGreatDoorProg.lean LOADS. Nothing in Lean hashes anything: it is a label: what it is worth is what the hold of that sum in a sandbox is worth. -/
noncomputable def Tryz.pinned : Pinned := { name := "ytcbifofjjpfbcaagreatdoor", sum := "3fce0f7e1c9a6cf292a7348749d34e229e030f22c02d2d7b235e193abb46b799", checked := Tryz.checked }
namespace Rows
def none {H : Type} : Left H := { results := [], args := [] }

/- WHAT THE LISTED PACKAGE-LEVEL VARIABLES READ AS WHEN THE CALL BEGINS. Each datum BY PROGRAM (the guide's laid-datum.mjs) off the statement by which the dump's own 'gosem.cut.vars' lays the variable. In a bare row this is a premise. The card (YtcbifofjjpfbcaaGreatDoorCards.lean) ties it to the program's text. -/
def laid_compositor_operator_rules {H : Type} : DataW H := .agg [.agg [.lit (.string []), .lit (.int .i64 0), .lit (.int .i64 0), .lit (.int .i64 0)], .agg [.lit (.string [99, 108, 101, 97, 114]), .lit (.int .i64 0), .lit (.int .i64 0), .lit (.int .i64 0)], .agg [.lit (.string [115, 114, 99]), .lit (.int .i64 1), .lit (.int .i64 0), .lit (.int .i64 1)], .agg [.lit (.string [100, 115, 116]), .lit (.int .i64 0), .lit (.int .i64 1), .lit (.int .i64 2)], .agg [.lit (.string [115, 114, 99, 45, 111, 118, 101, 114]), .lit (.int .i64 1), .lit (.int .i64 3), .lit (.int .i64 3)], .agg [.lit (.string [100, 115, 116, 45, 111, 118, 101, 114]), .lit (.int .i64 3), .lit (.int .i64 1), .lit (.int .i64 3)], .agg [.lit (.string [115, 114, 99, 45, 105, 110]), .lit (.int .i64 2), .lit (.int .i64 0), .lit (.int .i64 4)], .agg [.lit (.string [100, 115, 116, 45, 105, 110]), .lit (.int .i64 0), .lit (.int .i64 2), .lit (.int .i64 4)], .agg [.lit (.string [115, 114, 99, 45, 111, 117, 116]), .lit (.int .i64 3), .lit (.int .i64 0), .lit (.int .i64 1)], .agg [.lit (.string [100, 115, 116, 45, 111, 117, 116]), .lit (.int .i64 0), .lit (.int .i64 3), .lit (.int .i64 2)], .agg [.lit (.string [115, 114, 99, 45, 97, 116, 111, 112]), .lit (.int .i64 2), .lit (.int .i64 3), .lit (.int .i64 2)], .agg [.lit (.string [100, 115, 116, 45, 97, 116, 111, 112]), .lit (.int .i64 3), .lit (.int .i64 2), .lit (.int .i64 1)], .agg [.lit (.string [120, 111, 114]), .lit (.int .i64 3), .lit (.int .i64 3), .lit (.int .i64 3)]]
def laid_compositor_blend_names {H : Type} : DataW H := .agg [.lit (.string []), .lit (.string [110, 111, 114, 109, 97, 108]), .lit (.string [109, 117, 108, 116, 105, 112, 108, 121]), .lit (.string [115, 99, 114, 101, 101, 110]), .lit (.string [111, 118, 101, 114, 108, 97, 121]), .lit (.string [100, 97, 114, 107, 101, 110]), .lit (.string [108, 105, 103, 104, 116, 101, 110]), .lit (.string [99, 111, 108, 111, 114, 45, 100, 111, 100, 103, 101]), .lit (.string [99, 111, 108, 111, 114, 45, 98, 117, 114, 110]), .lit (.string [104, 97, 114, 100, 45, 108, 105, 103, 104, 116]), .lit (.string [115, 111, 102, 116, 45, 108, 105, 103, 104, 116]), .lit (.string [100, 105, 102, 102, 101, 114, 101, 110, 99, 101]), .lit (.string [101, 120, 99, 108, 117, 115, 105, 111, 110])]

/-- 'compositorlaw25.RenderAgrees': WHATEVER THE INPUT: true; the input reads as it did. -/
def renderAgreesSpec : ChangeSpec := { name := "renderAgrees", fn := fun _ => fun
  | [d1, d2] => { results := [.lit (.bool true)], args := [d1, d2] }
  | _ => none }
def renderAgreesRow : OpenClaim := { program := "ytcbifofjjpfbcaagreatdoor", sum := "3fce0f7e1c9a6cf292a7348749d34e229e030f22c02d2d7b235e193abb46b799", func := "compositor/compositorlaw25.RenderAgrees", spec := "renderAgrees", inPlace := ["math/bits.Add64", "math/bits.Sub64"], unfollowed := true, recurses := true, named := ["compositor/operator.rules", "compositor/blend.names", "math/bits.divideError", "math/bits.overflowError"], apart := false, laid := [("compositor/operator.rules", laid_compositor_operator_rules), ("compositor/blend.names", laid_compositor_blend_names)] }
def RenderAgreesSaid : Prop := renderAgreesRow.holds Tryz.pinned (OpenSpec.ofChange renderAgreesSpec)

/-- ITS FALSE NEIGHBOUR: 'it returns false'. Refute it at one input. -/
def renderAgreesWrong : ChangeSpec := { name := "renderAgrees", fn := fun _ => fun
  | [d1, d2] => { results := [.lit (.bool false)], args := [d1, d2] }
  | _ => none }
def RenderAgreesWrongFalsely : Prop := renderAgreesRow.holds Tryz.pinned (OpenSpec.ofChange renderAgreesWrong)

/-- 'compositorlaw25.RenderIgnoresTiles': WHATEVER THE INPUT: true; the input reads as it did. -/
def renderIgnoresTilesSpec : ChangeSpec := { name := "renderIgnoresTiles", fn := fun _ => fun
  | [d1, d2, d3, d4] => { results := [.lit (.bool true)], args := [d1, d2, d3, d4] }
  | _ => none }
def renderIgnoresTilesRow : OpenClaim := { program := "ytcbifofjjpfbcaagreatdoor", sum := "3fce0f7e1c9a6cf292a7348749d34e229e030f22c02d2d7b235e193abb46b799", func := "compositor/compositorlaw25.RenderIgnoresTiles", spec := "renderIgnoresTiles", inPlace := ["math/bits.Add64", "math/bits.Sub64"], unfollowed := true, recurses := true, named := ["compositor/operator.rules", "compositor/blend.names", "math/bits.divideError", "math/bits.overflowError"], apart := false, laid := [("compositor/operator.rules", laid_compositor_operator_rules), ("compositor/blend.names", laid_compositor_blend_names)] }
def RenderIgnoresTilesSaid : Prop := renderIgnoresTilesRow.holds Tryz.pinned (OpenSpec.ofChange renderIgnoresTilesSpec)

/-- ITS FALSE NEIGHBOUR: 'it returns false'. Refute it at one input. -/
def renderIgnoresTilesWrong : ChangeSpec := { name := "renderIgnoresTiles", fn := fun _ => fun
  | [d1, d2, d3, d4] => { results := [.lit (.bool false)], args := [d1, d2, d3, d4] }
  | _ => none }
def RenderIgnoresTilesWrongFalsely : Prop := renderIgnoresTilesRow.holds Tryz.pinned (OpenSpec.ofChange renderIgnoresTilesWrong)

/-- 'compositorlaw25.RenderKeepsItsInput': WHATEVER THE INPUT: true; the input reads as it did. -/
def renderKeepsItsInputSpec : ChangeSpec := { name := "renderKeepsItsInput", fn := fun _ => fun
  | [d1, d2] => { results := [.lit (.bool true)], args := [d1, d2] }
  | _ => none }
def renderKeepsItsInputRow : OpenClaim := { program := "ytcbifofjjpfbcaagreatdoor", sum := "3fce0f7e1c9a6cf292a7348749d34e229e030f22c02d2d7b235e193abb46b799", func := "compositor/compositorlaw25.RenderKeepsItsInput", spec := "renderKeepsItsInput", inPlace := ["math/bits.Add64", "math/bits.Sub64"], unfollowed := true, recurses := true, named := ["compositor/operator.rules", "compositor/blend.names", "math/bits.divideError", "math/bits.overflowError"], apart := false, laid := [("compositor/operator.rules", laid_compositor_operator_rules), ("compositor/blend.names", laid_compositor_blend_names)] }
def RenderKeepsItsInputSaid : Prop := renderKeepsItsInputRow.holds Tryz.pinned (OpenSpec.ofChange renderKeepsItsInputSpec)

/-- ITS FALSE NEIGHBOUR: 'it returns false'. Refute it at one input. -/
def renderKeepsItsInputWrong : ChangeSpec := { name := "renderKeepsItsInput", fn := fun _ => fun
  | [d1, d2] => { results := [.lit (.bool false)], args := [d1, d2] }
  | _ => none }
def RenderKeepsItsInputWrongFalsely : Prop := renderKeepsItsInputRow.holds Tryz.pinned (OpenSpec.ofChange renderKeepsItsInputWrong)

/-- 'compositorlaw25.RenderRegionIsAPart': WHATEVER THE INPUT: true; the input reads as it did. -/
def renderRegionIsAPartSpec : ChangeSpec := { name := "renderRegionIsAPart", fn := fun _ => fun
  | [d1, d2, d3, d4, d5] => { results := [.lit (.bool true)], args := [d1, d2, d3, d4, d5] }
  | _ => none }
def renderRegionIsAPartRow : OpenClaim := { program := "ytcbifofjjpfbcaagreatdoor", sum := "3fce0f7e1c9a6cf292a7348749d34e229e030f22c02d2d7b235e193abb46b799", func := "compositor/compositorlaw25.RenderRegionIsAPart", spec := "renderRegionIsAPart", inPlace := ["math/bits.Add64", "math/bits.Sub64"], unfollowed := true, recurses := true, named := ["compositor/operator.rules", "compositor/blend.names", "math/bits.divideError", "math/bits.overflowError"], apart := false, laid := [("compositor/operator.rules", laid_compositor_operator_rules), ("compositor/blend.names", laid_compositor_blend_names)] }
def RenderRegionIsAPartSaid : Prop := renderRegionIsAPartRow.holds Tryz.pinned (OpenSpec.ofChange renderRegionIsAPartSpec)

/-- ITS FALSE NEIGHBOUR: 'it returns false'. Refute it at one input. -/
def renderRegionIsAPartWrong : ChangeSpec := { name := "renderRegionIsAPart", fn := fun _ => fun
  | [d1, d2, d3, d4, d5] => { results := [.lit (.bool false)], args := [d1, d2, d3, d4, d5] }
  | _ => none }
def RenderRegionIsAPartWrongFalsely : Prop := renderRegionIsAPartRow.holds Tryz.pinned (OpenSpec.ofChange renderRegionIsAPartWrong)

/-- 'compositorlaw25.RenderWorkAgrees': WHATEVER THE INPUT: true; the input reads as it did. -/
def renderWorkAgreesSpec : ChangeSpec := { name := "renderWorkAgrees", fn := fun _ => fun
  | [d] => { results := [.lit (.bool true)], args := [d] }
  | _ => none }
def renderWorkAgreesRow : OpenClaim := { program := "ytcbifofjjpfbcaagreatdoor", sum := "3fce0f7e1c9a6cf292a7348749d34e229e030f22c02d2d7b235e193abb46b799", func := "compositor/compositorlaw25.RenderWorkAgrees", spec := "renderWorkAgrees", inPlace := ["math/bits.Add64", "math/bits.Sub64"], unfollowed := true, recurses := true, named := ["compositor/operator.rules", "compositor/blend.names", "math/bits.divideError", "math/bits.overflowError"], apart := false, laid := [("compositor/operator.rules", laid_compositor_operator_rules), ("compositor/blend.names", laid_compositor_blend_names)] }
def RenderWorkAgreesSaid : Prop := renderWorkAgreesRow.holds Tryz.pinned (OpenSpec.ofChange renderWorkAgreesSpec)

/-- ITS FALSE NEIGHBOUR: 'it returns false'. Refute it at one input. -/
def renderWorkAgreesWrong : ChangeSpec := { name := "renderWorkAgrees", fn := fun _ => fun
  | [d] => { results := [.lit (.bool false)], args := [d] }
  | _ => none }
def RenderWorkAgreesWrongFalsely : Prop := renderWorkAgreesRow.holds Tryz.pinned (OpenSpec.ofChange renderWorkAgreesWrong)

/-- 'compositorlaw25.RenderRejects': WHATEVER THE INPUT: true; the input reads as it did. -/
def renderRejectsSpec : ChangeSpec := { name := "renderRejects", fn := fun _ => fun
  | [d1, d2, d3, d4] => { results := [.lit (.bool true)], args := [d1, d2, d3, d4] }
  | _ => none }
def renderRejectsRow : OpenClaim := { program := "ytcbifofjjpfbcaagreatdoor", sum := "3fce0f7e1c9a6cf292a7348749d34e229e030f22c02d2d7b235e193abb46b799", func := "compositor/compositorlaw25.RenderRejects", spec := "renderRejects", inPlace := ["math/bits.Add64", "math/bits.Sub64"], unfollowed := true, recurses := true, named := ["compositor/operator.rules", "compositor/blend.names", "math/bits.divideError", "math/bits.overflowError"], apart := false, laid := [("compositor/operator.rules", laid_compositor_operator_rules), ("compositor/blend.names", laid_compositor_blend_names)] }
def RenderRejectsSaid : Prop := renderRejectsRow.holds Tryz.pinned (OpenSpec.ofChange renderRejectsSpec)

/-- ITS FALSE NEIGHBOUR: 'it returns false'. Refute it at one input. -/
def renderRejectsWrong : ChangeSpec := { name := "renderRejects", fn := fun _ => fun
  | [d1, d2, d3, d4] => { results := [.lit (.bool false)], args := [d1, d2, d3, d4] }
  | _ => none }
def RenderRejectsWrongFalsely : Prop := renderRejectsRow.holds Tryz.pinned (OpenSpec.ofChange renderRejectsWrong)

/-- 'compositorlaw25.RenderIsTheProbe': WHATEVER THE INPUT: true; the input reads as it did. -/
def renderIsTheProbeSpec : ChangeSpec := { name := "renderIsTheProbe", fn := fun _ => fun
  | [d1, d2, d3] => { results := [.lit (.bool true)], args := [d1, d2, d3] }
  | _ => none }
def renderIsTheProbeRow : OpenClaim := { program := "ytcbifofjjpfbcaagreatdoor", sum := "3fce0f7e1c9a6cf292a7348749d34e229e030f22c02d2d7b235e193abb46b799", func := "compositor/compositorlaw25.RenderIsTheProbe", spec := "renderIsTheProbe", inPlace := ["math/bits.Add64", "math/bits.Sub64"], unfollowed := true, recurses := true, named := ["compositor/operator.rules", "compositor/blend.names", "math/bits.divideError", "math/bits.overflowError"], apart := false, laid := [("compositor/operator.rules", laid_compositor_operator_rules), ("compositor/blend.names", laid_compositor_blend_names)] }
def RenderIsTheProbeSaid : Prop := renderIsTheProbeRow.holds Tryz.pinned (OpenSpec.ofChange renderIsTheProbeSpec)

/-- ITS FALSE NEIGHBOUR: 'it returns false'. Refute it at one input. -/
def renderIsTheProbeWrong : ChangeSpec := { name := "renderIsTheProbe", fn := fun _ => fun
  | [d1, d2, d3] => { results := [.lit (.bool false)], args := [d1, d2, d3] }
  | _ => none }
def RenderIsTheProbeWrongFalsely : Prop := renderIsTheProbeRow.holds Tryz.pinned (OpenSpec.ofChange renderIsTheProbeWrong)

/- THE SECOND FORM. 'bulk': how many values and letters a reading holds, each counted each time it is reached (what is shared counts as often as it is met; a slice's spare places count too). A statement '..UptoSaid' is the law's where the arguments, and the package variables that the reading takes, are together of bulk at most 1048576: NARROWER than '..Said'. Prove '..Said' where nothing that the law and all that it calls make is longer than what came in: it says more and counts as full. Else prove '..UptoSaid'. A law counts once. -/
mutual
def uptoBulk {H : Type} : DataW H → Nat
  | .lit (.string bytes) => bytes.length + 1
  | .lit _ => 1
  | .nil => 1
  | .ptr d => uptoBulk d + 1
  | .slice elems spare => uptoBulkAll elems + uptoBulkAll spare + 1
  | .agg parts => uptoBulkAll parts + 1
  | .iface _ d => uptoBulk d + 1
  | .map entries => uptoBulkEntries entries + 1
  | .held _ => 1
def uptoBulkAll {H : Type} : List (DataW H) → Nat
  | [] => 0
  | d :: r => uptoBulk d + uptoBulkAll r
def uptoBulkEntries {H : Type} : List (Lit × DataW H) → Nat
  | [] => 0
  | x :: r => uptoBulkEntry x + uptoBulkEntries r
def uptoBulkEntry {H : Type} : Lit × DataW H → Nat
  | (.string bytes, d) => bytes.length + uptoBulk d + 1
  | (_, d) => uptoBulk d + 1
 end
def uptoSmall : (H : Type) → List (DataW H) → Bool := fun _ ds => decide (uptoBulkAll ds ≤ 1048576)
def OpenSpec.upto (s : _root_.Go.ChangeSpec) : _root_.Go.OpenSpec := { _root_.Go.OpenSpec.ofChange s with cond := some uptoSmall }

/-- 'compositorlaw25.RenderAgrees', WHERE WHAT IT READS IS OF BULK AT MOST 1048576: true; the input reads as it did. -/
def renderAgreesUptoRow : OpenClaim := { program := "ytcbifofjjpfbcaagreatdoor", sum := "3fce0f7e1c9a6cf292a7348749d34e229e030f22c02d2d7b235e193abb46b799", func := "compositor/compositorlaw25.RenderAgrees", spec := "renderAgrees", inPlace := ["math/bits.Add64", "math/bits.Sub64"], unfollowed := true, recurses := true, named := ["compositor/operator.rules", "compositor/blend.names", "math/bits.divideError", "math/bits.overflowError"], apart := false, laid := [("compositor/operator.rules", laid_compositor_operator_rules), ("compositor/blend.names", laid_compositor_blend_names)], narrowed := true }
def RenderAgreesUptoSaid : Prop := renderAgreesUptoRow.holds Tryz.pinned (OpenSpec.upto renderAgreesSpec)

/-- 'compositorlaw25.RenderIgnoresTiles', WHERE WHAT IT READS IS OF BULK AT MOST 1048576: true; the input reads as it did. -/
def renderIgnoresTilesUptoRow : OpenClaim := { program := "ytcbifofjjpfbcaagreatdoor", sum := "3fce0f7e1c9a6cf292a7348749d34e229e030f22c02d2d7b235e193abb46b799", func := "compositor/compositorlaw25.RenderIgnoresTiles", spec := "renderIgnoresTiles", inPlace := ["math/bits.Add64", "math/bits.Sub64"], unfollowed := true, recurses := true, named := ["compositor/operator.rules", "compositor/blend.names", "math/bits.divideError", "math/bits.overflowError"], apart := false, laid := [("compositor/operator.rules", laid_compositor_operator_rules), ("compositor/blend.names", laid_compositor_blend_names)], narrowed := true }
def RenderIgnoresTilesUptoSaid : Prop := renderIgnoresTilesUptoRow.holds Tryz.pinned (OpenSpec.upto renderIgnoresTilesSpec)

/-- 'compositorlaw25.RenderKeepsItsInput', WHERE WHAT IT READS IS OF BULK AT MOST 1048576: true; the input reads as it did. -/
def renderKeepsItsInputUptoRow : OpenClaim := { program := "ytcbifofjjpfbcaagreatdoor", sum := "3fce0f7e1c9a6cf292a7348749d34e229e030f22c02d2d7b235e193abb46b799", func := "compositor/compositorlaw25.RenderKeepsItsInput", spec := "renderKeepsItsInput", inPlace := ["math/bits.Add64", "math/bits.Sub64"], unfollowed := true, recurses := true, named := ["compositor/operator.rules", "compositor/blend.names", "math/bits.divideError", "math/bits.overflowError"], apart := false, laid := [("compositor/operator.rules", laid_compositor_operator_rules), ("compositor/blend.names", laid_compositor_blend_names)], narrowed := true }
def RenderKeepsItsInputUptoSaid : Prop := renderKeepsItsInputUptoRow.holds Tryz.pinned (OpenSpec.upto renderKeepsItsInputSpec)

/-- 'compositorlaw25.RenderRegionIsAPart', WHERE WHAT IT READS IS OF BULK AT MOST 1048576: true; the input reads as it did. -/
def renderRegionIsAPartUptoRow : OpenClaim := { program := "ytcbifofjjpfbcaagreatdoor", sum := "3fce0f7e1c9a6cf292a7348749d34e229e030f22c02d2d7b235e193abb46b799", func := "compositor/compositorlaw25.RenderRegionIsAPart", spec := "renderRegionIsAPart", inPlace := ["math/bits.Add64", "math/bits.Sub64"], unfollowed := true, recurses := true, named := ["compositor/operator.rules", "compositor/blend.names", "math/bits.divideError", "math/bits.overflowError"], apart := false, laid := [("compositor/operator.rules", laid_compositor_operator_rules), ("compositor/blend.names", laid_compositor_blend_names)], narrowed := true }
def RenderRegionIsAPartUptoSaid : Prop := renderRegionIsAPartUptoRow.holds Tryz.pinned (OpenSpec.upto renderRegionIsAPartSpec)

/-- 'compositorlaw25.RenderWorkAgrees', WHERE WHAT IT READS IS OF BULK AT MOST 1048576: true; the input reads as it did. -/
def renderWorkAgreesUptoRow : OpenClaim := { program := "ytcbifofjjpfbcaagreatdoor", sum := "3fce0f7e1c9a6cf292a7348749d34e229e030f22c02d2d7b235e193abb46b799", func := "compositor/compositorlaw25.RenderWorkAgrees", spec := "renderWorkAgrees", inPlace := ["math/bits.Add64", "math/bits.Sub64"], unfollowed := true, recurses := true, named := ["compositor/operator.rules", "compositor/blend.names", "math/bits.divideError", "math/bits.overflowError"], apart := false, laid := [("compositor/operator.rules", laid_compositor_operator_rules), ("compositor/blend.names", laid_compositor_blend_names)], narrowed := true }
def RenderWorkAgreesUptoSaid : Prop := renderWorkAgreesUptoRow.holds Tryz.pinned (OpenSpec.upto renderWorkAgreesSpec)

/-- 'compositorlaw25.RenderRejects', WHERE WHAT IT READS IS OF BULK AT MOST 1048576: true; the input reads as it did. -/
def renderRejectsUptoRow : OpenClaim := { program := "ytcbifofjjpfbcaagreatdoor", sum := "3fce0f7e1c9a6cf292a7348749d34e229e030f22c02d2d7b235e193abb46b799", func := "compositor/compositorlaw25.RenderRejects", spec := "renderRejects", inPlace := ["math/bits.Add64", "math/bits.Sub64"], unfollowed := true, recurses := true, named := ["compositor/operator.rules", "compositor/blend.names", "math/bits.divideError", "math/bits.overflowError"], apart := false, laid := [("compositor/operator.rules", laid_compositor_operator_rules), ("compositor/blend.names", laid_compositor_blend_names)], narrowed := true }
def RenderRejectsUptoSaid : Prop := renderRejectsUptoRow.holds Tryz.pinned (OpenSpec.upto renderRejectsSpec)

/-- 'compositorlaw25.RenderIsTheProbe', WHERE WHAT IT READS IS OF BULK AT MOST 1048576: true; the input reads as it did. -/
def renderIsTheProbeUptoRow : OpenClaim := { program := "ytcbifofjjpfbcaagreatdoor", sum := "3fce0f7e1c9a6cf292a7348749d34e229e030f22c02d2d7b235e193abb46b799", func := "compositor/compositorlaw25.RenderIsTheProbe", spec := "renderIsTheProbe", inPlace := ["math/bits.Add64", "math/bits.Sub64"], unfollowed := true, recurses := true, named := ["compositor/operator.rules", "compositor/blend.names", "math/bits.divideError", "math/bits.overflowError"], apart := false, laid := [("compositor/operator.rules", laid_compositor_operator_rules), ("compositor/blend.names", laid_compositor_blend_names)], narrowed := true }
def RenderIsTheProbeUptoSaid : Prop := renderIsTheProbeUptoRow.holds Tryz.pinned (OpenSpec.upto renderIsTheProbeSpec)

end Rows
end Go.Proofs.YtcbifofjjpfbcaaGreatDoor
