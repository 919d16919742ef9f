/-
  NARROWER THAN 'FOR EVERY INPUT', by the rows' own cells (each row's printed sentence says how): DamageUpdateAgrees: laid · DamageUpdateRenders: laid · RulesRegroupingIsNoRule: laid · RulesSplicingIsNoRule: laid · RulesKeepErrors: laid · SimplifyForOtherSamples: laid · SimplifyKeepsErrors: laid.
  DERIVED. THE GIVEN ROWS OF THIS SEAT. 7 by the template 'for every input the law returns true; each argument reads behind the call as it read before'; 0 by the template 'total and deterministic' (their statements: YtdjmpacladhijaaGreatDoorTotals.lean).
  GIVEN WITH THE SEED: the statements are not yours to turn. If you find one false, say at which input.
  Laid BY PROGRAM, IN A SANDBOX (cutbox-rows.mjs): the forced cells as the released guide's own fill.sh prints them over the translation c30c84803abb2924… (all of the seat's roots in one cut). By AI agents, Wed Nov 11 2026. No macro, syntax, notation, axiom, sorry.
-/
import Derived.Test.YtdjmpacladhijaaGreatDoorChecked
import GoSem.Claim
import GoSem.ClaimJoined
import GoSem.ClaimMapViews
import Derived.JoinedTies
import Derived.KernelRfl
namespace Go.Proofs.YtdjmpacladhijaaGreatDoor
/- THE CELL 'sum', in the pinned program and in every row, IS THE sha256 OF THE DUMP (.gsa) THAT YtdjmpacladhijaaGreatDoorProg.lean LOADS. Nothing in Lean hashes anything: it is a label: what it is worth is what the hold of that sum in a sandbox is worth. -/
noncomputable def Tryz.pinned : Pinned := { name := "ytdjmpacladhijaagreatdoor", sum := "c30c84803abb292425c55537f4bfe7dca7118db437035b6b590df85467841e51", checked := Tryz.checked }
namespace Rows
def none {H : Type} : Left H := { results := [], args := [] }

/- WHAT THE LISTED PACKAGE-LEVEL VARIABLES READ AS WHEN THE CALL BEGINS. Each datum BY PROGRAM (the guide's laid-datum.mjs) off the statement by which the dump's own 'gosem.cut.vars' lays the variable. In a bare row this is a premise. The card (YtdjmpacladhijaaGreatDoorCards.lean) ties it to the program's text. -/
def laid_compositor_operator_rules {H : Type} : DataW H := .agg [.agg [.lit (.string []), .lit (.int .i64 0), .lit (.int .i64 0), .lit (.int .i64 0)], .agg [.lit (.string [99, 108, 101, 97, 114]), .lit (.int .i64 0), .lit (.int .i64 0), .lit (.int .i64 0)], .agg [.lit (.string [115, 114, 99]), .lit (.int .i64 1), .lit (.int .i64 0), .lit (.int .i64 1)], .agg [.lit (.string [100, 115, 116]), .lit (.int .i64 0), .lit (.int .i64 1), .lit (.int .i64 2)], .agg [.lit (.string [115, 114, 99, 45, 111, 118, 101, 114]), .lit (.int .i64 1), .lit (.int .i64 3), .lit (.int .i64 3)], .agg [.lit (.string [100, 115, 116, 45, 111, 118, 101, 114]), .lit (.int .i64 3), .lit (.int .i64 1), .lit (.int .i64 3)], .agg [.lit (.string [115, 114, 99, 45, 105, 110]), .lit (.int .i64 2), .lit (.int .i64 0), .lit (.int .i64 4)], .agg [.lit (.string [100, 115, 116, 45, 105, 110]), .lit (.int .i64 0), .lit (.int .i64 2), .lit (.int .i64 4)], .agg [.lit (.string [115, 114, 99, 45, 111, 117, 116]), .lit (.int .i64 3), .lit (.int .i64 0), .lit (.int .i64 1)], .agg [.lit (.string [100, 115, 116, 45, 111, 117, 116]), .lit (.int .i64 0), .lit (.int .i64 3), .lit (.int .i64 2)], .agg [.lit (.string [115, 114, 99, 45, 97, 116, 111, 112]), .lit (.int .i64 2), .lit (.int .i64 3), .lit (.int .i64 2)], .agg [.lit (.string [100, 115, 116, 45, 97, 116, 111, 112]), .lit (.int .i64 3), .lit (.int .i64 2), .lit (.int .i64 1)], .agg [.lit (.string [120, 111, 114]), .lit (.int .i64 3), .lit (.int .i64 3), .lit (.int .i64 3)]]
def laid_compositor_blend_names {H : Type} : DataW H := .agg [.lit (.string []), .lit (.string [110, 111, 114, 109, 97, 108]), .lit (.string [109, 117, 108, 116, 105, 112, 108, 121]), .lit (.string [115, 99, 114, 101, 101, 110]), .lit (.string [111, 118, 101, 114, 108, 97, 121]), .lit (.string [100, 97, 114, 107, 101, 110]), .lit (.string [108, 105, 103, 104, 116, 101, 110]), .lit (.string [99, 111, 108, 111, 114, 45, 100, 111, 100, 103, 101]), .lit (.string [99, 111, 108, 111, 114, 45, 98, 117, 114, 110]), .lit (.string [104, 97, 114, 100, 45, 108, 105, 103, 104, 116]), .lit (.string [115, 111, 102, 116, 45, 108, 105, 103, 104, 116]), .lit (.string [100, 105, 102, 102, 101, 114, 101, 110, 99, 101]), .lit (.string [101, 120, 99, 108, 117, 115, 105, 111, 110])]

/-- 'compositorlaw31.DamageUpdateAgrees': WHATEVER THE INPUT: true; the input reads as it did. -/
def damageUpdateAgreesSpec : ChangeSpec := { name := "damageUpdateAgrees", fn := fun _ => fun
  | [d1, d2, d3, d4, d5, d6] => { results := [.lit (.bool true)], args := [d1, d2, d3, d4, d5, d6] }
  | _ => none }
def damageUpdateAgreesRow : OpenClaim := { program := "ytdjmpacladhijaagreatdoor", sum := "c30c84803abb292425c55537f4bfe7dca7118db437035b6b590df85467841e51", func := "compositor/compositorlaw31.DamageUpdateAgrees", spec := "damageUpdateAgrees", inPlace := ["math/bits.Add64", "math/bits.Sub64"], unfollowed := true, recurses := true, named := ["compositor/operator.rules", "compositor/blend.names", "math/bits.divideError", "math/bits.overflowError"], apart := false, laid := [("compositor/operator.rules", laid_compositor_operator_rules), ("compositor/blend.names", laid_compositor_blend_names)] }
def DamageUpdateAgreesSaid : Prop := damageUpdateAgreesRow.holds Tryz.pinned (OpenSpec.ofChange damageUpdateAgreesSpec)

/-- ITS FALSE NEIGHBOUR: 'it returns false'. Refute it at one input. -/
def damageUpdateAgreesWrong : ChangeSpec := { name := "damageUpdateAgrees", fn := fun _ => fun
  | [d1, d2, d3, d4, d5, d6] => { results := [.lit (.bool false)], args := [d1, d2, d3, d4, d5, d6] }
  | _ => none }
def DamageUpdateAgreesWrongFalsely : Prop := damageUpdateAgreesRow.holds Tryz.pinned (OpenSpec.ofChange damageUpdateAgreesWrong)

/-- 'compositorlaw31.DamageUpdateRenders': WHATEVER THE INPUT: true; the input reads as it did. -/
def damageUpdateRendersSpec : ChangeSpec := { name := "damageUpdateRenders", fn := fun _ => fun
  | [d1, d2, d3, d4] => { results := [.lit (.bool true)], args := [d1, d2, d3, d4] }
  | _ => none }
def damageUpdateRendersRow : OpenClaim := { program := "ytdjmpacladhijaagreatdoor", sum := "c30c84803abb292425c55537f4bfe7dca7118db437035b6b590df85467841e51", func := "compositor/compositorlaw31.DamageUpdateRenders", spec := "damageUpdateRenders", inPlace := ["math/bits.Add64", "math/bits.Sub64"], unfollowed := true, recurses := true, named := ["compositor/operator.rules", "compositor/blend.names", "math/bits.divideError", "math/bits.overflowError"], apart := false, laid := [("compositor/operator.rules", laid_compositor_operator_rules), ("compositor/blend.names", laid_compositor_blend_names)] }
def DamageUpdateRendersSaid : Prop := damageUpdateRendersRow.holds Tryz.pinned (OpenSpec.ofChange damageUpdateRendersSpec)

/-- ITS FALSE NEIGHBOUR: 'it returns false'. Refute it at one input. -/
def damageUpdateRendersWrong : ChangeSpec := { name := "damageUpdateRenders", fn := fun _ => fun
  | [d1, d2, d3, d4] => { results := [.lit (.bool false)], args := [d1, d2, d3, d4] }
  | _ => none }
def DamageUpdateRendersWrongFalsely : Prop := damageUpdateRendersRow.holds Tryz.pinned (OpenSpec.ofChange damageUpdateRendersWrong)

/-- 'compositorlaw26.RulesRegroupingIsNoRule': WHATEVER THE INPUT: true; the input reads as it did. -/
def rulesRegroupingIsNoRuleSpec : ChangeSpec := { name := "rulesRegroupingIsNoRule", fn := fun _ => fun
  | [d] => { results := [.lit (.bool true)], args := [d] }
  | _ => none }
def rulesRegroupingIsNoRuleRow : OpenClaim := { program := "ytdjmpacladhijaagreatdoor", sum := "c30c84803abb292425c55537f4bfe7dca7118db437035b6b590df85467841e51", func := "compositor/compositorlaw26.RulesRegroupingIsNoRule", spec := "rulesRegroupingIsNoRule", inPlace := ["math/bits.Add64", "math/bits.Sub64"], unfollowed := true, recurses := true, named := ["compositor/operator.rules", "compositor/blend.names", "math/bits.divideError", "math/bits.overflowError"], apart := false, laid := [("compositor/operator.rules", laid_compositor_operator_rules), ("compositor/blend.names", laid_compositor_blend_names)] }
def RulesRegroupingIsNoRuleSaid : Prop := rulesRegroupingIsNoRuleRow.holds Tryz.pinned (OpenSpec.ofChange rulesRegroupingIsNoRuleSpec)

/-- ITS FALSE NEIGHBOUR: 'it returns false'. Refute it at one input. -/
def rulesRegroupingIsNoRuleWrong : ChangeSpec := { name := "rulesRegroupingIsNoRule", fn := fun _ => fun
  | [d] => { results := [.lit (.bool false)], args := [d] }
  | _ => none }
def RulesRegroupingIsNoRuleWrongFalsely : Prop := rulesRegroupingIsNoRuleRow.holds Tryz.pinned (OpenSpec.ofChange rulesRegroupingIsNoRuleWrong)

/-- 'compositorlaw26.RulesSplicingIsNoRule': WHATEVER THE INPUT: true; the input reads as it did. -/
def rulesSplicingIsNoRuleSpec : ChangeSpec := { name := "rulesSplicingIsNoRule", fn := fun _ => fun
  | [d] => { results := [.lit (.bool true)], args := [d] }
  | _ => none }
def rulesSplicingIsNoRuleRow : OpenClaim := { program := "ytdjmpacladhijaagreatdoor", sum := "c30c84803abb292425c55537f4bfe7dca7118db437035b6b590df85467841e51", func := "compositor/compositorlaw26.RulesSplicingIsNoRule", spec := "rulesSplicingIsNoRule", inPlace := ["math/bits.Add64", "math/bits.Sub64"], unfollowed := true, recurses := true, named := ["compositor/operator.rules", "compositor/blend.names", "math/bits.divideError", "math/bits.overflowError"], apart := false, laid := [("compositor/operator.rules", laid_compositor_operator_rules), ("compositor/blend.names", laid_compositor_blend_names)] }
def RulesSplicingIsNoRuleSaid : Prop := rulesSplicingIsNoRuleRow.holds Tryz.pinned (OpenSpec.ofChange rulesSplicingIsNoRuleSpec)

/-- ITS FALSE NEIGHBOUR: 'it returns false'. Refute it at one input. -/
def rulesSplicingIsNoRuleWrong : ChangeSpec := { name := "rulesSplicingIsNoRule", fn := fun _ => fun
  | [d] => { results := [.lit (.bool false)], args := [d] }
  | _ => none }
def RulesSplicingIsNoRuleWrongFalsely : Prop := rulesSplicingIsNoRuleRow.holds Tryz.pinned (OpenSpec.ofChange rulesSplicingIsNoRuleWrong)

/-- 'compositorlaw26.RulesKeepErrors': WHATEVER THE INPUT: true; the input reads as it did. -/
def rulesKeepErrorsSpec : ChangeSpec := { name := "rulesKeepErrors", fn := fun _ => fun
  | [d1, d2, d3, d4, d5] => { results := [.lit (.bool true)], args := [d1, d2, d3, d4, d5] }
  | _ => none }
def rulesKeepErrorsRow : OpenClaim := { program := "ytdjmpacladhijaagreatdoor", sum := "c30c84803abb292425c55537f4bfe7dca7118db437035b6b590df85467841e51", func := "compositor/compositorlaw26.RulesKeepErrors", spec := "rulesKeepErrors", inPlace := ["math/bits.Add64", "math/bits.Sub64"], unfollowed := true, recurses := true, named := ["compositor/operator.rules", "compositor/blend.names", "math/bits.divideError", "math/bits.overflowError"], apart := false, laid := [("compositor/operator.rules", laid_compositor_operator_rules), ("compositor/blend.names", laid_compositor_blend_names)] }
def RulesKeepErrorsSaid : Prop := rulesKeepErrorsRow.holds Tryz.pinned (OpenSpec.ofChange rulesKeepErrorsSpec)

/-- ITS FALSE NEIGHBOUR: 'it returns false'. Refute it at one input. -/
def rulesKeepErrorsWrong : ChangeSpec := { name := "rulesKeepErrors", fn := fun _ => fun
  | [d1, d2, d3, d4, d5] => { results := [.lit (.bool false)], args := [d1, d2, d3, d4, d5] }
  | _ => none }
def RulesKeepErrorsWrongFalsely : Prop := rulesKeepErrorsRow.holds Tryz.pinned (OpenSpec.ofChange rulesKeepErrorsWrong)

/-- 'compositorlaw27.SimplifyForOtherSamples': WHATEVER THE INPUT: true; the input reads as it did. -/
def simplifyForOtherSamplesSpec : ChangeSpec := { name := "simplifyForOtherSamples", fn := fun _ => fun
  | [d1, d2, d3] => { results := [.lit (.bool true)], args := [d1, d2, d3] }
  | _ => none }
def simplifyForOtherSamplesRow : OpenClaim := { program := "ytdjmpacladhijaagreatdoor", sum := "c30c84803abb292425c55537f4bfe7dca7118db437035b6b590df85467841e51", func := "compositor/compositorlaw27.SimplifyForOtherSamples", spec := "simplifyForOtherSamples", inPlace := ["math/bits.Add64", "math/bits.Sub64"], unfollowed := true, recurses := true, named := ["compositor/operator.rules", "compositor/blend.names", "math/bits.divideError", "math/bits.overflowError"], apart := false, laid := [("compositor/operator.rules", laid_compositor_operator_rules), ("compositor/blend.names", laid_compositor_blend_names)] }
def SimplifyForOtherSamplesSaid : Prop := simplifyForOtherSamplesRow.holds Tryz.pinned (OpenSpec.ofChange simplifyForOtherSamplesSpec)

/-- ITS FALSE NEIGHBOUR: 'it returns false'. Refute it at one input. -/
def simplifyForOtherSamplesWrong : ChangeSpec := { name := "simplifyForOtherSamples", fn := fun _ => fun
  | [d1, d2, d3] => { results := [.lit (.bool false)], args := [d1, d2, d3] }
  | _ => none }
def SimplifyForOtherSamplesWrongFalsely : Prop := simplifyForOtherSamplesRow.holds Tryz.pinned (OpenSpec.ofChange simplifyForOtherSamplesWrong)

/-- 'compositorlaw27.SimplifyKeepsErrors': WHATEVER THE INPUT: true; the input reads as it did. -/
def simplifyKeepsErrorsSpec : ChangeSpec := { name := "simplifyKeepsErrors", fn := fun _ => fun
  | [d1, d2, d3, d4, d5] => { results := [.lit (.bool true)], args := [d1, d2, d3, d4, d5] }
  | _ => none }
def simplifyKeepsErrorsRow : OpenClaim := { program := "ytdjmpacladhijaagreatdoor", sum := "c30c84803abb292425c55537f4bfe7dca7118db437035b6b590df85467841e51", func := "compositor/compositorlaw27.SimplifyKeepsErrors", spec := "simplifyKeepsErrors", inPlace := ["math/bits.Add64", "math/bits.Sub64"], unfollowed := true, recurses := true, named := ["compositor/operator.rules", "compositor/blend.names", "math/bits.divideError", "math/bits.overflowError"], apart := false, laid := [("compositor/operator.rules", laid_compositor_operator_rules), ("compositor/blend.names", laid_compositor_blend_names)] }
def SimplifyKeepsErrorsSaid : Prop := simplifyKeepsErrorsRow.holds Tryz.pinned (OpenSpec.ofChange simplifyKeepsErrorsSpec)

/-- ITS FALSE NEIGHBOUR: 'it returns false'. Refute it at one input. -/
def simplifyKeepsErrorsWrong : ChangeSpec := { name := "simplifyKeepsErrors", fn := fun _ => fun
  | [d1, d2, d3, d4, d5] => { results := [.lit (.bool false)], args := [d1, d2, d3, d4, d5] }
  | _ => none }
def SimplifyKeepsErrorsWrongFalsely : Prop := simplifyKeepsErrorsRow.holds Tryz.pinned (OpenSpec.ofChange simplifyKeepsErrorsWrong)

/- THE SECOND FORM. 'bulk': how many values and letters a reading holds, each counted each time it is reached (what is shared counts as often as it is met; a slice's spare places count too). A statement '..UptoSaid' is the law's where the arguments, and the package variables that the reading takes, are together of bulk at most 1048576: NARROWER than '..Said'. Prove '..Said' where nothing that the law and all that it calls make is longer than what came in: it says more and counts as full. Else prove '..UptoSaid'. A law counts once. -/
mutual
def uptoBulk {H : Type} : DataW H → Nat
  | .lit (.string bytes) => bytes.length + 1
  | .lit _ => 1
  | .nil => 1
  | .ptr d => uptoBulk d + 1
  | .slice elems spare => uptoBulkAll elems + uptoBulkAll spare + 1
  | .agg parts => uptoBulkAll parts + 1
  | .iface _ d => uptoBulk d + 1
  | .map entries => uptoBulkEntries entries + 1
  | .held _ => 1
def uptoBulkAll {H : Type} : List (DataW H) → Nat
  | [] => 0
  | d :: r => uptoBulk d + uptoBulkAll r
def uptoBulkEntries {H : Type} : List (Lit × DataW H) → Nat
  | [] => 0
  | x :: r => uptoBulkEntry x + uptoBulkEntries r
def uptoBulkEntry {H : Type} : Lit × DataW H → Nat
  | (.string bytes, d) => bytes.length + uptoBulk d + 1
  | (_, d) => uptoBulk d + 1
 end
def uptoSmall : (H : Type) → List (DataW H) → Bool := fun _ ds => decide (uptoBulkAll ds ≤ 1048576)
def OpenSpec.upto (s : _root_.Go.ChangeSpec) : _root_.Go.OpenSpec := { _root_.Go.OpenSpec.ofChange s with cond := some uptoSmall }

/-- 'compositorlaw31.DamageUpdateAgrees', WHERE WHAT IT READS IS OF BULK AT MOST 1048576: true; the input reads as it did. -/
def damageUpdateAgreesUptoRow : OpenClaim := { program := "ytdjmpacladhijaagreatdoor", sum := "c30c84803abb292425c55537f4bfe7dca7118db437035b6b590df85467841e51", func := "compositor/compositorlaw31.DamageUpdateAgrees", spec := "damageUpdateAgrees", inPlace := ["math/bits.Add64", "math/bits.Sub64"], unfollowed := true, recurses := true, named := ["compositor/operator.rules", "compositor/blend.names", "math/bits.divideError", "math/bits.overflowError"], apart := false, laid := [("compositor/operator.rules", laid_compositor_operator_rules), ("compositor/blend.names", laid_compositor_blend_names)], narrowed := true }
def DamageUpdateAgreesUptoSaid : Prop := damageUpdateAgreesUptoRow.holds Tryz.pinned (OpenSpec.upto damageUpdateAgreesSpec)

/-- 'compositorlaw31.DamageUpdateRenders', WHERE WHAT IT READS IS OF BULK AT MOST 1048576: true; the input reads as it did. -/
def damageUpdateRendersUptoRow : OpenClaim := { program := "ytdjmpacladhijaagreatdoor", sum := "c30c84803abb292425c55537f4bfe7dca7118db437035b6b590df85467841e51", func := "compositor/compositorlaw31.DamageUpdateRenders", spec := "damageUpdateRenders", inPlace := ["math/bits.Add64", "math/bits.Sub64"], unfollowed := true, recurses := true, named := ["compositor/operator.rules", "compositor/blend.names", "math/bits.divideError", "math/bits.overflowError"], apart := false, laid := [("compositor/operator.rules", laid_compositor_operator_rules), ("compositor/blend.names", laid_compositor_blend_names)], narrowed := true }
def DamageUpdateRendersUptoSaid : Prop := damageUpdateRendersUptoRow.holds Tryz.pinned (OpenSpec.upto damageUpdateRendersSpec)

/-- 'compositorlaw26.RulesRegroupingIsNoRule', WHERE WHAT IT READS IS OF BULK AT MOST 1048576: true; the input reads as it did. -/
def rulesRegroupingIsNoRuleUptoRow : OpenClaim := { program := "ytdjmpacladhijaagreatdoor", sum := "c30c84803abb292425c55537f4bfe7dca7118db437035b6b590df85467841e51", func := "compositor/compositorlaw26.RulesRegroupingIsNoRule", spec := "rulesRegroupingIsNoRule", inPlace := ["math/bits.Add64", "math/bits.Sub64"], unfollowed := true, recurses := true, named := ["compositor/operator.rules", "compositor/blend.names", "math/bits.divideError", "math/bits.overflowError"], apart := false, laid := [("compositor/operator.rules", laid_compositor_operator_rules), ("compositor/blend.names", laid_compositor_blend_names)], narrowed := true }
def RulesRegroupingIsNoRuleUptoSaid : Prop := rulesRegroupingIsNoRuleUptoRow.holds Tryz.pinned (OpenSpec.upto rulesRegroupingIsNoRuleSpec)

/-- 'compositorlaw26.RulesSplicingIsNoRule', WHERE WHAT IT READS IS OF BULK AT MOST 1048576: true; the input reads as it did. -/
def rulesSplicingIsNoRuleUptoRow : OpenClaim := { program := "ytdjmpacladhijaagreatdoor", sum := "c30c84803abb292425c55537f4bfe7dca7118db437035b6b590df85467841e51", func := "compositor/compositorlaw26.RulesSplicingIsNoRule", spec := "rulesSplicingIsNoRule", inPlace := ["math/bits.Add64", "math/bits.Sub64"], unfollowed := true, recurses := true, named := ["compositor/operator.rules", "compositor/blend.names", "math/bits.divideError", "math/bits.overflowError"], apart := false, laid := [("compositor/operator.rules", laid_compositor_operator_rules), ("compositor/blend.names", laid_compositor_blend_names)], narrowed := true }
def RulesSplicingIsNoRuleUptoSaid : Prop := rulesSplicingIsNoRuleUptoRow.holds Tryz.pinned (OpenSpec.upto rulesSplicingIsNoRuleSpec)

/-- 'compositorlaw26.RulesKeepErrors', WHERE WHAT IT READS IS OF BULK AT MOST 1048576: true; the input reads as it did. -/
def rulesKeepErrorsUptoRow : OpenClaim := { program := "ytdjmpacladhijaagreatdoor", sum := "c30c84803abb292425c55537f4bfe7dca7118db437035b6b590df85467841e51", func := "compositor/compositorlaw26.RulesKeepErrors", spec := "rulesKeepErrors", inPlace := ["math/bits.Add64", "math/bits.Sub64"], unfollowed := true, recurses := true, named := ["compositor/operator.rules", "compositor/blend.names", "math/bits.divideError", "math/bits.overflowError"], apart := false, laid := [("compositor/operator.rules", laid_compositor_operator_rules), ("compositor/blend.names", laid_compositor_blend_names)], narrowed := true }
def RulesKeepErrorsUptoSaid : Prop := rulesKeepErrorsUptoRow.holds Tryz.pinned (OpenSpec.upto rulesKeepErrorsSpec)

/-- 'compositorlaw27.SimplifyForOtherSamples', WHERE WHAT IT READS IS OF BULK AT MOST 1048576: true; the input reads as it did. -/
def simplifyForOtherSamplesUptoRow : OpenClaim := { program := "ytdjmpacladhijaagreatdoor", sum := "c30c84803abb292425c55537f4bfe7dca7118db437035b6b590df85467841e51", func := "compositor/compositorlaw27.SimplifyForOtherSamples", spec := "simplifyForOtherSamples", inPlace := ["math/bits.Add64", "math/bits.Sub64"], unfollowed := true, recurses := true, named := ["compositor/operator.rules", "compositor/blend.names", "math/bits.divideError", "math/bits.overflowError"], apart := false, laid := [("compositor/operator.rules", laid_compositor_operator_rules), ("compositor/blend.names", laid_compositor_blend_names)], narrowed := true }
def SimplifyForOtherSamplesUptoSaid : Prop := simplifyForOtherSamplesUptoRow.holds Tryz.pinned (OpenSpec.upto simplifyForOtherSamplesSpec)

/-- 'compositorlaw27.SimplifyKeepsErrors', WHERE WHAT IT READS IS OF BULK AT MOST 1048576: true; the input reads as it did. -/
def simplifyKeepsErrorsUptoRow : OpenClaim := { program := "ytdjmpacladhijaagreatdoor", sum := "c30c84803abb292425c55537f4bfe7dca7118db437035b6b590df85467841e51", func := "compositor/compositorlaw27.SimplifyKeepsErrors", spec := "simplifyKeepsErrors", inPlace := ["math/bits.Add64", "math/bits.Sub64"], unfollowed := true, recurses := true, named := ["compositor/operator.rules", "compositor/blend.names", "math/bits.divideError", "math/bits.overflowError"], apart := false, laid := [("compositor/operator.rules", laid_compositor_operator_rules), ("compositor/blend.names", laid_compositor_blend_names)], narrowed := true }
def SimplifyKeepsErrorsUptoSaid : Prop := simplifyKeepsErrorsUptoRow.holds Tryz.pinned (OpenSpec.upto simplifyKeepsErrorsSpec)

end Rows
end Go.Proofs.YtdjmpacladhijaaGreatDoor
