/-
  NARROWER THAN 'FOR EVERY INPUT', by the rows' own cells (each row's printed sentence says how): DamageImageIsEnough: laid · DamageBetweenIsEnough: laid · DamageBetweenTwoScripts: laid · RulesKeepEveryBit: laid · SimplifyKeepsEveryBit: laid.
  DERIVED. THE GIVEN ROWS OF THIS SEAT. 5 by the template 'for every input the law returns true; each argument reads behind the call as it read before'; 0 by the template 'total and deterministic' (their statements: YtlblgkelhibdoaaGreatDoorTotals.lean).
  GIVEN WITH THE SEED: the statements are not yours to turn. If you find one false, say at which input.
  Laid BY PROGRAM, IN A SANDBOX (cutbox-rows.mjs): the forced cells as the released guide's own fill.sh prints them over the translation e61561231c436e01… (all of the seat's roots in one cut). By AI agents, Wed Nov 11 2026. No macro, syntax, notation, axiom, sorry.
-/
import Derived.Test.YtlblgkelhibdoaaGreatDoorChecked
import GoSem.Claim
import GoSem.ClaimJoined
import GoSem.ClaimMapViews
import Derived.JoinedTies
import Derived.KernelRfl
namespace Go.Proofs.YtlblgkelhibdoaaGreatDoor
/- THE CELL 'sum', in the pinned program and in every row, IS THE sha256 OF THE DUMP (.gsa) THAT YtlblgkelhibdoaaGreatDoorProg.lean LOADS. Nothing in Lean hashes anything: it is a label: what it is worth is what the hold of that sum in a sandbox is worth. -/
noncomputable def Tryz.pinned : Pinned := { name := "ytlblgkelhibdoaagreatdoor", sum := "e61561231c436e0181d1b91c66c2a44ed7189f11d5ab899bbb3675111051352b", checked := Tryz.checked }
namespace Rows
def none {H : Type} : Left H := { results := [], args := [] }

/- WHAT THE LISTED PACKAGE-LEVEL VARIABLES READ AS WHEN THE CALL BEGINS. Each datum BY PROGRAM (the guide's laid-datum.mjs) off the statement by which the dump's own 'gosem.cut.vars' lays the variable. In a bare row this is a premise. The card (YtlblgkelhibdoaaGreatDoorCards.lean) ties it to the program's text. -/
def laid_compositor_operator_rules {H : Type} : DataW H := .agg [.agg [.lit (.string []), .lit (.int .i64 0), .lit (.int .i64 0), .lit (.int .i64 0)], .agg [.lit (.string [99, 108, 101, 97, 114]), .lit (.int .i64 0), .lit (.int .i64 0), .lit (.int .i64 0)], .agg [.lit (.string [115, 114, 99]), .lit (.int .i64 1), .lit (.int .i64 0), .lit (.int .i64 1)], .agg [.lit (.string [100, 115, 116]), .lit (.int .i64 0), .lit (.int .i64 1), .lit (.int .i64 2)], .agg [.lit (.string [115, 114, 99, 45, 111, 118, 101, 114]), .lit (.int .i64 1), .lit (.int .i64 3), .lit (.int .i64 3)], .agg [.lit (.string [100, 115, 116, 45, 111, 118, 101, 114]), .lit (.int .i64 3), .lit (.int .i64 1), .lit (.int .i64 3)], .agg [.lit (.string [115, 114, 99, 45, 105, 110]), .lit (.int .i64 2), .lit (.int .i64 0), .lit (.int .i64 4)], .agg [.lit (.string [100, 115, 116, 45, 105, 110]), .lit (.int .i64 0), .lit (.int .i64 2), .lit (.int .i64 4)], .agg [.lit (.string [115, 114, 99, 45, 111, 117, 116]), .lit (.int .i64 3), .lit (.int .i64 0), .lit (.int .i64 1)], .agg [.lit (.string [100, 115, 116, 45, 111, 117, 116]), .lit (.int .i64 0), .lit (.int .i64 3), .lit (.int .i64 2)], .agg [.lit (.string [115, 114, 99, 45, 97, 116, 111, 112]), .lit (.int .i64 2), .lit (.int .i64 3), .lit (.int .i64 2)], .agg [.lit (.string [100, 115, 116, 45, 97, 116, 111, 112]), .lit (.int .i64 3), .lit (.int .i64 2), .lit (.int .i64 1)], .agg [.lit (.string [120, 111, 114]), .lit (.int .i64 3), .lit (.int .i64 3), .lit (.int .i64 3)]]
def laid_compositor_blend_names {H : Type} : DataW H := .agg [.lit (.string []), .lit (.string [110, 111, 114, 109, 97, 108]), .lit (.string [109, 117, 108, 116, 105, 112, 108, 121]), .lit (.string [115, 99, 114, 101, 101, 110]), .lit (.string [111, 118, 101, 114, 108, 97, 121]), .lit (.string [100, 97, 114, 107, 101, 110]), .lit (.string [108, 105, 103, 104, 116, 101, 110]), .lit (.string [99, 111, 108, 111, 114, 45, 100, 111, 100, 103, 101]), .lit (.string [99, 111, 108, 111, 114, 45, 98, 117, 114, 110]), .lit (.string [104, 97, 114, 100, 45, 108, 105, 103, 104, 116]), .lit (.string [115, 111, 102, 116, 45, 108, 105, 103, 104, 116]), .lit (.string [100, 105, 102, 102, 101, 114, 101, 110, 99, 101]), .lit (.string [101, 120, 99, 108, 117, 115, 105, 111, 110])]

/-- 'compositorlaw31.DamageImageIsEnough': WHATEVER THE INPUT: true; the input reads as it did. -/
def damageImageIsEnoughSpec : ChangeSpec := { name := "damageImageIsEnough", fn := fun _ => fun
  | [d1, d2, d3, d4, d5, d6] => { results := [.lit (.bool true)], args := [d1, d2, d3, d4, d5, d6] }
  | _ => none }
def damageImageIsEnoughRow : OpenClaim := { program := "ytlblgkelhibdoaagreatdoor", sum := "e61561231c436e0181d1b91c66c2a44ed7189f11d5ab899bbb3675111051352b", func := "compositor/compositorlaw31.DamageImageIsEnough", spec := "damageImageIsEnough", inPlace := ["math/bits.Add64", "math/bits.Sub64"], unfollowed := true, recurses := true, named := ["compositor/operator.rules", "compositor/blend.names"], apart := false, laid := [("compositor/operator.rules", laid_compositor_operator_rules), ("compositor/blend.names", laid_compositor_blend_names)] }
def DamageImageIsEnoughSaid : Prop := damageImageIsEnoughRow.holds Tryz.pinned (OpenSpec.ofChange damageImageIsEnoughSpec)

/-- ITS FALSE NEIGHBOUR: 'it returns false'. Refute it at one input. -/
def damageImageIsEnoughWrong : ChangeSpec := { name := "damageImageIsEnough", fn := fun _ => fun
  | [d1, d2, d3, d4, d5, d6] => { results := [.lit (.bool false)], args := [d1, d2, d3, d4, d5, d6] }
  | _ => none }
def DamageImageIsEnoughWrongFalsely : Prop := damageImageIsEnoughRow.holds Tryz.pinned (OpenSpec.ofChange damageImageIsEnoughWrong)

/-- 'compositorlaw31.DamageBetweenIsEnough': WHATEVER THE INPUT: true; the input reads as it did. -/
def damageBetweenIsEnoughSpec : ChangeSpec := { name := "damageBetweenIsEnough", fn := fun _ => fun
  | [d1, d2, d3, d4, d5, d6, d7] => { results := [.lit (.bool true)], args := [d1, d2, d3, d4, d5, d6, d7] }
  | _ => none }
def damageBetweenIsEnoughRow : OpenClaim := { program := "ytlblgkelhibdoaagreatdoor", sum := "e61561231c436e0181d1b91c66c2a44ed7189f11d5ab899bbb3675111051352b", func := "compositor/compositorlaw31.DamageBetweenIsEnough", spec := "damageBetweenIsEnough", inPlace := ["math/bits.Add64", "math/bits.Sub64"], unfollowed := true, recurses := true, named := ["compositor/operator.rules", "compositor/blend.names"], apart := false, laid := [("compositor/operator.rules", laid_compositor_operator_rules), ("compositor/blend.names", laid_compositor_blend_names)] }
def DamageBetweenIsEnoughSaid : Prop := damageBetweenIsEnoughRow.holds Tryz.pinned (OpenSpec.ofChange damageBetweenIsEnoughSpec)

/-- ITS FALSE NEIGHBOUR: 'it returns false'. Refute it at one input. -/
def damageBetweenIsEnoughWrong : ChangeSpec := { name := "damageBetweenIsEnough", fn := fun _ => fun
  | [d1, d2, d3, d4, d5, d6, d7] => { results := [.lit (.bool false)], args := [d1, d2, d3, d4, d5, d6, d7] }
  | _ => none }
def DamageBetweenIsEnoughWrongFalsely : Prop := damageBetweenIsEnoughRow.holds Tryz.pinned (OpenSpec.ofChange damageBetweenIsEnoughWrong)

/-- 'compositorlaw31.DamageBetweenTwoScripts': WHATEVER THE INPUT: true; the input reads as it did. -/
def damageBetweenTwoScriptsSpec : ChangeSpec := { name := "damageBetweenTwoScripts", fn := fun _ => fun
  | [d1, d2, d3, d4, d5] => { results := [.lit (.bool true)], args := [d1, d2, d3, d4, d5] }
  | _ => none }
def damageBetweenTwoScriptsRow : OpenClaim := { program := "ytlblgkelhibdoaagreatdoor", sum := "e61561231c436e0181d1b91c66c2a44ed7189f11d5ab899bbb3675111051352b", func := "compositor/compositorlaw31.DamageBetweenTwoScripts", spec := "damageBetweenTwoScripts", inPlace := ["math/bits.Add64", "math/bits.Sub64"], unfollowed := true, recurses := true, named := ["compositor/operator.rules", "compositor/blend.names"], apart := false, laid := [("compositor/operator.rules", laid_compositor_operator_rules), ("compositor/blend.names", laid_compositor_blend_names)] }
def DamageBetweenTwoScriptsSaid : Prop := damageBetweenTwoScriptsRow.holds Tryz.pinned (OpenSpec.ofChange damageBetweenTwoScriptsSpec)

/-- ITS FALSE NEIGHBOUR: 'it returns false'. Refute it at one input. -/
def damageBetweenTwoScriptsWrong : ChangeSpec := { name := "damageBetweenTwoScripts", fn := fun _ => fun
  | [d1, d2, d3, d4, d5] => { results := [.lit (.bool false)], args := [d1, d2, d3, d4, d5] }
  | _ => none }
def DamageBetweenTwoScriptsWrongFalsely : Prop := damageBetweenTwoScriptsRow.holds Tryz.pinned (OpenSpec.ofChange damageBetweenTwoScriptsWrong)

/-- 'compositorlaw26.RulesKeepEveryBit': WHATEVER THE INPUT: true; the input reads as it did. -/
def rulesKeepEveryBitSpec : ChangeSpec := { name := "rulesKeepEveryBit", fn := fun _ => fun
  | [d1, d2, d3] => { results := [.lit (.bool true)], args := [d1, d2, d3] }
  | _ => none }
def rulesKeepEveryBitRow : OpenClaim := { program := "ytlblgkelhibdoaagreatdoor", sum := "e61561231c436e0181d1b91c66c2a44ed7189f11d5ab899bbb3675111051352b", func := "compositor/compositorlaw26.RulesKeepEveryBit", spec := "rulesKeepEveryBit", inPlace := ["math/bits.Add64", "math/bits.Sub64"], unfollowed := true, recurses := true, named := ["compositor/operator.rules", "compositor/blend.names"], apart := false, laid := [("compositor/operator.rules", laid_compositor_operator_rules), ("compositor/blend.names", laid_compositor_blend_names)] }
def RulesKeepEveryBitSaid : Prop := rulesKeepEveryBitRow.holds Tryz.pinned (OpenSpec.ofChange rulesKeepEveryBitSpec)

/-- ITS FALSE NEIGHBOUR: 'it returns false'. Refute it at one input. -/
def rulesKeepEveryBitWrong : ChangeSpec := { name := "rulesKeepEveryBit", fn := fun _ => fun
  | [d1, d2, d3] => { results := [.lit (.bool false)], args := [d1, d2, d3] }
  | _ => none }
def RulesKeepEveryBitWrongFalsely : Prop := rulesKeepEveryBitRow.holds Tryz.pinned (OpenSpec.ofChange rulesKeepEveryBitWrong)

/-- 'compositorlaw27.SimplifyKeepsEveryBit': WHATEVER THE INPUT: true; the input reads as it did. -/
def simplifyKeepsEveryBitSpec : ChangeSpec := { name := "simplifyKeepsEveryBit", fn := fun _ => fun
  | [d1, d2] => { results := [.lit (.bool true)], args := [d1, d2] }
  | _ => none }
def simplifyKeepsEveryBitRow : OpenClaim := { program := "ytlblgkelhibdoaagreatdoor", sum := "e61561231c436e0181d1b91c66c2a44ed7189f11d5ab899bbb3675111051352b", func := "compositor/compositorlaw27.SimplifyKeepsEveryBit", spec := "simplifyKeepsEveryBit", inPlace := ["math/bits.Add64", "math/bits.Sub64"], unfollowed := true, recurses := true, named := ["compositor/operator.rules", "compositor/blend.names"], apart := false, laid := [("compositor/operator.rules", laid_compositor_operator_rules), ("compositor/blend.names", laid_compositor_blend_names)] }
def SimplifyKeepsEveryBitSaid : Prop := simplifyKeepsEveryBitRow.holds Tryz.pinned (OpenSpec.ofChange simplifyKeepsEveryBitSpec)

/-- ITS FALSE NEIGHBOUR: 'it returns false'. Refute it at one input. -/
def simplifyKeepsEveryBitWrong : ChangeSpec := { name := "simplifyKeepsEveryBit", fn := fun _ => fun
  | [d1, d2] => { results := [.lit (.bool false)], args := [d1, d2] }
  | _ => none }
def SimplifyKeepsEveryBitWrongFalsely : Prop := simplifyKeepsEveryBitRow.holds Tryz.pinned (OpenSpec.ofChange simplifyKeepsEveryBitWrong)

/- THE SECOND FORM. 'bulk': how many values and letters a reading holds, each counted each time it is reached (what is shared counts as often as it is met; a slice's spare places count too). A statement '..UptoSaid' is the law's where the arguments, and the package variables that the reading takes, are together of bulk at most 1048576: NARROWER than '..Said'. Prove '..Said' where nothing that the law and all that it calls make is longer than what came in: it says more and counts as full. Else prove '..UptoSaid'. A law counts once. -/
mutual
def uptoBulk {H : Type} : DataW H → Nat
  | .lit (.string bytes) => bytes.length + 1
  | .lit _ => 1
  | .nil => 1
  | .ptr d => uptoBulk d + 1
  | .slice elems spare => uptoBulkAll elems + uptoBulkAll spare + 1
  | .agg parts => uptoBulkAll parts + 1
  | .iface _ d => uptoBulk d + 1
  | .map entries => uptoBulkEntries entries + 1
  | .held _ => 1
def uptoBulkAll {H : Type} : List (DataW H) → Nat
  | [] => 0
  | d :: r => uptoBulk d + uptoBulkAll r
def uptoBulkEntries {H : Type} : List (Lit × DataW H) → Nat
  | [] => 0
  | x :: r => uptoBulkEntry x + uptoBulkEntries r
def uptoBulkEntry {H : Type} : Lit × DataW H → Nat
  | (.string bytes, d) => bytes.length + uptoBulk d + 1
  | (_, d) => uptoBulk d + 1
 end
def uptoSmall : (H : Type) → List (DataW H) → Bool := fun _ ds => decide (uptoBulkAll ds ≤ 1048576)
def OpenSpec.upto (s : _root_.Go.ChangeSpec) : _root_.Go.OpenSpec := { _root_.Go.OpenSpec.ofChange s with cond := some uptoSmall }

/-- 'compositorlaw31.DamageImageIsEnough', WHERE WHAT IT READS IS OF BULK AT MOST 1048576: true; the input reads as it did. -/
def damageImageIsEnoughUptoRow : OpenClaim := { program := "ytlblgkelhibdoaagreatdoor", sum := "e61561231c436e0181d1b91c66c2a44ed7189f11d5ab899bbb3675111051352b", func := "compositor/compositorlaw31.DamageImageIsEnough", spec := "damageImageIsEnough", inPlace := ["math/bits.Add64", "math/bits.Sub64"], unfollowed := true, recurses := true, named := ["compositor/operator.rules", "compositor/blend.names"], apart := false, laid := [("compositor/operator.rules", laid_compositor_operator_rules), ("compositor/blend.names", laid_compositor_blend_names)], narrowed := true }
def DamageImageIsEnoughUptoSaid : Prop := damageImageIsEnoughUptoRow.holds Tryz.pinned (OpenSpec.upto damageImageIsEnoughSpec)

/-- 'compositorlaw31.DamageBetweenIsEnough', WHERE WHAT IT READS IS OF BULK AT MOST 1048576: true; the input reads as it did. -/
def damageBetweenIsEnoughUptoRow : OpenClaim := { program := "ytlblgkelhibdoaagreatdoor", sum := "e61561231c436e0181d1b91c66c2a44ed7189f11d5ab899bbb3675111051352b", func := "compositor/compositorlaw31.DamageBetweenIsEnough", spec := "damageBetweenIsEnough", inPlace := ["math/bits.Add64", "math/bits.Sub64"], unfollowed := true, recurses := true, named := ["compositor/operator.rules", "compositor/blend.names"], apart := false, laid := [("compositor/operator.rules", laid_compositor_operator_rules), ("compositor/blend.names", laid_compositor_blend_names)], narrowed := true }
def DamageBetweenIsEnoughUptoSaid : Prop := damageBetweenIsEnoughUptoRow.holds Tryz.pinned (OpenSpec.upto damageBetweenIsEnoughSpec)

/-- 'compositorlaw31.DamageBetweenTwoScripts', WHERE WHAT IT READS IS OF BULK AT MOST 1048576: true; the input reads as it did. -/
def damageBetweenTwoScriptsUptoRow : OpenClaim := { program := "ytlblgkelhibdoaagreatdoor", sum := "e61561231c436e0181d1b91c66c2a44ed7189f11d5ab899bbb3675111051352b", func := "compositor/compositorlaw31.DamageBetweenTwoScripts", spec := "damageBetweenTwoScripts", inPlace := ["math/bits.Add64", "math/bits.Sub64"], unfollowed := true, recurses := true, named := ["compositor/operator.rules", "compositor/blend.names"], apart := false, laid := [("compositor/operator.rules", laid_compositor_operator_rules), ("compositor/blend.names", laid_compositor_blend_names)], narrowed := true }
def DamageBetweenTwoScriptsUptoSaid : Prop := damageBetweenTwoScriptsUptoRow.holds Tryz.pinned (OpenSpec.upto damageBetweenTwoScriptsSpec)

/-- 'compositorlaw26.RulesKeepEveryBit', WHERE WHAT IT READS IS OF BULK AT MOST 1048576: true; the input reads as it did. -/
def rulesKeepEveryBitUptoRow : OpenClaim := { program := "ytlblgkelhibdoaagreatdoor", sum := "e61561231c436e0181d1b91c66c2a44ed7189f11d5ab899bbb3675111051352b", func := "compositor/compositorlaw26.RulesKeepEveryBit", spec := "rulesKeepEveryBit", inPlace := ["math/bits.Add64", "math/bits.Sub64"], unfollowed := true, recurses := true, named := ["compositor/operator.rules", "compositor/blend.names"], apart := false, laid := [("compositor/operator.rules", laid_compositor_operator_rules), ("compositor/blend.names", laid_compositor_blend_names)], narrowed := true }
def RulesKeepEveryBitUptoSaid : Prop := rulesKeepEveryBitUptoRow.holds Tryz.pinned (OpenSpec.upto rulesKeepEveryBitSpec)

/-- 'compositorlaw27.SimplifyKeepsEveryBit', WHERE WHAT IT READS IS OF BULK AT MOST 1048576: true; the input reads as it did. -/
def simplifyKeepsEveryBitUptoRow : OpenClaim := { program := "ytlblgkelhibdoaagreatdoor", sum := "e61561231c436e0181d1b91c66c2a44ed7189f11d5ab899bbb3675111051352b", func := "compositor/compositorlaw27.SimplifyKeepsEveryBit", spec := "simplifyKeepsEveryBit", inPlace := ["math/bits.Add64", "math/bits.Sub64"], unfollowed := true, recurses := true, named := ["compositor/operator.rules", "compositor/blend.names"], apart := false, laid := [("compositor/operator.rules", laid_compositor_operator_rules), ("compositor/blend.names", laid_compositor_blend_names)], narrowed := true }
def SimplifyKeepsEveryBitUptoSaid : Prop := simplifyKeepsEveryBitUptoRow.holds Tryz.pinned (OpenSpec.upto simplifyKeepsEveryBitSpec)

end Rows
end Go.Proofs.YtlblgkelhibdoaaGreatDoor
