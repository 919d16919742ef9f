/-
  DERIVED. GIVEN WITH THE SEED: THE CARDS: each row of YtdjmpacladhijaaGreatDoorRows.lean that lists a variable, with what it lists TIED to the program's text (the seventh form; the later family's looks); each row that meets fmt, with fmt's text TOLD by the authors' own Lean function (tested against real Go, not proved from fmt's source: count such statements apart). THE CARD IS WHAT COUNTS. Prove the row's statement (the work); the ties are given (YtdjmpacladhijaaGreatDoorTie.lean); close each card by the builder's one call (the guide's Derived/Test/ToyasCard.lean, 'card_holds'). Laid BY PROGRAM, IN A SANDBOX (cutbox-door.mjs). By AI agents, Wed Nov 11 2026. No macro, syntax, notation, axiom, sorry.
-/
import Derived.Test.YtdjmpacladhijaaGreatDoorRows
import GoSem.ClaimSeven
namespace Go.Proofs.YtdjmpacladhijaaGreatDoor
namespace Rows

/-- THE TIED CARD OF 'compositorlaw31.DamageUpdateAgrees'. -/
def damageUpdateAgreesCard : Claim7 := { stood := { row := damageUpdateAgreesRow, standIns := [], harness := (true, "e899ef4a01d6ab97a154272c6ede694e5b8834ee5f2440085897b1f3bab92487"), looks := false }, kinds := [], alts := [], laidByText := true, laidKinds := [.data, .data], laidTests := true, laidLooks := .later }
def DamageUpdateAgreesCardSaid : Prop := Claim7.holds Tryz.pinned (.plain (OpenSpec.ofChange damageUpdateAgreesSpec)) damageUpdateAgreesCard

/-- THE TIED CARD OF 'compositorlaw31.DamageUpdateRenders'. -/
def damageUpdateRendersCard : Claim7 := { stood := { row := damageUpdateRendersRow, standIns := [], harness := (true, "e899ef4a01d6ab97a154272c6ede694e5b8834ee5f2440085897b1f3bab92487"), looks := false }, kinds := [], alts := [], laidByText := true, laidKinds := [.data, .data], laidTests := true, laidLooks := .later }
def DamageUpdateRendersCardSaid : Prop := Claim7.holds Tryz.pinned (.plain (OpenSpec.ofChange damageUpdateRendersSpec)) damageUpdateRendersCard

/-- THE TIED CARD OF 'compositorlaw26.RulesRegroupingIsNoRule'. -/
def rulesRegroupingIsNoRuleCard : Claim7 := { stood := { row := rulesRegroupingIsNoRuleRow, standIns := [], harness := (true, "e899ef4a01d6ab97a154272c6ede694e5b8834ee5f2440085897b1f3bab92487"), looks := false }, kinds := [], alts := [], laidByText := true, laidKinds := [.data, .data], laidTests := true, laidLooks := .later }
def RulesRegroupingIsNoRuleCardSaid : Prop := Claim7.holds Tryz.pinned (.plain (OpenSpec.ofChange rulesRegroupingIsNoRuleSpec)) rulesRegroupingIsNoRuleCard

/-- THE TIED CARD OF 'compositorlaw26.RulesSplicingIsNoRule'. -/
def rulesSplicingIsNoRuleCard : Claim7 := { stood := { row := rulesSplicingIsNoRuleRow, standIns := [], harness := (true, "e899ef4a01d6ab97a154272c6ede694e5b8834ee5f2440085897b1f3bab92487"), looks := false }, kinds := [], alts := [], laidByText := true, laidKinds := [.data, .data], laidTests := true, laidLooks := .later }
def RulesSplicingIsNoRuleCardSaid : Prop := Claim7.holds Tryz.pinned (.plain (OpenSpec.ofChange rulesSplicingIsNoRuleSpec)) rulesSplicingIsNoRuleCard

/-- THE TIED CARD OF 'compositorlaw26.RulesKeepErrors'. -/
def rulesKeepErrorsCard : Claim7 := { stood := { row := rulesKeepErrorsRow, standIns := [], harness := (true, "e899ef4a01d6ab97a154272c6ede694e5b8834ee5f2440085897b1f3bab92487"), looks := false }, kinds := [], alts := [], laidByText := true, laidKinds := [.data, .data], laidTests := true, laidLooks := .later }
def RulesKeepErrorsCardSaid : Prop := Claim7.holds Tryz.pinned (.plain (OpenSpec.ofChange rulesKeepErrorsSpec)) rulesKeepErrorsCard

/-- THE TIED CARD OF 'compositorlaw27.SimplifyForOtherSamples'. -/
def simplifyForOtherSamplesCard : Claim7 := { stood := { row := simplifyForOtherSamplesRow, standIns := [], harness := (true, "e899ef4a01d6ab97a154272c6ede694e5b8834ee5f2440085897b1f3bab92487"), looks := false }, kinds := [], alts := [], laidByText := true, laidKinds := [.data, .data], laidTests := true, laidLooks := .later }
def SimplifyForOtherSamplesCardSaid : Prop := Claim7.holds Tryz.pinned (.plain (OpenSpec.ofChange simplifyForOtherSamplesSpec)) simplifyForOtherSamplesCard

/-- THE TIED CARD OF 'compositorlaw27.SimplifyKeepsErrors'. -/
def simplifyKeepsErrorsCard : Claim7 := { stood := { row := simplifyKeepsErrorsRow, standIns := [], harness := (true, "e899ef4a01d6ab97a154272c6ede694e5b8834ee5f2440085897b1f3bab92487"), looks := false }, kinds := [], alts := [], laidByText := true, laidKinds := [.data, .data], laidTests := true, laidLooks := .later }
def SimplifyKeepsErrorsCardSaid : Prop := Claim7.holds Tryz.pinned (.plain (OpenSpec.ofChange simplifyKeepsErrorsSpec)) simplifyKeepsErrorsCard

/-- THE SECOND FORM's CARD OF 'compositorlaw31.DamageUpdateAgrees'. -/
def damageUpdateAgreesUptoCard : Claim7 := { stood := { row := damageUpdateAgreesUptoRow, standIns := [], harness := (true, "e899ef4a01d6ab97a154272c6ede694e5b8834ee5f2440085897b1f3bab92487"), looks := false }, kinds := [], alts := [], laidByText := true, laidKinds := [.data, .data], laidTests := true, laidLooks := .later }
def DamageUpdateAgreesUptoCardSaid : Prop := Claim7.holds Tryz.pinned (.plain (OpenSpec.upto damageUpdateAgreesSpec)) damageUpdateAgreesUptoCard

/-- THE SECOND FORM's CARD OF 'compositorlaw31.DamageUpdateRenders'. -/
def damageUpdateRendersUptoCard : Claim7 := { stood := { row := damageUpdateRendersUptoRow, standIns := [], harness := (true, "e899ef4a01d6ab97a154272c6ede694e5b8834ee5f2440085897b1f3bab92487"), looks := false }, kinds := [], alts := [], laidByText := true, laidKinds := [.data, .data], laidTests := true, laidLooks := .later }
def DamageUpdateRendersUptoCardSaid : Prop := Claim7.holds Tryz.pinned (.plain (OpenSpec.upto damageUpdateRendersSpec)) damageUpdateRendersUptoCard

/-- THE SECOND FORM's CARD OF 'compositorlaw26.RulesRegroupingIsNoRule'. -/
def rulesRegroupingIsNoRuleUptoCard : Claim7 := { stood := { row := rulesRegroupingIsNoRuleUptoRow, standIns := [], harness := (true, "e899ef4a01d6ab97a154272c6ede694e5b8834ee5f2440085897b1f3bab92487"), looks := false }, kinds := [], alts := [], laidByText := true, laidKinds := [.data, .data], laidTests := true, laidLooks := .later }
def RulesRegroupingIsNoRuleUptoCardSaid : Prop := Claim7.holds Tryz.pinned (.plain (OpenSpec.upto rulesRegroupingIsNoRuleSpec)) rulesRegroupingIsNoRuleUptoCard

/-- THE SECOND FORM's CARD OF 'compositorlaw26.RulesSplicingIsNoRule'. -/
def rulesSplicingIsNoRuleUptoCard : Claim7 := { stood := { row := rulesSplicingIsNoRuleUptoRow, standIns := [], harness := (true, "e899ef4a01d6ab97a154272c6ede694e5b8834ee5f2440085897b1f3bab92487"), looks := false }, kinds := [], alts := [], laidByText := true, laidKinds := [.data, .data], laidTests := true, laidLooks := .later }
def RulesSplicingIsNoRuleUptoCardSaid : Prop := Claim7.holds Tryz.pinned (.plain (OpenSpec.upto rulesSplicingIsNoRuleSpec)) rulesSplicingIsNoRuleUptoCard

/-- THE SECOND FORM's CARD OF 'compositorlaw26.RulesKeepErrors'. -/
def rulesKeepErrorsUptoCard : Claim7 := { stood := { row := rulesKeepErrorsUptoRow, standIns := [], harness := (true, "e899ef4a01d6ab97a154272c6ede694e5b8834ee5f2440085897b1f3bab92487"), looks := false }, kinds := [], alts := [], laidByText := true, laidKinds := [.data, .data], laidTests := true, laidLooks := .later }
def RulesKeepErrorsUptoCardSaid : Prop := Claim7.holds Tryz.pinned (.plain (OpenSpec.upto rulesKeepErrorsSpec)) rulesKeepErrorsUptoCard

/-- THE SECOND FORM's CARD OF 'compositorlaw27.SimplifyForOtherSamples'. -/
def simplifyForOtherSamplesUptoCard : Claim7 := { stood := { row := simplifyForOtherSamplesUptoRow, standIns := [], harness := (true, "e899ef4a01d6ab97a154272c6ede694e5b8834ee5f2440085897b1f3bab92487"), looks := false }, kinds := [], alts := [], laidByText := true, laidKinds := [.data, .data], laidTests := true, laidLooks := .later }
def SimplifyForOtherSamplesUptoCardSaid : Prop := Claim7.holds Tryz.pinned (.plain (OpenSpec.upto simplifyForOtherSamplesSpec)) simplifyForOtherSamplesUptoCard

/-- THE SECOND FORM's CARD OF 'compositorlaw27.SimplifyKeepsErrors'. -/
def simplifyKeepsErrorsUptoCard : Claim7 := { stood := { row := simplifyKeepsErrorsUptoRow, standIns := [], harness := (true, "e899ef4a01d6ab97a154272c6ede694e5b8834ee5f2440085897b1f3bab92487"), looks := false }, kinds := [], alts := [], laidByText := true, laidKinds := [.data, .data], laidTests := true, laidLooks := .later }
def SimplifyKeepsErrorsUptoCardSaid : Prop := Claim7.holds Tryz.pinned (.plain (OpenSpec.upto simplifyKeepsErrorsSpec)) simplifyKeepsErrorsUptoCard
end Rows
end Go.Proofs.YtdjmpacladhijaaGreatDoor
