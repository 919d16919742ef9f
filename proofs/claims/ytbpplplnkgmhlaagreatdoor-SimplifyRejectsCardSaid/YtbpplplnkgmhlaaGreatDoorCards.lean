/-
  DERIVED. GIVEN WITH THE SEED: THE CARDS: each row of YtbpplplnkgmhlaaGreatDoorRows.lean that lists a variable, with what it lists TIED to the program's text (the seventh form; the later family's looks); each row that meets fmt, with fmt's text TOLD by the authors' own Lean function (tested against real Go, not proved from fmt's source: count such statements apart). THE CARD IS WHAT COUNTS. Prove the row's statement (the work); the ties are given (YtbpplplnkgmhlaaGreatDoorTie.lean); close each card by the builder's one call (the guide's Derived/Test/ToyasCard.lean, 'card_holds'). Laid BY PROGRAM, IN A SANDBOX (cutbox-door.mjs). By AI agents, Wed Nov 11 2026. No macro, syntax, notation, axiom, sorry.
-/
import Derived.Test.YtbpplplnkgmhlaaGreatDoorRows
import GoSem.ClaimSeven
namespace Go.Proofs.YtbpplplnkgmhlaaGreatDoor
namespace Rows

/-- THE TIED CARD OF 'compositorlaw31.DamageImageIsEnough'. -/
def damageImageIsEnoughCard : Claim7 := { stood := { row := damageImageIsEnoughRow, standIns := [], harness := (true, "33e25806ac9d7edcf2cf4e66a866d21ef70280390431aa61fccac39685e2c2de"), looks := false }, kinds := [], alts := [], laidByText := true, laidKinds := [.data, .data], laidTests := true, laidLooks := .later }
def DamageImageIsEnoughCardSaid : Prop := Claim7.holds Tryz.pinned (.plain (OpenSpec.ofChange damageImageIsEnoughSpec)) damageImageIsEnoughCard

/-- THE TIED CARD OF 'compositorlaw31.DamageBetweenIsEnough'. -/
def damageBetweenIsEnoughCard : Claim7 := { stood := { row := damageBetweenIsEnoughRow, standIns := [], harness := (true, "33e25806ac9d7edcf2cf4e66a866d21ef70280390431aa61fccac39685e2c2de"), looks := false }, kinds := [], alts := [], laidByText := true, laidKinds := [.data, .data], laidTests := true, laidLooks := .later }
def DamageBetweenIsEnoughCardSaid : Prop := Claim7.holds Tryz.pinned (.plain (OpenSpec.ofChange damageBetweenIsEnoughSpec)) damageBetweenIsEnoughCard

/-- THE TIED CARD OF 'compositorlaw31.DamageBetweenTwoScripts'. -/
def damageBetweenTwoScriptsCard : Claim7 := { stood := { row := damageBetweenTwoScriptsRow, standIns := [], harness := (true, "33e25806ac9d7edcf2cf4e66a866d21ef70280390431aa61fccac39685e2c2de"), looks := false }, kinds := [], alts := [], laidByText := true, laidKinds := [.data, .data], laidTests := true, laidLooks := .later }
def DamageBetweenTwoScriptsCardSaid : Prop := Claim7.holds Tryz.pinned (.plain (OpenSpec.ofChange damageBetweenTwoScriptsSpec)) damageBetweenTwoScriptsCard

/-- THE TIED CARD OF 'compositorlaw26.RulesApplyAgrees'. -/
def rulesApplyAgreesCard : Claim7 := { stood := { row := rulesApplyAgreesRow, standIns := [], harness := (true, "33e25806ac9d7edcf2cf4e66a866d21ef70280390431aa61fccac39685e2c2de"), looks := false }, kinds := [], alts := [], laidByText := true, laidKinds := [.data, .data], laidTests := true, laidLooks := .later }
def RulesApplyAgreesCardSaid : Prop := Claim7.holds Tryz.pinned (.plain (OpenSpec.ofChange rulesApplyAgreesSpec)) rulesApplyAgreesCard

/-- THE TIED CARD OF 'compositorlaw26.RulesRedexesAgree'. -/
def rulesRedexesAgreeCard : Claim7 := { stood := { row := rulesRedexesAgreeRow, standIns := [], harness := (true, "33e25806ac9d7edcf2cf4e66a866d21ef70280390431aa61fccac39685e2c2de"), looks := false }, kinds := [], alts := [], laidByText := true, laidKinds := [.data, .data], laidTests := true, laidLooks := .later }
def RulesRedexesAgreeCardSaid : Prop := Claim7.holds Tryz.pinned (.plain (OpenSpec.ofChange rulesRedexesAgreeSpec)) rulesRedexesAgreeCard

/-- THE TIED CARD OF 'compositorlaw26.RulesRejectOps'. -/
def rulesRejectOpsCard : Claim7 := { stood := { row := rulesRejectOpsRow, standIns := [], harness := (true, "33e25806ac9d7edcf2cf4e66a866d21ef70280390431aa61fccac39685e2c2de"), looks := false }, kinds := [], alts := [], laidByText := true, laidKinds := [.data, .data], laidTests := true, laidLooks := .later }
def RulesRejectOpsCardSaid : Prop := Claim7.holds Tryz.pinned (.plain (OpenSpec.ofChange rulesRejectOpsSpec)) rulesRejectOpsCard

/-- THE TIED CARD OF 'compositorlaw27.SimplifyAgrees'. -/
def simplifyAgreesCard : Claim7 := { stood := { row := simplifyAgreesRow, standIns := [], harness := (true, "33e25806ac9d7edcf2cf4e66a866d21ef70280390431aa61fccac39685e2c2de"), looks := false }, kinds := [], alts := [], laidByText := true, laidKinds := [.data, .data], laidTests := true, laidLooks := .later }
def SimplifyAgreesCardSaid : Prop := Claim7.holds Tryz.pinned (.plain (OpenSpec.ofChange simplifyAgreesSpec)) simplifyAgreesCard

/-- THE TIED CARD OF 'compositorlaw27.SimplifyRejects'. -/
def simplifyRejectsCard : Claim7 := { stood := { row := simplifyRejectsRow, standIns := [], harness := (true, "33e25806ac9d7edcf2cf4e66a866d21ef70280390431aa61fccac39685e2c2de"), looks := false }, kinds := [], alts := [], laidByText := true, laidKinds := [.data, .data], laidTests := true, laidLooks := .later }
def SimplifyRejectsCardSaid : Prop := Claim7.holds Tryz.pinned (.plain (OpenSpec.ofChange simplifyRejectsSpec)) simplifyRejectsCard

/-- THE TIED CARD OF 'compositorlaw26.RulesKeepEveryBit'. -/
def rulesKeepEveryBitCard : Claim7 := { stood := { row := rulesKeepEveryBitRow, standIns := [], harness := (true, "33e25806ac9d7edcf2cf4e66a866d21ef70280390431aa61fccac39685e2c2de"), looks := false }, kinds := [], alts := [], laidByText := true, laidKinds := [.data, .data], laidTests := true, laidLooks := .later }
def RulesKeepEveryBitCardSaid : Prop := Claim7.holds Tryz.pinned (.plain (OpenSpec.ofChange rulesKeepEveryBitSpec)) rulesKeepEveryBitCard

/-- THE TIED CARD OF 'compositorlaw27.SimplifyKeepsEveryBit'. -/
def simplifyKeepsEveryBitCard : Claim7 := { stood := { row := simplifyKeepsEveryBitRow, standIns := [], harness := (true, "33e25806ac9d7edcf2cf4e66a866d21ef70280390431aa61fccac39685e2c2de"), looks := false }, kinds := [], alts := [], laidByText := true, laidKinds := [.data, .data], laidTests := true, laidLooks := .later }
def SimplifyKeepsEveryBitCardSaid : Prop := Claim7.holds Tryz.pinned (.plain (OpenSpec.ofChange simplifyKeepsEveryBitSpec)) simplifyKeepsEveryBitCard

/-- THE SECOND FORM's CARD OF 'compositorlaw31.DamageImageIsEnough'. -/
def damageImageIsEnoughUptoCard : Claim7 := { stood := { row := damageImageIsEnoughUptoRow, standIns := [], harness := (true, "33e25806ac9d7edcf2cf4e66a866d21ef70280390431aa61fccac39685e2c2de"), looks := false }, kinds := [], alts := [], laidByText := true, laidKinds := [.data, .data], laidTests := true, laidLooks := .later }
def DamageImageIsEnoughUptoCardSaid : Prop := Claim7.holds Tryz.pinned (.plain (OpenSpec.upto damageImageIsEnoughSpec)) damageImageIsEnoughUptoCard

/-- THE SECOND FORM's CARD OF 'compositorlaw31.DamageBetweenIsEnough'. -/
def damageBetweenIsEnoughUptoCard : Claim7 := { stood := { row := damageBetweenIsEnoughUptoRow, standIns := [], harness := (true, "33e25806ac9d7edcf2cf4e66a866d21ef70280390431aa61fccac39685e2c2de"), looks := false }, kinds := [], alts := [], laidByText := true, laidKinds := [.data, .data], laidTests := true, laidLooks := .later }
def DamageBetweenIsEnoughUptoCardSaid : Prop := Claim7.holds Tryz.pinned (.plain (OpenSpec.upto damageBetweenIsEnoughSpec)) damageBetweenIsEnoughUptoCard

/-- THE SECOND FORM's CARD OF 'compositorlaw31.DamageBetweenTwoScripts'. -/
def damageBetweenTwoScriptsUptoCard : Claim7 := { stood := { row := damageBetweenTwoScriptsUptoRow, standIns := [], harness := (true, "33e25806ac9d7edcf2cf4e66a866d21ef70280390431aa61fccac39685e2c2de"), looks := false }, kinds := [], alts := [], laidByText := true, laidKinds := [.data, .data], laidTests := true, laidLooks := .later }
def DamageBetweenTwoScriptsUptoCardSaid : Prop := Claim7.holds Tryz.pinned (.plain (OpenSpec.upto damageBetweenTwoScriptsSpec)) damageBetweenTwoScriptsUptoCard

/-- THE SECOND FORM's CARD OF 'compositorlaw26.RulesApplyAgrees'. -/
def rulesApplyAgreesUptoCard : Claim7 := { stood := { row := rulesApplyAgreesUptoRow, standIns := [], harness := (true, "33e25806ac9d7edcf2cf4e66a866d21ef70280390431aa61fccac39685e2c2de"), looks := false }, kinds := [], alts := [], laidByText := true, laidKinds := [.data, .data], laidTests := true, laidLooks := .later }
def RulesApplyAgreesUptoCardSaid : Prop := Claim7.holds Tryz.pinned (.plain (OpenSpec.upto rulesApplyAgreesSpec)) rulesApplyAgreesUptoCard

/-- THE SECOND FORM's CARD OF 'compositorlaw26.RulesRedexesAgree'. -/
def rulesRedexesAgreeUptoCard : Claim7 := { stood := { row := rulesRedexesAgreeUptoRow, standIns := [], harness := (true, "33e25806ac9d7edcf2cf4e66a866d21ef70280390431aa61fccac39685e2c2de"), looks := false }, kinds := [], alts := [], laidByText := true, laidKinds := [.data, .data], laidTests := true, laidLooks := .later }
def RulesRedexesAgreeUptoCardSaid : Prop := Claim7.holds Tryz.pinned (.plain (OpenSpec.upto rulesRedexesAgreeSpec)) rulesRedexesAgreeUptoCard

/-- THE SECOND FORM's CARD OF 'compositorlaw26.RulesRejectOps'. -/
def rulesRejectOpsUptoCard : Claim7 := { stood := { row := rulesRejectOpsUptoRow, standIns := [], harness := (true, "33e25806ac9d7edcf2cf4e66a866d21ef70280390431aa61fccac39685e2c2de"), looks := false }, kinds := [], alts := [], laidByText := true, laidKinds := [.data, .data], laidTests := true, laidLooks := .later }
def RulesRejectOpsUptoCardSaid : Prop := Claim7.holds Tryz.pinned (.plain (OpenSpec.upto rulesRejectOpsSpec)) rulesRejectOpsUptoCard

/-- THE SECOND FORM's CARD OF 'compositorlaw27.SimplifyAgrees'. -/
def simplifyAgreesUptoCard : Claim7 := { stood := { row := simplifyAgreesUptoRow, standIns := [], harness := (true, "33e25806ac9d7edcf2cf4e66a866d21ef70280390431aa61fccac39685e2c2de"), looks := false }, kinds := [], alts := [], laidByText := true, laidKinds := [.data, .data], laidTests := true, laidLooks := .later }
def SimplifyAgreesUptoCardSaid : Prop := Claim7.holds Tryz.pinned (.plain (OpenSpec.upto simplifyAgreesSpec)) simplifyAgreesUptoCard

/-- THE SECOND FORM's CARD OF 'compositorlaw27.SimplifyRejects'. -/
def simplifyRejectsUptoCard : Claim7 := { stood := { row := simplifyRejectsUptoRow, standIns := [], harness := (true, "33e25806ac9d7edcf2cf4e66a866d21ef70280390431aa61fccac39685e2c2de"), looks := false }, kinds := [], alts := [], laidByText := true, laidKinds := [.data, .data], laidTests := true, laidLooks := .later }
def SimplifyRejectsUptoCardSaid : Prop := Claim7.holds Tryz.pinned (.plain (OpenSpec.upto simplifyRejectsSpec)) simplifyRejectsUptoCard

/-- THE SECOND FORM's CARD OF 'compositorlaw26.RulesKeepEveryBit'. -/
def rulesKeepEveryBitUptoCard : Claim7 := { stood := { row := rulesKeepEveryBitUptoRow, standIns := [], harness := (true, "33e25806ac9d7edcf2cf4e66a866d21ef70280390431aa61fccac39685e2c2de"), looks := false }, kinds := [], alts := [], laidByText := true, laidKinds := [.data, .data], laidTests := true, laidLooks := .later }
def RulesKeepEveryBitUptoCardSaid : Prop := Claim7.holds Tryz.pinned (.plain (OpenSpec.upto rulesKeepEveryBitSpec)) rulesKeepEveryBitUptoCard

/-- THE SECOND FORM's CARD OF 'compositorlaw27.SimplifyKeepsEveryBit'. -/
def simplifyKeepsEveryBitUptoCard : Claim7 := { stood := { row := simplifyKeepsEveryBitUptoRow, standIns := [], harness := (true, "33e25806ac9d7edcf2cf4e66a866d21ef70280390431aa61fccac39685e2c2de"), looks := false }, kinds := [], alts := [], laidByText := true, laidKinds := [.data, .data], laidTests := true, laidLooks := .later }
def SimplifyKeepsEveryBitUptoCardSaid : Prop := Claim7.holds Tryz.pinned (.plain (OpenSpec.upto simplifyKeepsEveryBitSpec)) simplifyKeepsEveryBitUptoCard
end Rows
end Go.Proofs.YtbpplplnkgmhlaaGreatDoor
