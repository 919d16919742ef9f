/-
  DERIVED. GIVEN WITH THE SEED: THE CARDS: each row of YtkjdljcbpbeehaaDoorRows.lean that lists a variable, with what it lists TIED to the program's text (the seventh form; the later family's looks); each row that meets fmt, with fmt's text TOLD by the authors' own Lean function (tested against real Go, not proved from fmt's source: count such statements apart). THE CARD IS WHAT COUNTS. Prove the row's statement (the work); the ties are given (YtkjdljcbpbeehaaDoorTie.lean); close each card by the builder's one call (the guide's Derived/Test/ToyasCard.lean, 'card_holds'). Laid BY PROGRAM, IN A SANDBOX (cutbox-door.mjs). By AI agents, Wed Nov 11 2026. No macro, syntax, notation, axiom, sorry.
-/
import Derived.Test.YtkjdljcbpbeehaaDoorRows
import GoSem.ClaimSeven
namespace Go.Proofs.YtkjdljcbpbeehaaDoor
namespace Rows

/-- THE TIED CARD OF 'compositorlaw31.DamageBetweenAgrees'. -/
def damageBetweenAgreesCard : Claim7 := { stood := { row := damageBetweenAgreesRow, standIns := [], harness := (true, "0c000039cf8c242fbc683f8f5deba39f1e044d87f9434a42a2e2e51d470c8c13"), looks := false }, kinds := [], alts := [], laidByText := true, laidKinds := [.data, .data], laidTests := true, laidLooks := .later }
def DamageBetweenAgreesCardSaid : Prop := Claim7.holds Tryd.pinned (.plain (OpenSpec.ofChange damageBetweenAgreesSpec)) damageBetweenAgreesCard

/-- THE TIED CARD OF 'compositorlaw26.RulesCount'. -/
def rulesCountCard : Claim7 := { stood := { row := rulesCountRow, standIns := [], harness := (true, "0c000039cf8c242fbc683f8f5deba39f1e044d87f9434a42a2e2e51d470c8c13"), looks := false }, kinds := [], alts := [], laidByText := true, laidKinds := [.data, .data], laidTests := true, laidLooks := .later }
def RulesCountCardSaid : Prop := Claim7.holds Tryd.pinned (.plain (OpenSpec.ofChange rulesCountSpec)) rulesCountCard

/-- THE TIED CARD OF 'compositorlaw26.RulesKeepClear'. -/
def rulesKeepClearCard : Claim7 := { stood := { row := rulesKeepClearRow, standIns := [], harness := (true, "0c000039cf8c242fbc683f8f5deba39f1e044d87f9434a42a2e2e51d470c8c13"), looks := false }, kinds := [], alts := [], laidByText := true, laidKinds := [.data, .data], laidTests := true, laidLooks := .later }
def RulesKeepClearCardSaid : Prop := Claim7.holds Tryd.pinned (.plain (OpenSpec.ofChange rulesKeepClearSpec)) rulesKeepClearCard

/-- THE TIED CARD OF 'compositorlaw27.SimplifyReachesNormalForm'. -/
def simplifyReachesNormalFormCard : Claim7 := { stood := { row := simplifyReachesNormalFormRow, standIns := [], harness := (true, "0c000039cf8c242fbc683f8f5deba39f1e044d87f9434a42a2e2e51d470c8c13"), looks := false }, kinds := [], alts := [], laidByText := true, laidKinds := [.data, .data], laidTests := true, laidLooks := .later }
def SimplifyReachesNormalFormCardSaid : Prop := Claim7.holds Tryd.pinned (.plain (OpenSpec.ofChange simplifyReachesNormalFormSpec)) simplifyReachesNormalFormCard

/-- THE SECOND FORM's CARD OF 'compositorlaw31.DamageBetweenAgrees'. -/
def damageBetweenAgreesUptoCard : Claim7 := { stood := { row := damageBetweenAgreesUptoRow, standIns := [], harness := (true, "0c000039cf8c242fbc683f8f5deba39f1e044d87f9434a42a2e2e51d470c8c13"), looks := false }, kinds := [], alts := [], laidByText := true, laidKinds := [.data, .data], laidTests := true, laidLooks := .later }
def DamageBetweenAgreesUptoCardSaid : Prop := Claim7.holds Tryd.pinned (.plain (OpenSpec.upto damageBetweenAgreesSpec)) damageBetweenAgreesUptoCard

/-- THE SECOND FORM's CARD OF 'compositorlaw26.RulesCount'. -/
def rulesCountUptoCard : Claim7 := { stood := { row := rulesCountUptoRow, standIns := [], harness := (true, "0c000039cf8c242fbc683f8f5deba39f1e044d87f9434a42a2e2e51d470c8c13"), looks := false }, kinds := [], alts := [], laidByText := true, laidKinds := [.data, .data], laidTests := true, laidLooks := .later }
def RulesCountUptoCardSaid : Prop := Claim7.holds Tryd.pinned (.plain (OpenSpec.upto rulesCountSpec)) rulesCountUptoCard

/-- THE SECOND FORM's CARD OF 'compositorlaw26.RulesKeepClear'. -/
def rulesKeepClearUptoCard : Claim7 := { stood := { row := rulesKeepClearUptoRow, standIns := [], harness := (true, "0c000039cf8c242fbc683f8f5deba39f1e044d87f9434a42a2e2e51d470c8c13"), looks := false }, kinds := [], alts := [], laidByText := true, laidKinds := [.data, .data], laidTests := true, laidLooks := .later }
def RulesKeepClearUptoCardSaid : Prop := Claim7.holds Tryd.pinned (.plain (OpenSpec.upto rulesKeepClearSpec)) rulesKeepClearUptoCard

/-- THE SECOND FORM's CARD OF 'compositorlaw27.SimplifyReachesNormalForm'. -/
def simplifyReachesNormalFormUptoCard : Claim7 := { stood := { row := simplifyReachesNormalFormUptoRow, standIns := [], harness := (true, "0c000039cf8c242fbc683f8f5deba39f1e044d87f9434a42a2e2e51d470c8c13"), looks := false }, kinds := [], alts := [], laidByText := true, laidKinds := [.data, .data], laidTests := true, laidLooks := .later }
def SimplifyReachesNormalFormUptoCardSaid : Prop := Claim7.holds Tryd.pinned (.plain (OpenSpec.upto simplifyReachesNormalFormSpec)) simplifyReachesNormalFormUptoCard
end Rows
end Go.Proofs.YtkjdljcbpbeehaaDoor
