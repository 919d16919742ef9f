/-
  DERIVED. GIVEN WITH THE SEED: THE CARDS: each row of YtlblgkelhibdoaaGreatDoorRows.lean that lists a variable, with what it lists TIED to the program's text (the seventh form; the later family's looks); each row that meets fmt, with fmt's text TOLD by the authors' own Lean function (tested against real Go, not proved from fmt's source: count such statements apart). THE CARD IS WHAT COUNTS. Prove the row's statement (the work); the ties are given (YtlblgkelhibdoaaGreatDoorTie.lean); close each card by the builder's one call (the guide's Derived/Test/ToyasCard.lean, 'card_holds'). Laid BY PROGRAM, IN A SANDBOX (cutbox-door.mjs). By AI agents, Wed Nov 11 2026. No macro, syntax, notation, axiom, sorry.
-/
import Derived.Test.YtlblgkelhibdoaaGreatDoorRows
import GoSem.ClaimSeven
namespace Go.Proofs.YtlblgkelhibdoaaGreatDoor
namespace Rows

/-- THE TIED CARD OF 'compositorlaw31.DamageImageIsEnough'. -/
def damageImageIsEnoughCard : Claim7 := { stood := { row := damageImageIsEnoughRow, standIns := [], harness := (true, "bd1c0bd434d1a2dd8f84ba047190276f6da02a3a7796b1a90471a58aae452384"), looks := false }, kinds := [], alts := [], laidByText := true, laidKinds := [.data, .data], laidTests := true, laidLooks := .later }
def DamageImageIsEnoughCardSaid : Prop := Claim7.holds Tryz.pinned (.plain (OpenSpec.ofChange damageImageIsEnoughSpec)) damageImageIsEnoughCard

/-- THE TIED CARD OF 'compositorlaw31.DamageBetweenIsEnough'. -/
def damageBetweenIsEnoughCard : Claim7 := { stood := { row := damageBetweenIsEnoughRow, standIns := [], harness := (true, "bd1c0bd434d1a2dd8f84ba047190276f6da02a3a7796b1a90471a58aae452384"), looks := false }, kinds := [], alts := [], laidByText := true, laidKinds := [.data, .data], laidTests := true, laidLooks := .later }
def DamageBetweenIsEnoughCardSaid : Prop := Claim7.holds Tryz.pinned (.plain (OpenSpec.ofChange damageBetweenIsEnoughSpec)) damageBetweenIsEnoughCard

/-- THE TIED CARD OF 'compositorlaw31.DamageBetweenTwoScripts'. -/
def damageBetweenTwoScriptsCard : Claim7 := { stood := { row := damageBetweenTwoScriptsRow, standIns := [], harness := (true, "bd1c0bd434d1a2dd8f84ba047190276f6da02a3a7796b1a90471a58aae452384"), looks := false }, kinds := [], alts := [], laidByText := true, laidKinds := [.data, .data], laidTests := true, laidLooks := .later }
def DamageBetweenTwoScriptsCardSaid : Prop := Claim7.holds Tryz.pinned (.plain (OpenSpec.ofChange damageBetweenTwoScriptsSpec)) damageBetweenTwoScriptsCard

/-- THE TIED CARD OF 'compositorlaw26.RulesKeepEveryBit'. -/
def rulesKeepEveryBitCard : Claim7 := { stood := { row := rulesKeepEveryBitRow, standIns := [], harness := (true, "bd1c0bd434d1a2dd8f84ba047190276f6da02a3a7796b1a90471a58aae452384"), looks := false }, kinds := [], alts := [], laidByText := true, laidKinds := [.data, .data], laidTests := true, laidLooks := .later }
def RulesKeepEveryBitCardSaid : Prop := Claim7.holds Tryz.pinned (.plain (OpenSpec.ofChange rulesKeepEveryBitSpec)) rulesKeepEveryBitCard

/-- THE TIED CARD OF 'compositorlaw27.SimplifyKeepsEveryBit'. -/
def simplifyKeepsEveryBitCard : Claim7 := { stood := { row := simplifyKeepsEveryBitRow, standIns := [], harness := (true, "bd1c0bd434d1a2dd8f84ba047190276f6da02a3a7796b1a90471a58aae452384"), looks := false }, kinds := [], alts := [], laidByText := true, laidKinds := [.data, .data], laidTests := true, laidLooks := .later }
def SimplifyKeepsEveryBitCardSaid : Prop := Claim7.holds Tryz.pinned (.plain (OpenSpec.ofChange simplifyKeepsEveryBitSpec)) simplifyKeepsEveryBitCard

/-- THE SECOND FORM's CARD OF 'compositorlaw31.DamageImageIsEnough'. -/
def damageImageIsEnoughUptoCard : Claim7 := { stood := { row := damageImageIsEnoughUptoRow, standIns := [], harness := (true, "bd1c0bd434d1a2dd8f84ba047190276f6da02a3a7796b1a90471a58aae452384"), looks := false }, kinds := [], alts := [], laidByText := true, laidKinds := [.data, .data], laidTests := true, laidLooks := .later }
def DamageImageIsEnoughUptoCardSaid : Prop := Claim7.holds Tryz.pinned (.plain (OpenSpec.upto damageImageIsEnoughSpec)) damageImageIsEnoughUptoCard

/-- THE SECOND FORM's CARD OF 'compositorlaw31.DamageBetweenIsEnough'. -/
def damageBetweenIsEnoughUptoCard : Claim7 := { stood := { row := damageBetweenIsEnoughUptoRow, standIns := [], harness := (true, "bd1c0bd434d1a2dd8f84ba047190276f6da02a3a7796b1a90471a58aae452384"), looks := false }, kinds := [], alts := [], laidByText := true, laidKinds := [.data, .data], laidTests := true, laidLooks := .later }
def DamageBetweenIsEnoughUptoCardSaid : Prop := Claim7.holds Tryz.pinned (.plain (OpenSpec.upto damageBetweenIsEnoughSpec)) damageBetweenIsEnoughUptoCard

/-- THE SECOND FORM's CARD OF 'compositorlaw31.DamageBetweenTwoScripts'. -/
def damageBetweenTwoScriptsUptoCard : Claim7 := { stood := { row := damageBetweenTwoScriptsUptoRow, standIns := [], harness := (true, "bd1c0bd434d1a2dd8f84ba047190276f6da02a3a7796b1a90471a58aae452384"), looks := false }, kinds := [], alts := [], laidByText := true, laidKinds := [.data, .data], laidTests := true, laidLooks := .later }
def DamageBetweenTwoScriptsUptoCardSaid : Prop := Claim7.holds Tryz.pinned (.plain (OpenSpec.upto damageBetweenTwoScriptsSpec)) damageBetweenTwoScriptsUptoCard

/-- THE SECOND FORM's CARD OF 'compositorlaw26.RulesKeepEveryBit'. -/
def rulesKeepEveryBitUptoCard : Claim7 := { stood := { row := rulesKeepEveryBitUptoRow, standIns := [], harness := (true, "bd1c0bd434d1a2dd8f84ba047190276f6da02a3a7796b1a90471a58aae452384"), looks := false }, kinds := [], alts := [], laidByText := true, laidKinds := [.data, .data], laidTests := true, laidLooks := .later }
def RulesKeepEveryBitUptoCardSaid : Prop := Claim7.holds Tryz.pinned (.plain (OpenSpec.upto rulesKeepEveryBitSpec)) rulesKeepEveryBitUptoCard

/-- THE SECOND FORM's CARD OF 'compositorlaw27.SimplifyKeepsEveryBit'. -/
def simplifyKeepsEveryBitUptoCard : Claim7 := { stood := { row := simplifyKeepsEveryBitUptoRow, standIns := [], harness := (true, "bd1c0bd434d1a2dd8f84ba047190276f6da02a3a7796b1a90471a58aae452384"), looks := false }, kinds := [], alts := [], laidByText := true, laidKinds := [.data, .data], laidTests := true, laidLooks := .later }
def SimplifyKeepsEveryBitUptoCardSaid : Prop := Claim7.holds Tryz.pinned (.plain (OpenSpec.upto simplifyKeepsEveryBitSpec)) simplifyKeepsEveryBitUptoCard
end Rows
end Go.Proofs.YtlblgkelhibdoaaGreatDoor
