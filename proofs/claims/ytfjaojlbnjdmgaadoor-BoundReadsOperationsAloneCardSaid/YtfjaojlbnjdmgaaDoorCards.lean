/-
  DERIVED. GIVEN WITH THE SEED: THE CARDS: each row of YtfjaojlbnjdmgaaDoorRows.lean that lists a variable, with what it lists TIED to the program's text (the seventh form; the later family's looks); each row that meets fmt, with fmt's text TOLD by the authors' own Lean function (tested against real Go, not proved from fmt's source: count such statements apart). THE CARD IS WHAT COUNTS. Prove the row's statement (the work); the ties are given (YtfjaojlbnjdmgaaDoorTie.lean); close each card by the builder's one call (the guide's Derived/Test/ToyasCard.lean, 'card_holds'). Laid BY PROGRAM, IN A SANDBOX (cutbox-door.mjs). By AI agents, Wed Nov 11 2026. No macro, syntax, notation, axiom, sorry.
-/
import Derived.Test.YtfjaojlbnjdmgaaDoorRows
import GoSem.ClaimSeven
namespace Go.Proofs.YtfjaojlbnjdmgaaDoor
namespace Rows

/-- THE TIED CARD OF 'compositorlaw30.BoundConstantsAgree'. -/
def boundConstantsAgreeCard : Claim7 := { stood := { row := boundConstantsAgreeRow, standIns := [], harness := (true, "31376512a310a80f82aaa260c15cb77e1d4ce5e2648410bdbecde2ae913fa11e"), looks := false }, kinds := [], alts := [], laidByText := true, laidKinds := [.data, .data, .data], laidTests := true, laidLooks := .later }
def BoundConstantsAgreeCardSaid : Prop := Claim7.holds Tryd.pinned (.plain (OpenSpec.ofChange boundConstantsAgreeSpec)) boundConstantsAgreeCard

/-- THE TIED CARD OF 'compositorlaw30.BoundErrorAgrees'. -/
def boundErrorAgreesCard : Claim7 := { stood := { row := boundErrorAgreesRow, standIns := [], harness := (true, "31376512a310a80f82aaa260c15cb77e1d4ce5e2648410bdbecde2ae913fa11e"), looks := false }, kinds := [], alts := [], laidByText := true, laidKinds := [.data, .data, .data], laidTests := true, laidLooks := .later }
def BoundErrorAgreesCardSaid : Prop := Claim7.holds Tryd.pinned (.plain (OpenSpec.ofChange boundErrorAgreesSpec)) boundErrorAgreesCard

/-- THE TIED CARD OF 'compositorlaw30.BoundOfNormalLayers'. -/
def boundOfNormalLayersCard : Claim7 := { stood := { row := boundOfNormalLayersRow, standIns := [], harness := (true, "31376512a310a80f82aaa260c15cb77e1d4ce5e2648410bdbecde2ae913fa11e"), looks := false }, kinds := [], alts := [], laidByText := true, laidKinds := [.data, .data, .data], laidTests := true, laidLooks := .later }
def BoundOfNormalLayersCardSaid : Prop := Claim7.holds Tryd.pinned (.plain (OpenSpec.ofChange boundOfNormalLayersSpec)) boundOfNormalLayersCard

/-- THE TIED CARD OF 'compositorlaw30.BoundReadsOperationsAlone'. -/
def boundReadsOperationsAloneCard : Claim7 := { stood := { row := boundReadsOperationsAloneRow, standIns := [], harness := (true, "31376512a310a80f82aaa260c15cb77e1d4ce5e2648410bdbecde2ae913fa11e"), looks := false }, kinds := [], alts := [], laidByText := true, laidKinds := [.data, .data, .data], laidTests := true, laidLooks := .later }
def BoundReadsOperationsAloneCardSaid : Prop := Claim7.holds Tryd.pinned (.plain (OpenSpec.ofChange boundReadsOperationsAloneSpec)) boundReadsOperationsAloneCard

/-- THE TIED CARD OF 'compositorlaw30.BoundGrows'. -/
def boundGrowsCard : Claim7 := { stood := { row := boundGrowsRow, standIns := [], harness := (true, "31376512a310a80f82aaa260c15cb77e1d4ce5e2648410bdbecde2ae913fa11e"), looks := false }, kinds := [], alts := [], laidByText := true, laidKinds := [.data, .data, .data], laidTests := true, laidLooks := .later }
def BoundGrowsCardSaid : Prop := Claim7.holds Tryd.pinned (.plain (OpenSpec.ofChange boundGrowsSpec)) boundGrowsCard

/-- THE SECOND FORM's CARD OF 'compositorlaw30.BoundConstantsAgree'. -/
def boundConstantsAgreeUptoCard : Claim7 := { stood := { row := boundConstantsAgreeUptoRow, standIns := [], harness := (true, "31376512a310a80f82aaa260c15cb77e1d4ce5e2648410bdbecde2ae913fa11e"), looks := false }, kinds := [], alts := [], laidByText := true, laidKinds := [.data, .data, .data], laidTests := true, laidLooks := .later }
def BoundConstantsAgreeUptoCardSaid : Prop := Claim7.holds Tryd.pinned (.plain (OpenSpec.upto boundConstantsAgreeSpec)) boundConstantsAgreeUptoCard

/-- THE SECOND FORM's CARD OF 'compositorlaw30.BoundErrorAgrees'. -/
def boundErrorAgreesUptoCard : Claim7 := { stood := { row := boundErrorAgreesUptoRow, standIns := [], harness := (true, "31376512a310a80f82aaa260c15cb77e1d4ce5e2648410bdbecde2ae913fa11e"), looks := false }, kinds := [], alts := [], laidByText := true, laidKinds := [.data, .data, .data], laidTests := true, laidLooks := .later }
def BoundErrorAgreesUptoCardSaid : Prop := Claim7.holds Tryd.pinned (.plain (OpenSpec.upto boundErrorAgreesSpec)) boundErrorAgreesUptoCard

/-- THE SECOND FORM's CARD OF 'compositorlaw30.BoundOfNormalLayers'. -/
def boundOfNormalLayersUptoCard : Claim7 := { stood := { row := boundOfNormalLayersUptoRow, standIns := [], harness := (true, "31376512a310a80f82aaa260c15cb77e1d4ce5e2648410bdbecde2ae913fa11e"), looks := false }, kinds := [], alts := [], laidByText := true, laidKinds := [.data, .data, .data], laidTests := true, laidLooks := .later }
def BoundOfNormalLayersUptoCardSaid : Prop := Claim7.holds Tryd.pinned (.plain (OpenSpec.upto boundOfNormalLayersSpec)) boundOfNormalLayersUptoCard

/-- THE SECOND FORM's CARD OF 'compositorlaw30.BoundReadsOperationsAlone'. -/
def boundReadsOperationsAloneUptoCard : Claim7 := { stood := { row := boundReadsOperationsAloneUptoRow, standIns := [], harness := (true, "31376512a310a80f82aaa260c15cb77e1d4ce5e2648410bdbecde2ae913fa11e"), looks := false }, kinds := [], alts := [], laidByText := true, laidKinds := [.data, .data, .data], laidTests := true, laidLooks := .later }
def BoundReadsOperationsAloneUptoCardSaid : Prop := Claim7.holds Tryd.pinned (.plain (OpenSpec.upto boundReadsOperationsAloneSpec)) boundReadsOperationsAloneUptoCard

/-- THE SECOND FORM's CARD OF 'compositorlaw30.BoundGrows'. -/
def boundGrowsUptoCard : Claim7 := { stood := { row := boundGrowsUptoRow, standIns := [], harness := (true, "31376512a310a80f82aaa260c15cb77e1d4ce5e2648410bdbecde2ae913fa11e"), looks := false }, kinds := [], alts := [], laidByText := true, laidKinds := [.data, .data, .data], laidTests := true, laidLooks := .later }
def BoundGrowsUptoCardSaid : Prop := Claim7.holds Tryd.pinned (.plain (OpenSpec.upto boundGrowsSpec)) boundGrowsUptoCard
end Rows
end Go.Proofs.YtfjaojlbnjdmgaaDoor
