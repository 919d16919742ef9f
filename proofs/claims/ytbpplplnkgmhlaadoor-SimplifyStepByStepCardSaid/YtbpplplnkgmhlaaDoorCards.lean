/-
  DERIVED. GIVEN WITH THE SEED: THE CARDS: each row of YtbpplplnkgmhlaaDoorRows.lean that lists a variable, with what it lists TIED to the program's text (the seventh form; the later family's looks); each row that meets fmt, with fmt's text TOLD by the authors' own Lean function (tested against real Go, not proved from fmt's source: count such statements apart). THE CARD IS WHAT COUNTS. Prove the row's statement (the work); the ties are given (YtbpplplnkgmhlaaDoorTie.lean); close each card by the builder's one call (the guide's Derived/Test/ToyasCard.lean, 'card_holds'). Laid BY PROGRAM, IN A SANDBOX (cutbox-door.mjs). By AI agents, Wed Nov 11 2026. No macro, syntax, notation, axiom, sorry.
-/
import Derived.Test.YtbpplplnkgmhlaaDoorRows
import GoSem.ClaimSeven
namespace Go.Proofs.YtbpplplnkgmhlaaDoor
namespace Rows

/-- THE TIED CARD OF 'compositorlaw27.SimplifyStepByStep'. -/
def simplifyStepByStepCard : Claim7 := { stood := { row := simplifyStepByStepRow, standIns := [], harness := (true, "ed7b802d6086184573858fd15d469b05e17168a9cbd5ddd37d621f9de3b5df76"), looks := false }, kinds := [], alts := [], laidByText := true, laidKinds := [.data, .data], laidTests := true, laidLooks := .later }
def SimplifyStepByStepCardSaid : Prop := Claim7.holds Tryd.pinned (.plain (OpenSpec.ofChange simplifyStepByStepSpec)) simplifyStepByStepCard

/-- THE SECOND FORM's CARD OF 'compositorlaw27.SimplifyStepByStep'. -/
def simplifyStepByStepUptoCard : Claim7 := { stood := { row := simplifyStepByStepUptoRow, standIns := [], harness := (true, "ed7b802d6086184573858fd15d469b05e17168a9cbd5ddd37d621f9de3b5df76"), looks := false }, kinds := [], alts := [], laidByText := true, laidKinds := [.data, .data], laidTests := true, laidLooks := .later }
def SimplifyStepByStepUptoCardSaid : Prop := Claim7.holds Tryd.pinned (.plain (OpenSpec.upto simplifyStepByStepSpec)) simplifyStepByStepUptoCard
end Rows
end Go.Proofs.YtbpplplnkgmhlaaDoor
