/- Part of the proof: EA. -/
import Derived.Test.YtlblgkelhibdoaaGreatDoorM53
set_option linter.unusedSimpArgs false
set_option linter.unusedVariables false
set_option maxHeartbeats 2000000
set_option maxRecDepth 16000
namespace Go.Proofs.YtlblgkelhibdoaaGreatDoor
open Go Go.SL
open Go.RowKit (wrap64)
attribute [local go_sem] Int.toNat_natCast rxE zerosB
def awO : Op := ⟨1, 0, 0, 0, 0, 0, 0, 255, 4, 1, false, false⟩
def awI (w : Int) (a : Int) : Image := solidOf w w ⟨0, 0, 0, a, a⟩
theorem one_lt {P : Nat → Prop} (h : P 0) : ∀ i, i < 1 → P i := fun i hi => by
 have : i = 0 := by omega
 subst this; exact h
end Go.Proofs.YtlblgkelhibdoaaGreatDoor
