/- Part of the proof: H1. -/
import Derived.Test.YtdjmpacladhijaaGreatDoorM32
set_option linter.unusedSimpArgs false
set_option linter.unusedVariables false
set_option maxHeartbeats 1000000
namespace Go.Proofs.YtdjmpacladhijaaGreatDoor
theorem a8m:Lay [dK 100 255,dK 100 100,dK 0 254] nb:=EX _ _ _ _ _ _ _ (by decide) (by decide) (by decide +kernel) (by decide) Tk (zi (by decide))
theorem a9k:Lay [dK 100 255,dK 100 100,dK 0 254] (oX true):=EX _ _ _ _ _ _ _ (by decide) (by decide) (by decide +kernel) (by decide) (Ra _) (zi (by decide))
theorem a8U:(ch (nv 0 [dK 100 255,dK 100 100,dK 0 254] (nb 0)) 0 0).c0=1∧(ch (nv 0 [dK 100 255,dK 100 100,dK 0 254] (oX true 0)) 0 0).c0=0:=by decide +kernel
end Go.Proofs.YtdjmpacladhijaaGreatDoor
