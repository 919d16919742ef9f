/- Part of the proof: H1. -/
import Derived.Test.YtdjmpacladhijaaGreatDoorM32
set_option linter.unusedSimpArgs false
set_option linter.unusedVariables false
set_option maxHeartbeats 1000000
namespace Go.Proofs.YtdjmpacladhijaaGreatDoor
theorem a8n:Lay [dK 0 50,dK 0 100,dK 0 254] nb:=EX _ _ _ _ _ _ _ (by decide) (by decide) (by decide +kernel) (by decide) Tk (zi (by decide))
theorem a9j:Lay [dK 0 50,dK 0 100,dK 0 254] (oX false):=EX _ _ _ _ _ _ _ (by decide) (by decide) (by decide +kernel) (by decide) (Ra _) (zi (by decide))
theorem a8Q:(ch (nv 0 [dK 0 50,dK 0 100,dK 0 254] (nb 0)) 0 0).a=255∧(ch (nv 0 [dK 0 50,dK 0 100,dK 0 254] (oX false 0)) 0 0).a=254:=by decide +kernel
end Go.Proofs.YtdjmpacladhijaaGreatDoor
