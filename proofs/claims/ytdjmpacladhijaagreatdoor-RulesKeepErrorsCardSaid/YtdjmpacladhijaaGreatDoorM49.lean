/- Part of the proof: E8. -/
import Derived.Test.YtdjmpacladhijaaGreatDoorM47
import Derived.Test.YtdjmpacladhijaaGreatDoorM48
set_option linter.unusedSimpArgs false
set_option linter.unusedVariables false
set_option maxHeartbeats 2000000
set_option maxRecDepth 16000
namespace Go.Proofs.YtdjmpacladhijaaGreatDoor
open Go Go.SL
open Go.RowKit (wrap64)
attribute [local go_sem] Int.toNat_natCast vI
attribute [local go_sem] Hp
theorem KZ (s:Script) (hs:ScriptLen s):aB Sg 29 [ag (ay s)] (fun x=>x = .b (.c (.p (.lst 2 (fc s).length (aQ vI (fc s)))))):=by
 by_cases he:(gu s).1=0
 ·exact GV s (jK he) hs
 ·exact Lp s hs he
end Go.Proofs.YtdjmpacladhijaaGreatDoor
