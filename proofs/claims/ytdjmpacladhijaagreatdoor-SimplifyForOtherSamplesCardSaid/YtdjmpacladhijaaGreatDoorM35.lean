/- Part of the proof: EB. -/
import Derived.Test.YtdjmpacladhijaaGreatDoorM32
set_option linter.unusedSimpArgs false
set_option linter.unusedVariables false
set_option maxHeartbeats 2000000
set_option maxRecDepth 16000
namespace Go.Proofs.YtdjmpacladhijaaGreatDoor
open Go Go.SL
open Go.RowKit (wrap64)
attribute [local go_sem] Int.toNat_natCast sy
attribute [local go_sem] yA
theorem a0w (s : Script) (l : List Int) (hs : ScriptLen s) (hl : l.length ≤ 4611686018427387904) (ho : s.ops.length ≤ 4096) (hi : s.images.length ≤ 4096) :
  aB Sg 28 [ag (ay s), .c (.p (dq l))] (fun x=>x = .b (ag (ay (dX s l)))) :=
 Ed (BN s l hs hl ho hi) rfl
end Go.Proofs.YtdjmpacladhijaaGreatDoor
