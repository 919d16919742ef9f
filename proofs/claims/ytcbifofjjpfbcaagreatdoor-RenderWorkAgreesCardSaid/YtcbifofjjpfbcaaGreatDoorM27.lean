/- Part of the proof: EB. -/
import Derived.Test.YtcbifofjjpfbcaaGreatDoorM10
set_option linter.unusedSimpArgs false
set_option linter.unusedVariables false
set_option maxRecDepth 8000
set_option maxHeartbeats 2000000
namespace Go.Proofs.YtcbifofjjpfbcaaGreatDoor
open Go Go.SL
open Go.RowKit (wrap64)
def RH:Bx := .fix [.p (PI 0), .p (PI 0), .p (PI 0), .p (PI 0), .p (PI 0), .p (PI 0), .p (PI 0), .p (.val (.slice none 0 0)), .p (.val (.slice none 0 0)), .p (.val (.slice none 0 0))]
attribute [local go_sem] Int.toNat_natCast RH
def Ux (s:Script):List (Option PV):=[some (PI s.bits),some (PI s.canvas.x0),some (PI s.canvas.y0),some (PI s.canvas.x1),some (PI s.canvas.y1),some (PI s.tileW),some (PI s.tileH),some (eZ s.order),none,some (qB s.ops)]
attribute [local go_sem] Ux
end Go.Proofs.YtcbifofjjpfbcaaGreatDoor
