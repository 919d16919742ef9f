/- Part of the proof: EB. -/
import Derived.Test.YtmfblbbemekkoaaGreatDoorK9
import Derived.Test.YtmfblbbemekkoaaGreatDoorK11
set_option linter.unusedSimpArgs false
set_option linter.unusedVariables false
set_option maxRecDepth 8000
set_option maxHeartbeats 2000000
namespace Go.Proofs.YtmfblbbemekkoaaGreatDoor
open Go Go.SL
open Go.RowKit (wrap64)
def JW:Bx := .fix [.p (PI 0), .p (PI 0), .p (PI 0), .p (PI 0), .p (PI 0), .p (PI 0), .p (PI 0), .p (.val (.slice none 0 0)), .p (.val (.slice none 0 0)), .p (.val (.slice none 0 0))]
attribute [local go_sem] Int.toNat_natCast JW
def Nc (s:Script):List (Option PV):=[some (PI s.bits),some (PI s.canvas.x0),some (PI s.canvas.y0),some (PI s.canvas.x1),some (PI s.canvas.y1),some (PI s.tileW),some (PI s.tileH),some (eT s.order),none,some (kq s.ops)]
attribute [local go_sem] Nc
end Go.Proofs.YtmfblbbemekkoaaGreatDoor
