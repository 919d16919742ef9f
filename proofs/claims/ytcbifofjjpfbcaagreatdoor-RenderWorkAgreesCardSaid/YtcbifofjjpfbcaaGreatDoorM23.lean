/- Part of the proof: DB. -/
import Derived.Test.YtcbifofjjpfbcaaGreatDoorM19
set_option linter.unusedSimpArgs false
set_option linter.unusedVariables false
set_option maxRecDepth 8000
set_option maxHeartbeats 2000000
namespace Go.Proofs.YtcbifofjjpfbcaaGreatDoor
open Go Go.SL
open Go.RowKit (wrap64)
attribute [local go_sem] Int.toNat_natCast
theorem MX {r:Nat→Option Nat} {bx bx':Nat→Option Bx} {f f':Nat} {ps ps':List (Nat × Nat)}:zq r bx bx' (.clo f ps) (.clo f' ps')=(f=f'∧ps.map (·.2)=ps'.map (·.2)∧ps'.map (fun p=>r p.1)=ps.map (fun p=>some p.1)):=rfl
attribute [local go_sem] MX
end Go.Proofs.YtcbifofjjpfbcaaGreatDoor
