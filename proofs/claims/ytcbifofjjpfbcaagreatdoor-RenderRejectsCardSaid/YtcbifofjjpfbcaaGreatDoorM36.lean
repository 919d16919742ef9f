/- Part of the proof: N6. -/
import Derived.Test.YtcbifofjjpfbcaaGreatDoorM34
set_option linter.unusedSimpArgs false
set_option linter.unusedVariables false
set_option maxHeartbeats 8000000
set_option maxRecDepth 16000
namespace Go.Proofs.YtcbifofjjpfbcaaGreatDoor
open Go Go.SL
open Go.RowKit (wrap64)
attribute [local go_sem] Int.toNat_natCast Lt List.append_eq List.cons_append List.nil_append
theorem vd {s:Script} {r:Rect} (hc:(aW s).1=0→Small s.canvas):ImgLen (iR s r):=by
 unfold iR;split
 ·rename_i h;unfold dV at h;split at h
  ·rename_i q;exact absurd h q
  ·rename_i q;split at h
   ·cases h
   ·rename_i q2;have h0:(aW s).1=0:=by simpa using q
    have hi:InR r s.canvas:=qn (by simpa using fun e=>q2 (.inl e)) (by simpa using fun e=>q2 (.inr e));exact wH (s:=s) (hi.small (hc h0))
 ·exact zD
end Go.Proofs.YtcbifofjjpfbcaaGreatDoor
