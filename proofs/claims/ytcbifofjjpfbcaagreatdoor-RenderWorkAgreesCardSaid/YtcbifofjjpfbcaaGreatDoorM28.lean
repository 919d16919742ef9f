/- Part of the proof: VA. -/
import Derived.Test.YtcbifofjjpfbcaaGreatDoorM20
import Derived.Test.YtcbifofjjpfbcaaGreatDoorM25
set_option linter.unusedSimpArgs false
set_option linter.unusedVariables false
set_option maxHeartbeats 8000000
set_option maxRecDepth 16000
namespace Go.Proofs.YtcbifofjjpfbcaaGreatDoor
open Go Go.SL
open Go.RowKit (wrap64)
attribute [local go_sem] cH vR cz Int.toNat_natCast
def DT (f:Nat→Nat→PV):List Lv→Prop
 | []=>True
 | t :: r=>gA (f r.length) t∧DT f r
theorem Jj {s:Script} (V:VOps s) {i:Nat} (hi:i≤s.ops.length):(bI s.ops i).length≤64:=by
 cases hs:bI s.ops i with
 | nil=>simp
 | cons g r =>
  have hg:g<i:=dR (ops:=s.ops) (by rw [hs];exact List.mem_cons_self ..)
  have hk:(aB s.ops g).kind=2:=fO (i:=i) (by rw [hs];exact List.mem_cons_self ..)
  obtain ⟨_,_,_,q⟩:=dr.1 (V.ok g (by omega))
  obtain ⟨_,_,_,_,_,_,q7⟩:=q (by omega)
  have h7:=q7 hk
  have e:bI s.ops g=r:=kg (l:=[]) hs
  rw [List.length_map,List.length_reverse,e] at h7
  rw [List.length_cons];omega
def TV (m:Int) (t:Lv):BV:=sY m 1 (fun _ j=>(vR t).getD j .any)
end Go.Proofs.YtcbifofjjpfbcaaGreatDoor
