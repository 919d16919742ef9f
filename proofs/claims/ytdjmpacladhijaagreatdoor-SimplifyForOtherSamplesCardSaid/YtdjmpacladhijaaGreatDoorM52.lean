/- Part of the proof: VK. -/
import Derived.Test.YtdjmpacladhijaaGreatDoorM34
import Derived.Test.YtdjmpacladhijaaGreatDoorM35
set_option linter.unusedSimpArgs false
set_option linter.unusedVariables false
set_option maxHeartbeats 4000000
namespace Go.Proofs.YtdjmpacladhijaaGreatDoor
open Go Go.SL
open Go.RowKit (wrap64)
theorem GQ {s t:Script} (hc:Small s.canvas) (e:t.canvas=s.canvas) (h:∀ x y,jo s.canvas x y→ch t x y=ch s x y):cU t=cU s:=by
 have hp:jj t ((s.canvas.x1 - s.canvas.x0) * (s.canvas.y1 - s.canvas.y0)).toNat=jj s ((s.canvas.x1 - s.canvas.x0) * (s.canvas.y1 - s.canvas.y0)).toNat:=by
  refine List.map_congr_left fun q hq => ?_;rw [List.mem_range] at hq;unfold WS;rw [e];refine h _ _ ?_;obtain ⟨x0,x1,y0,y1,hw,hh⟩:=hc;obtain ⟨W,hW⟩:∃ W:Nat,(W:Int)=s.canvas.x1 - s.canvas.x0:=⟨(s.canvas.x1 - s.canvas.x0).toNat,by omega⟩
  obtain ⟨H,hH⟩:∃ H:Nat,(H:Int)=s.canvas.y1 - s.canvas.y0:=⟨(s.canvas.y1 - s.canvas.y0).toNat,by omega⟩
  rw [← hW,← hH,← Int.natCast_mul,Int.toNat_natCast] at hq;have eW:(s.canvas.x1 - s.canvas.x0).toNat=W:=by omega
  rw [eW];have q1:=Nat.mod_lt q (show W>0 by omega);have q2:=Nat.div_lt_of_lt_mul hq;unfold jo;generalize q % W=a at *
  generalize q / W=b at *
  omega
 grind [cU]
end Go.Proofs.YtdjmpacladhijaaGreatDoor
