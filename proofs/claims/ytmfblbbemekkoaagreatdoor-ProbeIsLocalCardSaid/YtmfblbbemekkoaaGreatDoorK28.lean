/- Part of the proof: TC, DB, DA. -/
import Derived.Test.YtmfblbbemekkoaaGreatDoorK24
import Derived.Test.YtmfblbbemekkoaaGreatDoorK27
set_option linter.unusedSimpArgs false
set_option linter.unusedVariables false
set_option maxHeartbeats 1000000
namespace Go.Proofs.YtmfblbbemekkoaaGreatDoor
def ON (r:Rect) (x y:Int):Prop:=bM r=false∧MM r x y
section
variable {s:Script} {m x y:Int}
open Classical in
end
structure Twin (s t:Script):Prop where
 im:s.images=t.images
 c:s.canvas=t.canvas
theorem Twin.box {s t:Script} (T:Twin s t) (o:Op) (r:Rect):xr s o r=xr t o r:=by
 unfold xr tp vg
 rw [T.im,T.c]
section
variable {s t:Script} {x y:Int} {p q:Nat}
structure Ends (s t:Script) (x y:Int) (p q:Nat):Prop where
 T:Twin s t
 W:Wf s.ops
 U:Wf t.ops
 ls:p+q≤s.ops.length
 lt:p+q≤t.ops.length
 pre:∀ i,i<p→aO s.ops i=aO t.ops i
 suf:∀ k,k<q→aO s.ops (s.ops.length - q+k)=aO t.ops (t.ops.length - q+k)
 os:∀ g,(p≤g∧g<s.ops.length - q∨g ∈ bR s.ops p)→¬ ON (Ea s g) x y
 ot:∀ g,(p≤g∧g<t.ops.length - q∨g ∈ bR t.ops p)→¬ ON (Ea t g) x y
theorem Ends.symm (E:Ends s t x y p q):Ends t s x y p q:=⟨⟨E.T.im.symm,E.T.c.symm⟩,E.U,E.W,E.lt,E.ls,fun i h=>(E.pre i h).symm,fun k h=>(E.suf k h).symm,E.ot,E.os⟩
end
end Go.Proofs.YtmfblbbemekkoaaGreatDoor
set_option maxRecDepth 8000
set_option maxHeartbeats 2000000
namespace Go.Proofs.YtmfblbbemekkoaaGreatDoor
open Go Go.SL
open Go.RowKit (wrap64)
attribute [local go_sem] Int.toNat_natCast
theorem Iy {r:Nat→Option Nat} {bx bx':Nat→Option Bx} {f f':Nat} {ps ps':List (Nat × Nat)}:wv r bx bx' (.clo f ps) (.clo f' ps')=(f=f'∧ps.map (·.2)=ps'.map (·.2)∧ps'.map (fun p=>r p.1)=ps.map (fun p=>some p.1)):=rfl
attribute [local go_sem] Iy
end Go.Proofs.YtmfblbbemekkoaaGreatDoor
set_option maxRecDepth 8000
set_option maxHeartbeats 4000000
namespace Go.Proofs.YtmfblbbemekkoaaGreatDoor
open Go Go.SL
open Go.RowKit (wrap64)
attribute [local go_sem] Int.toNat_natCast
def zS:List CV:=[CV.p (PI 0),CV.p (PI 0),CV.p (PI 0),CV.p (PI 0),CV.p (PI 0),CV.p (PI 0),CV.p (PI 0),CV.p Ec,CV.p Ec,CV.p Ec]
def tS (s:Script) (m:Nat):List CV:=[CV.p (PI s.bits),CV.p (PI s.canvas.x0),CV.p (PI s.canvas.y0),CV.p (PI s.canvas.x1),CV.p (PI s.canvas.y1),CV.p (PI s.tileW),CV.p (PI s.tileH),CV.p (eT s.order),CV.p (uO s.images),CV.own 3 m]
attribute [local go_sem] zS tS
end Go.Proofs.YtmfblbbemekkoaaGreatDoor
