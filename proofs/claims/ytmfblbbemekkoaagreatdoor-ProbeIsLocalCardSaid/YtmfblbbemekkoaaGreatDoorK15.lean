/- Part of the proof: D5, EM, T6, T7, T8. -/
import Derived.Test.YtmfblbbemekkoaaGreatDoorK14
set_option linter.unusedSimpArgs false
set_option linter.unusedVariables false
set_option maxHeartbeats 1000000
set_option maxRecDepth 16000
namespace Go.Proofs.YtmfblbbemekkoaaGreatDoor
open Go Go.SL
open Go.RowKit (wrap64)
def Oc (n:Nat) (f:Nat→Nat):PV := .lst 1 n (fun a _=>PI (f a))
attribute [go_sem] Oc
theorem mF {n:Nat}:(((n+1:Nat):Int) - 1)=(n:Int):=by omega
attribute [local go_sem] mF Int.toNat_natCast
def QR (l junk:List Nat) (a:Nat):Nat:=(l.reverse ++ junk).getD a 0
theorem uQ {p:Nat} {t junk:List Nat}:QR (p :: t) junk t.length=p:=by
 rw [QR,List.reverse_cons,List.append_assoc,List.getD_eq_getElem?_getD,List.getElem?_append_right (by simp)]
 simp
attribute [local go_sem] uQ
end Go.Proofs.YtmfblbbemekkoaaGreatDoor
set_option maxRecDepth 8000
set_option maxHeartbeats 2000000
namespace Go.Proofs.YtmfblbbemekkoaaGreatDoor
open Go Go.SL
def tP (ops:List Op) (i:Nat):Int:=match bR ops i with|[] => -1|p :: _=>p
def Eo (ops:List Op) (i:Nat):Int:=if (aO ops i).kind=3 then tP ops (i+1) else tP ops i
theorem pE {ops:List Op}:∀ {i:Nat} {l t:List Nat} {p:Nat},bR ops i=l ++ p :: t→bR ops p=t
 | 0,l,t,p,h=>by cases l <;> simp [bR] at h
 | i+1,l,t,p,h=>by
  rw [bR] at h
  split at h
  ·cases l with
   | nil=>simp only [List.nil_append,List.cons.injEq] at h;rw [← h.1,h.2]
   | cons a l=>simp only [List.cons_append,List.cons.injEq] at h;exact pE h.2
  split at h
  ·cases hs:bR ops i with
   | nil=>rw [hs] at h;cases l <;> simp at h
   | cons q r=>rw [hs] at h;exact pE (l:=q :: l) (by rw [hs];exact congrArg (q :: ·) h)
  ·exact pE h
theorem Bs {ops:List Op} {i:Nat} (h:bR ops i=[]):tP ops i = -1:=by rw [tP,h]
theorem yJ {ops:List Op} {i p:Nat} {t:List Nat} (h:bR ops i=p :: t):tP ops i=p:=by rw [tP,h]
def Nl (s:Script) (i:Nat):Bool:=decide (Eo s.ops i<0) || (aO s.ops (Eo s.ops i).toNat).isolated
def QP (s:Script) (i:Nat):Bool := !decide (Eo s.ops i<0) && (aO s.ops (Eo s.ops i).toNat).knockout
def fS (s:Script) (k:Int):Image:=s.images.getD k.toNat default
end Go.Proofs.YtmfblbbemekkoaaGreatDoor
namespace Go.Proofs.YtmfblbbemekkoaaGreatDoor
section
variable {m:Int} {z:Op→Pixel × Int}
theorem jE {o:Op} {t:Lv} {r:List Lv} (h:o.kind=1):ks m z (t :: r) o=bT m o (az m o (z o).1 (z o).2) t :: r:=if_pos h
theorem jQ {o:Op} {t:Lv} {r:List Lv} (h:o.kind=2):ks m z (t :: r) o=fW o t :: t :: r:=(if_neg (by omega)).trans (if_pos h)
theorem lF {o:Op} {t u:Lv} {r:List Lv} (h:o.kind=3):ks m z (t :: u :: r) o=bT m t.op (az m t.op (bl t.acc t.back m) (z t.op).2) u :: r:=(if_neg (by omega)).trans (if_neg (by omega))
end
section
variable {ops:List Op}
end
end Go.Proofs.YtmfblbbemekkoaaGreatDoor
namespace Go.Proofs.YtmfblbbemekkoaaGreatDoor
section
variable {op mode m cs sl cb ab:Int}
end
section
variable {ko:Bool} {op mode m:Int} {s:Pixel} {x:Acc} {b:Pixel}
theorem AccV.pre2 (h:AccV x b m):Pre x.c2 x.a m:=⟨h.n2,h.l2,h.am⟩
theorem PixV.pre2 (h:PixV s m):Pre s.c2 s.a m:=⟨h.n2,h.l2,h.am⟩
end
end Go.Proofs.YtmfblbbemekkoaaGreatDoor
namespace Go.Proofs.YtmfblbbemekkoaaGreatDoor
def MM (r:Rect) (x y:Int):Prop:=r.x0≤x∧x<r.x1∧r.y0≤y∧y<r.y1
def eG (m:Image) (x y:Int):Pixel:=if m.solid=true then m.color else ⟨m.p0.s.getD (y * m.p0.stride+x).toNat 0,m.p1.s.getD (y * m.p1.stride+x).toNat 0,m.p2.s.getD (y * m.p2.stride+x).toNat 0,m.p3.s.getD (y * m.p3.stride+x).toNat 0,m.p4.s.getD (y * m.p4.stride+x).toNat 0⟩
def cq (p:Plane):Bool:=bU p.w p.h && decide (p.w≤p.stride) && decide (p.stride≤16777216) && decide ((p.h - 1) * p.stride+p.w≤p.s.length)
def aB (m:Image) (p:Plane):Bool:=if m.solid=true then decide (p.w=0) && decide (p.h=0) && decide (p.stride=0) && decide (p.s.length=0) else cq p && decide (p.w=m.w) && decide (p.h=m.h)
def aW (m:Image):Bool:=bU m.w m.h && (aB m m.p0 && aB m m.p1 && aB m m.p2 && aB m m.p3 && aB m m.p4 && (m.solid || decide (m.color=aG)))
def dK (m:Image) (x y:Int):Pixel:=if aW m=false∨x<0∨m.w≤x∨y<0∨m.h≤y then aG else eG m x y
def kX (m:Image) (x y dx dy:Int):Pixel:=if x<dx∨y<dy∨1099511627776≤x - dx∨1099511627776≤y - dy then aG else dK m (x - dx) (y - dy)
def bI (s:Script) (x y:Int) (o:Op):Pixel × Int :=
 (if o.kind=1∧0≤o.image∧o.image<s.images.length then kX (fS s o.image) x y o.x o.y else aG,
  if 1≤o.mask∧o.mask≤s.images.length then (kX (fS s (o.mask - 1)) x y o.maskX o.maskY).a else 0)
structure ImgV (m:Image) (mx:Int):Prop where
 f:aW m=true
 p:∀ x y,0≤x→x<m.w→0≤y→y<m.h→PixV (eG m x y) mx
def oE (s:Script):Prop:=∀ i:Int,0≤i→i<s.images.length→ImgV (fS s i) (bz s.bits)
theorem Gu {m:Image} {mx x y:Int} (hm:Full mx) (h:ImgV m mx):PixV (dK m x y) mx:=by
 unfold dK
 split
 ·exact qY hm
 ·exact h.p x y (by omega) (by omega) (by omega) (by omega)
theorem Ab {m:Image} {mx x y dx dy:Int} (hm:Full mx) (h:ImgV m mx):PixV (kX m x y dx dy) mx:=by
 unfold kX
 split
 ·exact qY hm
 ·exact Gu hm h
theorem NQ {s:Script} {m x y:Int} (hm:Full m) (hmx:bz s.bits=m) (h:oE s):SmpV m (bI s x y):=by
 subst hmx
 have key:∀ o:Op,0≤(bI s x y o).2∧(bI s x y o).2≤bz s.bits:=fun o=>by
  unfold bI
  dsimp only
  split
  ·have:=Ab (x:=x) (y:=y) (dx:=o.maskX) (dy:=o.maskY) hm (h (o.mask - 1) (by omega) (by omega))
   exact ⟨this.a0,this.am⟩
  ·have:=hm.pos
   omega
 refine ⟨fun o => ?_,fun o=>(key o).1,fun o=>(key o).2⟩
 unfold bI
 dsimp only
 split
 ·exact Ab hm (h o.image (by omega) (by omega))
 ·exact qY hm
theorem mq {m:Image} (h:aW m=true):1≤m.w∧1≤m.h∧m.w≤16777216∧m.h≤16777216:=by
 have:bU m.w m.h=true:=by
  unfold aW at h
  rw [Bool.and_eq_true] at h;exact h.1
 obtain ⟨a,b,_,_,c,d⟩:=cS this
 exact ⟨a,b,c,d⟩
section
variable {s:Script} {x y:Int}
end
end Go.Proofs.YtmfblbbemekkoaaGreatDoor
