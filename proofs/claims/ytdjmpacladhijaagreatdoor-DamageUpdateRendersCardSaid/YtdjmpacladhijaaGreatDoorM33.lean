/- Part of the proof: TC, TD, VH. -/
import Derived.Test.YtdjmpacladhijaaGreatDoorM28
set_option linter.unusedSimpArgs false
set_option linter.unusedVariables false
set_option maxHeartbeats 4000000
set_option maxRecDepth 16000
namespace Go.Proofs.YtdjmpacladhijaaGreatDoor
section
section
variable {s:Script} {m x y:Int}
open Classical in
end
theorem Twin.img {s t:Script} (T:Twin s t) (o:Op):bt s o=bt t o:=by
 unfold bt gE;rw [T.im,T.c]
section
variable {s t:Script} {x y:Int} {p q:Nat}
end
end
section
theorem oo {c:Rect}:mn c dz := .inl uj
theorem vL {c a b:Rect} (h:mn c b):mn c (ed a b):=by
 unfold ed;split
 ·exact oo
 grind [aM,mn,gr,oo]
theorem yJ {c:Rect}:mn c c := .inr ⟨Int.le_refl _,Int.le_refl _,Int.le_refl _,Int.le_refl _⟩
theorem Hs {c:Rect} {l:List Rect} (h:∀ r ∈ l,mn c r):mn c (fu l):=by
 have H:=EK l;by_cases hn:∃ r,wC l r
 ·have key:∀ r,wC l r→c.x0≤r.x0∧c.y0≤r.y0∧r.x1≤c.x1∧r.y1≤c.y1:=fun r ⟨h1,h2⟩=>by grind [aM,mn]
  obtain ⟨r0,i0,e0⟩:=(H.x0 hn).2;obtain ⟨r1,i1,e1⟩:=(H.y0 hn).2;obtain ⟨r2,i2,e2⟩:=(H.x1 hn).2;obtain ⟨r3,i3,e3⟩:=(H.y1 hn).2;have:=key _ i0;have:=key _ i1;have:=key _ i2;have:=key _ i3;right;omega
 ·rw [H.none fun r hr=>hn ⟨r,hr⟩];exact oo
theorem Cu {c r:Rect} (hc:aM c=false) (h:mn c r):(aM r || decide (ed c r=r))=true:=by
 cases he:aM r with
 | true=>rfl
 | false =>
  rcases h with h|h
  ·grind
  ·have h1:ed c r=gr ⟨max c.x0 r.x0,max c.y0 r.y0,min c.x1 r.x1,min c.y1 r.y1⟩:=if_neg (by grind);have h2:(⟨max c.x0 r.x0,max c.y0 r.y0,min c.x1 r.x1,min c.y1 r.y1⟩:Rect)=r:=HO (by grind) (by grind) (by grind) (by grind);grind [gr]
theorem xM {s:Script} {i:Int} {Q:Rect}:∀ {n k:Nat},k<n→∀ r ∈ lZ s i Q (ah s.ops k),r ∈ cf s i Q n
 | 0,k,h,_,_=>absurd h (Nat.not_lt_zero _)
 | n+1,k,h,r,hr=>by
  rw [cf];by_cases e:k=n
  ·grind
  ·exact List.mem_append_left _ (xM (by omega) r hr)
theorem rK {s:Script} {i:Int} {Q:Rect}:∀ n,∀ r ∈ cf s i Q n,mn s.canvas r
 | 0,r,h=>by cases h
 | n+1,r,h=>by
  rw [cf] at h;rcases List.mem_append.1 h with h|h
  ·exact rK n r h
  ·unfold lZ at h;rcases List.mem_append.1 h with h|h
   ·split at h
    ·rw [List.mem_singleton.1 h];exact vL yJ
    ·cases h
   ·split at h
    ·rw [List.mem_singleton.1 h];exact vL yJ
    ·cases h
theorem Cx {s:Script} {i:Int} {R:Rect}:mn s.canvas (fE s i R).1:=by grind [mn,fE,cf,Hs,rK,oo]
theorem a0s {s : Script} {Q : Rect} {x y dx dy : Int} (hc : aM s.canvas = false) (hxy : jo s.canvas x y) (hQ : -16777216 ≤ Q.x0 ∧ -16777216 ≤ Q.y0 ∧ Q.x1 ≤ 16777216 ∧ Q.y1 ≤ 16777216)
  (hdx : -1048576≤dx∧dx≤1048576) (hdy : -1048576≤dy∧dy≤1048576) (h:¬ zb (tZ s Q dx dy) x y):¬ zb Q (x - dx) (y - dy):=fun ⟨h1,h2⟩=>by
 rcases Ei h with q|q
 ·refine q ?_;have h3:=gw.1 h1;have e:aM ⟨Q.x0+dx,Q.y0+dy,Q.x1+dx,Q.y1+dy⟩=false:=by rw [gw];dsimp only;omega
  have e2:vV Q dx dy=⟨Q.x0+dx,Q.y0+dy,Q.x1+dx,Q.y1+dy⟩:=by
   unfold vV gr;rw [if_neg (by grind),e,if_neg (by decide)]
  grind [zb,vV,aM,jo]
 ·exact q ⟨hc,hxy⟩
section
variable {s:Script} {m x y:Int}
theorem Do (C:Pt s m x y) {z:Op→Pixel × Int} (h:∀ i,i<s.ops.length→(ah s.ops i).kind≠3→bg s x y (ah s.ops i)=z (ah s.ops i)):∀ i,i≤s.ops.length→jP m (bg s x y) s.ops i=jP m z s.ops i
 | 0,_=>by grind [jP,base,ep]
 | i+1,hi=>by
  have ih:=Do C h i (by omega);have hil:i<s.ops.length:=hi;rw [lx hil,lx hil,← ih];have ha:=oK C i (by omega);obtain ⟨t,r,e⟩:=ha.ne;rw [e] at ha ⊢;rcases C.V.wf.kinds i hil with k|k|k
  ·grind [iA,lr]
  ·grind [iA,jX]
  ·cases r with
   | nil =>
    grind [iA,ah]
   | cons u r =>
    rw [pH k,pH k];have ho:=ha.o;cases hs:bE s.ops i with
    | nil=>grind
    | cons g l =>
     rw [hs] at ho;have e1:t.op=ah s.ops g:=(List.cons.inj ho).1;have hg:g<i:=ej (ops:=s.ops) (by grind);grind [ah,iz,bE]
def eJ (s:Script) (k:Nat) (img:Image):Script := { s with images:=s.images.set k img }
theorem Pw (C : Pt s m x y) {k : Nat} {img : Image} {R : Rect} (hk : k < s.images.length) (hw : (cH s k).w ≤ 16777216) (hh : (cH s k).h ≤ 16777216)
  (hpx:∀ px py,¬ zb (ed R ⟨0,0,(cH s k).w,(cH s k).h⟩) px py→dN img px py=dN (cH s k) px py) (h0:(gu s).1=0) (hq:¬ zb (fE s k R).1 x y) :
  ch s x y=ch (eJ s k img) x y:=by
 rw [fE,if_neg (by simp [h0]),if_neg (by omega)] at hq;have hout:=Jp hq;rw [Int.toNat_natCast] at hout;have hQb:∀ a:Rect, -16777216≤(ed a ⟨0,0,(cH s k).w,(cH s k).h⟩).x0 ∧ -16777216≤(ed a ⟨0,0,(cH s k).w,(cH s k).h⟩).y0∧(ed a ⟨0,0,(cH s k).w,(cH s k).h⟩).x1≤16777216∧(ed a ⟨0,0,(cH s k).w,(cH s k).h⟩).y1≤16777216:=fun a=>by
  unfold ed;split
  ·grind [dz]
  unfold gr;grind
 have eq:(⟨0,0,(s.images.getD k default).w,(s.images.getD k default).h⟩:Rect)=⟨0,0,(cH s k).w,(cH s k).h⟩:=by unfold cH;rw [Int.toNat_natCast]
 rw [eq] at hout;have hQ:=hQb R;generalize ed R ⟨0,0,(cH s k).w,(cH s k).h⟩=Q at *
 have near:∀ dx dy,(-1048576≤dx∧dx≤1048576)→(-1048576≤dy∧dy≤1048576)→¬ zb (tZ s Q dx dy) x y→gm (cH s k) x y dx dy=gm img x y dx dy:=fun dx dy h1 h2 h3=>by
  unfold gm;split
  ·rfl
  ·exact (hpx _ _ (a0s C.c C.xy hQ h1 h2 h3)).symm
 have other:∀ i:Int,0≤i→i≠k→cH (eJ s k img) i=cH s i:=fun i h1 h2=>by grind [cH,eJ]
 have same:cH (eJ s k img) k=img:=by
  unfold cH eJ;dsimp only;rw [Int.toNat_natCast,List.getD_eq_getElem?_getD,List.getElem?_set_self hk];rfl
 have len:(eJ s k img).images.length=s.images.length:=List.length_set;have key:∀ i,i<s.ops.length→(ah s.ops i).kind≠3→bg s x y (ah s.ops i)=bg (eJ s k img) x y (ah s.ops i):=fun i hi hk3=>by grind [ah,bg,uJ,lZ,cf,xM]
 have e:=Do C key s.ops.length (Nat.le_refl _);unfold jP at e;rw [List.take_length] at e;unfold ch;rw [C.mx];have mx2:aN (eJ s k img).bits=m:=C.mx;rw [mx2,e];rfl
end
end
section
open Go Go.SL
open Go.RowKit (wrap64)
attribute [local go_sem] Int.toNat_natCast
theorem FJ {a b c d W:Nat} (hb:b<W) (hd:d<W) (h:a * W+b=c * W+d):a=c∧b=d:=by
 have h1:(a * W+b) / W=a:=by rw [Nat.mul_comm,Nat.mul_add_div (by omega),Nat.div_eq_of_lt hb,Nat.add_zero]
 have h2:(c * W+d) / W=c:=by rw [Nat.mul_comm,Nat.mul_add_div (by omega),Nat.div_eq_of_lt hd,Nat.add_zero]
 have h3:a=c:=by rw [← h1,h,h2]
 subst h3;exact ⟨rfl,by omega⟩
section
variable {W x0 y0 rw:Nat} {l o:List Pixel}
theorem AK {a:Nat}:∀ i,(∀ k,k<i→oS W x0 y0 rw k≠a)→(hZ W x0 y0 rw l o i).getD a default=o.getD a default
 | 0,_=>rfl
 | i+1,h=>by
  rw [hZ,List.getD_eq_getElem?_getD,List.getElem?_set_ne (h i (Nat.lt_succ_self i)),← List.getD_eq_getElem?_getD];exact AK i fun k hk=>h k (Nat.lt_succ_of_lt hk)
theorem Ic {P:Pixel→Prop} (ho:∀ p ∈ o,P p) (hl:∀ i,i<l.length→P (l.getD i default)):∀ i,i≤l.length→∀ p ∈ hZ W x0 y0 rw l o i,P p
 | 0,_=>ho
 | i+1,h=>fun p hp=>by
  rcases List.mem_or_eq_of_mem_set hp with q|q
  ·exact Ic ho hl i (by omega) p q
  ·rw [q];exact hl i (by omega)
end
def mc (m:Image) (r:Rect) (l:List Pixel):Image:=gN m.w m.h (hZ m.w.toNat r.x0.toNat r.y0.toNat (r.x1 - r.x0).toNat l (nN m (m.h.toNat * m.w.toNat)) l.length)
structure Part (m:Image) (r:Rect):Prop where
 x0:0≤r.x0
 x:r.x0<r.x1
 x1:r.x1≤m.w
 y0:0≤r.y0
 y:r.y0<r.y1
 y1:r.y1≤m.h
section
variable {m:Image} {r:Rect} {l:List Pixel}
theorem AS (hf:aV m=true):((hZ m.w.toNat r.x0.toNat r.y0.toNat (r.x1 - r.x0).toNat l (nN m (m.h.toNat * m.w.toNat)) l.length).length:Int)=m.w * m.h:=by rw [kC,gA];exact (jf hf).2.2.2.2.2.1
theorem a4n {mx:Int} (hm:ImgV m mx) (hl:∀ i,i<l.length→PixV (l.getD i default) mx):ImgV (mc m r l) mx:=by
 obtain ⟨hfit,b1,b2,b3,b4,b5,b6⟩:=jf hm.f;refine Gh hfit (AS hm.f) (Ic (fun p hp => ?_) hl _ (Nat.le_refl _));obtain ⟨a,ha,rfl⟩:=List.mem_map.1 hp;rw [List.mem_range] at ha;have hW:0<m.w.toNat:=by omega
 have h1:=Nat.mod_lt a hW;have h2:a / m.w.toNat<m.h.toNat:=(Nat.div_lt_iff_lt_mul hW).2 ha;exact hm.p _ _ (Int.natCast_nonneg _) (by omega) (Int.natCast_nonneg _) (by omega)
theorem VV (hf:aV m=true) (hr:Part m r) (hl:(l.length:Int)=(r.x1 - r.x0) * (r.y1 - r.y0)) (px py:Int) (hpx:¬ zb (ed r ⟨0,0,m.w,m.h⟩) px py):dN (mc m r l) px py=dN m px py:=by
 obtain ⟨hfit,b1,b2,b3,b4,b5,b6⟩:=jf hf;have hL:=AS (r:=r) (l:=l) hf;obtain ⟨r1,r2,r3,r4,r5,r6⟩:=hr;unfold dN;rw [show aV (mc m r l)=true from mT hfit hL,hf,show (mc m r l).w=m.w from rfl,show (mc m r l).h=m.h from rfl];by_cases c:true=false∨px<0∨m.w≤px∨py<0∨m.h≤py
 ·rw [if_pos c,if_pos c]
 rw [if_neg c,if_neg c];obtain ⟨X,hX⟩:∃ X:Nat,px=X:=⟨px.toNat,by omega⟩
 obtain ⟨Y,hY⟩:∃ Y:Nat,py=Y:=⟨py.toNat,by omega⟩
 obtain ⟨hi,e⟩:=KJ hL (x:=px) (y:=py) (by omega) (by omega) (by omega) (by omega);have ei:(py * m.w+px).toNat=Y * m.w.toNat+X:=by rw [hX,hY,show m.w=((m.w.toNat:Nat):Int) by omega,← Int.natCast_mul,← Int.natCast_add,Int.toNat_natCast,Int.toNat_natCast]
 rw [kC,gA,ei] at hi;rw [show fy (mc m r l) px py=_ from e,ei,AK,Ko hi,Lj rfl (by omega),hX,hY];intro k hk he;apply hpx;have hw0:0<(r.x1 - r.x0).toNat:=by omega
 have h1:=Nat.mod_lt k hw0;have h2:k / (r.x1 - r.x0).toNat<(r.y1 - r.y0).toNat:=by
  rw [Nat.div_lt_iff_lt_mul hw0];have:(((r.y1 - r.y0).toNat * (r.x1 - r.x0).toNat:Nat):Int)=(r.x1 - r.x0) * (r.y1 - r.y0):=by rw [Int.natCast_mul,Int.toNat_of_nonneg (by omega),Int.toNat_of_nonneg (by omega),Int.mul_comm]
  omega
 have h0:=Int.natCast_nonneg (k / (r.x1 - r.x0).toNat);have h00:=Int.natCast_nonneg (k % (r.x1 - r.x0).toNat);unfold oS at he;rw [Nat.add_assoc] at he;obtain ⟨e1,e2⟩:=FJ (by omega) (by omega) he;have er:aM r=false:=by rw [gw];omega
 have eq:aM (⟨0,0,m.w,m.h⟩:Rect)=false:=by rw [gw];dsimp only;omega
 exact (rz er eq).2 ⟨by unfold jo;omega,by unfold jo;dsimp only;omega⟩
end
end
end Go.Proofs.YtdjmpacladhijaaGreatDoor
