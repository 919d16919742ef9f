/- Part of the proof: H5. -/
import Derived.Test.YtdjmpacladhijaaGreatDoorM34
import Derived.Test.YtdjmpacladhijaaGreatDoorM35
import Derived.Test.YtdjmpacladhijaaGreatDoorM51
set_option linter.unusedSimpArgs false
set_option linter.unusedVariables false
set_option maxRecDepth 8000
set_option maxHeartbeats 400000
namespace Go.Proofs.YtdjmpacladhijaaGreatDoor
structure Like (s:Script) (L:List Image):Prop where
 n:L.length=s.images.length
 w:∀ k:Nat,(L.getD k default).w=(s.images.getD k default).w
 h:∀ k:Nat,(L.getD k default).h=(s.images.getD k default).h
 so:∀ k:Nat,(L.getD k default).solid=(s.images.getD k default).solid
 co:∀ k:Nat,(L.getD k default).color=(s.images.getD k default).color
def fN (s:Script) (L:List Image):Script := { s with images:=L }
section
variable {s:Script} {L:List Image}
theorem Ft (h:Like s L) (k:Int):(cH (fN s L) k).solid=(cH s k).solid:=h.so k.toNat
theorem FE (h:Like s L) (k:Int):(cH (fN s L) k).color=(cH s k).color:=h.co k.toNat
theorem yz (h:Like s L) (i x y:Int):gE (fN s L) i x y=gE s i x y:=by
 show (if i<0∨(L.length:Int)≤i then dz else if (si x || si y || si (L.getD i.toNat default).w || si (L.getD i.toNat default).h)=true then dz else ed ⟨x,y,x+(L.getD i.toNat default).w,y+(L.getD i.toNat default).h⟩ s.canvas)=_;rw [h.n,h.w,h.h];rfl
theorem Mi (h:Like s L) (o:Op):bt (fN s L) o=bt s o:=by unfold bt;rw [yz h]
theorem MF (h:Like s L) (o:Op):cV (fN s L) o=cV s o:=by unfold cV;rw [yz h];rfl
theorem Ml (h:Like s L) (o:Op):TM (fN s L) o=TM s o:=by unfold TM;rw [Ft h]
theorem Mw (h:Like s L) (o:Op):Vq (fN s L) o=Vq s o:=by unfold Vq;rw [FE h]
theorem PJ (h:Like s L) (o:Op):xQ (fN s L) o=xQ s o:=by unfold xQ;rw [Ml h,Mw h,MF h];rfl
theorem PR (h:Like s L) (o:Op):yo (fN s L) o=yo s o:=by unfold yo;rw [Ml h,Mw h,MF h]
theorem Td (h:Like s L) (i:Nat):BL (fN s L) i=BL s i:=by
 unfold BL;rw [PR h,Mi h,Ft h,FE h];rfl
theorem XN (h:Like s L) (j:Nat):NC (fN s L) j=NC s j:=by
 unfold NC;rw [Mi h,Ft h,FE h];rfl
theorem DO (h:Like s L):∀ f j,Cp (fN s L) f j=Cp s f j
 | 0,_=>rfl
 | f+1,j=>by
  unfold Cp;rw [XN h,show (fN s L).ops=s.ops from rfl,DO h f]
theorem Oh (h:Like s L) (n i:Nat):Hm (fN s L) n i=Hm s n i:=by
 match n with
 | 0=>rfl
 | 1=>exact Td h i
 | 2=>rfl
 | 3=>rfl
 | 4=>exact DO h _ _
 | 5=>exact PJ h _
 | 6=>rfl
 | 7=>rfl
 | 8=>rfl
 | 9=>rfl
 | n+10=>rfl
theorem YP (h:Like s L) (n i:Int):uN (fN s L) n i=uN s n i:=by
 unfold uN;rw [Oh h];rfl
theorem NT (h:Like s L) (i k:Nat):kM (fN s L) i k=kM s i k:=by
 unfold kM;simp only [YP h]
theorem Qa (h:Like s L) (i:Nat):jv (fN s L) i=jv s i:=by
 unfold jv;simp only [NT h]
theorem Ka (h:Like s L):bJ (fN s L)=bJ s:=by
 have e:(fN s L).images.length=s.images.length:=h.n;unfold bJ;rw [e];rfl
theorem Sy (h:Like s L):gu (fN s L)=gu s:=by
 unfold gu;rw [Ka h,show (fN s L).images.length=s.images.length from h.n];rfl
theorem SG (h:Like s L):fc (fN s L)=fc s:=by
 unfold fc;rw [Sy h,Qa h];rfl
end
theorem On {s:Script} {L:List Image} (h:Like s L) (l:List Op):Like (cl s l) L:=⟨h.n,h.w,h.h,h.so,h.co⟩
theorem HG:∀ (f:Nat) {s:Script} {L:List Image},Like s L→jA f (fN s L)=jA f s
 | 0,_,_,_=>rfl
 | f+1,s,L,h=>by
  have e:=SG h;unfold jA;rw [e];cases hr:(fc s).head? with
  | none=>rfl
  | some r =>
   have:=HG f (On h (rf s r.1.toNat r.2.toNat));show ((jA f (fN (cl s (rf s r.1.toNat r.2.toNat)) L)).1,r :: (jA f (fN (cl s (rf s r.1.toNat r.2.toNat)) L)).2)=_;rw [this]
theorem PZ {s:Script} {L:List Image} (h:Like s L):nQ (fN s L)=nQ s:=HG _ h
theorem Ax:∀ (f:Nat) (s:Script),(jA f s).1.length≤s.ops.length
 | 0,s=>Nat.le_refl _
 | f+1,s=>by
  cases hr:(fc s).head? with
  | none=>rw [vw hr];exact Nat.le_refl _
  | some r =>
   rw [vl hr];have hm:=(vF.1 (vX hr).1)
   exact Nat.le_trans (Ax f (oj s r)) (EY (jK hm.1).wf hm.2)
structure ImgB (m:Image):Prop where
 k:m.solid=true∨(m.solid=false∧m.color=bG∧(1≤m.w∧m.w≤5)∧1≤m.h∧m.h≤4)
theorem Sk {p:Pic} {c:Rect} {m:Int} (hc:Small c):ImgB (jR p c m):=by
 obtain ⟨h1,h2,h3,h4,_⟩:=Ht (p:=p) hc;unfold jR;split
 ·exact ⟨.inl rfl⟩
 ·exact ⟨.inr ⟨rfl,rfl,⟨h1,h2⟩,h3,h4⟩⟩
theorem a1b (c:Scene) (l:List Int) {m:Image} (hm:m ∈ (dX (aI c) l).images):ImgB m:=by
 have hm:m ∈ aT c ++ [tQ (aI c),Oj (aI c)]:=hm;rcases List.mem_append.1 hm with hm|hm
 ·unfold aT at hm;split at hm
  ·rw [List.mem_singleton.1 hm];exact ⟨.inl rfl⟩
  ·unfold cL at hm;obtain ⟨p,_,rfl⟩:=List.mem_map.1 hm;exact Sk (cI c)
 ·simp only [List.mem_cons,List.not_mem_nil,or_false] at hm;rcases hm with rfl|rfl <;> exact ⟨.inl rfl⟩
def YU:Row:=⟨0,[]⟩
def tD (d:Scene) (a:Nat):Row:=if a<d.pics.length then (d.pics.getD a default).row else YU
def uo (d:Scene) (mx:Int) (a:Nat) (m:Image):Image:=if m.solid=true then m else bR m.w m.h (aY (tD d a) (m.w * m.h).toNat mx)
def jI (s:Script) (d:Scene) (mx:Int) (i:Nat):List Image:=(List.range s.images.length).map fun a=>if a<i then uo d mx a (s.images.getD a default) else s.images.getD a default
theorem sJ {s:Script} {d:Scene} {mx:Int} {i:Nat}:(jI s d mx i).length=s.images.length:=by simp [jI]
theorem uK {s:Script} {d:Scene} {mx:Int} {i a:Nat} (ha:a<s.images.length):(jI s d mx i).getD a default=if a<i then uo d mx a (s.images.getD a default) else s.images.getD a default:=by simp [jI,ha]
theorem ZX {s:Script} {d:Scene} {mx:Int} {i a:Nat} (ha:s.images.length≤a):(jI s d mx i).getD a default=s.images.getD a default:=by rw [List.getD_eq_getElem?_getD,List.getD_eq_getElem?_getD,List.getElem?_eq_none (by rw [sJ];exact ha),List.getElem?_eq_none ha]
theorem Xa {d:Scene} {mx:Int} {a:Nat} {m:Image} (h:ImgB m):(uo d mx a m).w=m.w∧(uo d mx a m).h=m.h∧(uo d mx a m).solid=m.solid∧(uo d mx a m).color=m.color:=by
 unfold uo;split
 ·exact ⟨rfl,rfl,rfl,rfl⟩
 ·rename_i hs;rcases h.k with q|⟨q1,q2,q3,q4⟩
  ·exact absurd q hs
  ·have hok:=kX (w:=m.w) (h:=m.h) (n:=(aY (tD d a) (m.w * m.h).toNat mx).length) q3 q4 (by simp [aY]);rw [bR,if_pos hok];exact ⟨rfl,rfl,q1.symm,q2.symm⟩
theorem a2i {d:Scene} {mx:Int} {a:Nat} {m:Image} (h:ImgB m) (hv:ImgV m mx) (hm:0≤mx):ImgV (uo d mx a m) mx:=by
 unfold uo;split
 ·exact hv
 ·rename_i hs;rcases h.k with q|⟨q1,q2,q3,q4⟩
  ·exact absurd q hs
  ·have hok:=kX (w:=m.w) (h:=m.h) (n:=(aY (tD d a) (m.w * m.h).toNat mx).length) q3 q4 (by simp [aY]);have hk:=hok;rw [bR,if_pos hok];unfold dg at hk;rw [Bool.and_eq_true,decide_eq_true_eq] at hk;refine Gh hk.1 hk.2 fun p hp => ?_;unfold aY at hp;obtain ⟨i,_,rfl⟩:=List.mem_map.1 hp;exact JH _ _ hm
theorem Uo {s:Script} {d:Scene} {mx:Int} {i:Nat} (h:∀ m ∈ s.images,ImgB m):Like s (jI s d mx i):=by
 have key:∀ k:Nat,((jI s d mx i).getD k default).w=(s.images.getD k default).w∧((jI s d mx i).getD k default).h=(s.images.getD k default).h∧((jI s d mx i).getD k default).solid=(s.images.getD k default).solid∧((jI s d mx i).getD k default).color=(s.images.getD k default).color:=fun k=>by
  rcases Nat.lt_or_ge k s.images.length with hk|hk
  ·rw [uK hk];split
   ·refine Xa (h _ ?_);rw [List.getD_eq_getElem?_getD,List.getElem?_eq_getElem hk];exact List.getElem_mem _
   ·exact ⟨rfl,rfl,rfl,rfl⟩
  ·rw [ZX hk];exact ⟨rfl,rfl,rfl,rfl⟩
 exact ⟨sJ,fun k=>(key k).1,fun k=>(key k).2.1,fun k=>(key k).2.2.1,fun k=>(key k).2.2.2⟩
theorem WH {s:Script} {d:Scene} {mx:Int} {i:Nat} (H:Sml s) (hb:∀ m ∈ s.images,ImgB m):Sml (fN s (jI s d mx i)):=by
 have hl:(fN s (jI s d mx i)).images.length=s.images.length:=sJ;have key:∀ a,a<s.images.length→PlB ((jI s d mx i).getD a default):=fun a ha=>by
  have h0:PlB (s.images.getD a default):=⟨H.p0 a ha,H.p1 a ha,H.p2 a ha,H.p3 a ha,H.p4 a ha⟩
  have hm:s.images.getD a default ∈ s.images:=by rw [List.getD_eq_getElem?_getD,List.getElem?_eq_getElem ha];exact List.getElem_mem _
  have hk:=(hb _ hm).k;rw [uK ha];split
  ·unfold uo;split
   ·exact h0
   ·rename_i hs;rcases hk with q|⟨q1,q2,q3,q4⟩
    ·exact absurd q hs
    ·have hok:=kX (w:=(s.images.getD a default).w) (h:=(s.images.getD a default).h) (n:=(aY (tD d a) ((s.images.getD a default).w * (s.images.getD a default).h).toNat mx).length) q3 q4 (by simp [aY]);rw [bR,if_pos hok];refine xN _ _ _ ?_;have:(s.images.getD a default).w * (s.images.getD a default).h≤5 * 4:=Int.mul_le_mul q3.2 q4.2 (by omega) (by omega);rw [aY,List.length_map,List.length_range];omega
  ·exact h0
 exact ⟨H.order,by rw [hl];exact H.im0,by rw [hl];exact H.im,fun a ha=>(key a (hl ▸ ha)).p0,fun a ha=>(key a (hl ▸ ha)).p1,fun a ha=>(key a (hl ▸ ha)).p2,fun a ha=>(key a (hl ▸ ha)).p3,fun a ha=>(key a (hl ▸ ha)).p4⟩
theorem a2E {c:Scene} {s:Script} (h:Of c s) (hb:∀ m ∈ s.images,ImgB m) (d:Scene):Of c (fN s (jI s d (aN s.bits) s.images.length)):=by
 have hl:(fN s (jI s d (aN s.bits) s.images.length)).images.length=s.images.length:=sJ;refine ⟨h.b,h.cv,h.w,h.h,h.o,by rw [hl];exact h.n1,by rw [hl];exact h.n2,fun i h0 h1 => ?_, ?_,h.op⟩
 ·rw [hl] at h1;have hk:i.toNat<s.images.length:=by omega
  show ImgV ((jI s d (aN s.bits) s.images.length).getD i.toNat default) (aN s.bits);rw [uK hk,if_pos hk];refine a2i (hb _ ?_) (h.im i h0 (by omega)) ?_
  ·rw [List.getD_eq_getElem?_getD,List.getElem?_eq_getElem hk];exact List.getElem_mem _
  ·rw [h.mx];have:=la c.bits;omega
 ·have V:=h.V;refine ⟨V.wf,fun i hi => ?_,by rw [hl];exact V.imgs,V.cnt,tY V.frame rfl rfl rfl rfl rfl hl V.cnt⟩;have:=V.ok i hi;rw [hl];exact this
end Go.Proofs.YtdjmpacladhijaaGreatDoor
