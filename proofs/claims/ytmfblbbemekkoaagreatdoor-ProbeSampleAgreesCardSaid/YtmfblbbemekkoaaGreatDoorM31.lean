/- Part of the proof: Q2, Z1, TE, W0, P5, Y2, Q3, LS. -/
import Derived.Test.YtmfblbbemekkoaaGreatDoorM28
import Derived.Test.YtmfblbbemekkoaaGreatDoorM29
import Derived.Test.YtmfblbbemekkoaaGreatDoorM30
set_option linter.unusedSimpArgs false
set_option linter.unusedVariables false
set_option maxHeartbeats 8000000
set_option maxRecDepth 16000
namespace Go.Proofs.YtmfblbbemekkoaaGreatDoor
open Go Go.SL
open Go.RowKit (wrap64)
attribute [local go_sem] cN pE cA Int.toNat_natCast
theorem oX {m:Int} {i:Nat} {o:Op} {p:Pixel} {k:Int} (h:o.mask=0):(cc m i o p k).length=1:=by
 unfold cc
 rw [if_pos h];rfl
theorem pP {m:Int} {i:Nat} {o:Op} {p:Pixel} {k:Int} (h:o.mask≠0):(cc m i o p k).length=2:=by
 unfold cc
 rw [if_neg h];rfl
end Go.Proofs.YtmfblbbemekkoaaGreatDoor
set_option maxHeartbeats 8000000
set_option maxRecDepth 16000
namespace Go.Proofs.YtmfblbbemekkoaaGreatDoor
open Go Go.SL
open Go.RowKit (wrap64)
attribute [local go_sem] cN nv cA Int.toNat_natCast
theorem vZ {st : St} {K : SV → St → Prop} (m : Int) (hm : Full m) (hw : ∀ i, st.nx ≤ i → st.bx i = none)
  (hK:∀ F:Nat→Nat→PV,cQ (F 0) cz→K (.tup [.c (.ptr (st.nx+1) 0),I 0]) (st.turn (aB (st.nx+1) (.fix [.p (PU m), .own st.nx 1]) (aB st.nx (.arr 201 23 1 F) st.bx)) (st.nx+2))) :
  du Sg st 104 [U m] (Sl.of K):=by
 obtain ⟨F,h1,hI⟩:=Hb st.bx st.nx m hm hw
 refine cf hI rfl (fun i hi => ?_) (by omega) (hK F h1)
 unfold aB
 rw [if_neg (by omega),if_neg (by omega)]
 exact hw i (by omega)
theorem uG {st : St} {K : SV → St → Prop} (b k n N : Nat) (hN : n + 1 ≤ N) (f : Nat → Nat → PV) (m : Int) (o : Op) (p : Pixel) (ms : Int) (t : Lv)
  (hb:st.bx b=some (.fix [.p (PU m), .own k (n+1)])) (hk:st.bx k=some (.arr 201 23 N f)) (hbn:b<st.nx) (hkn:k<st.nx) (hbk:b≠k) (hn:n≤1000) (hf:cQ (f n) t)
  (hm:Full m) (hkd:o.kind=1) (ho:1≤o.operator∧o.operator≤12) (hmo:1≤o.mode∧o.mode≤12) (hop:0≤o.opacity∧o.opacity≤m) (hp:PixV p m) (hms:0≤ms∧ms≤m) (hv:AccV t.acc t.back m) (hko:t.op.knockout=true→o.operator=4) (hw:∀ i,st.nx≤i→st.bx i=none)
  (hK:∀ F:Nat→Nat→PV,cQ (F n) (bJ m o (ax m o p ms) t)→(∀ i,i<n→∀ j,F i j=f i j)→K (.tup [ag (aF (ax m o p ms)),I 0]) (st.turn (aB k (.arr 201 23 N F) st.bx) (st.nx+5))) :
  du Sg st 112 [.c (.ptr b 0),ag (cT o),ag (aF p),U ms] (Sl.of K):=by
 obtain ⟨F,⟨h1,h2⟩,hI⟩:=EN st.bx st.nx b k n N hN f m o p ms t hb hk hbn hkn hbk hn hf hm hkd ho hmo hop hp hms hv hko hw
 refine cf hI rfl (fun i hi => ?_) (by omega) (hK F h1 h2)
 unfold aB
 rw [if_neg (by omega)]
 exact hw i (by omega)
theorem tF {st : St} {K : SV → St → Prop} (b k n N : Nat) (hN : n + 1 ≤ N) (f : Nat → Nat → PV) (m : Int) (o : Op) (t : Lv)
  (hb:st.bx b=some (.fix [.p (PU m), .own k (n+1)])) (hk:st.bx k=some (.arr 201 23 N f)) (hbn:b<st.nx) (hkn:k<st.nx) (hbk:b≠k) (hn:n<64) (hf:cQ (f n) t) (hkd:o.kind=2) (hw:∀ i,st.nx≤i→st.bx i=none)
  (hK:∀ F:Nat→Nat→PV,cQ (F (n+1)) (fi o t)→(∀ i,i<n+1→∀ j,F i j=f i j)→K (.b (I 0)) (st.turn (aB b (.fix [.p (PU m), .own (st.nx+5) (n+2)]) (aB (st.nx+5) (.arr 201 23 (n+2) F) (cY k st.bx))) (st.nx+6))) :
  du Sg st 105 [.c (.ptr b 0),ag (cT o)] (Sl.of K):=by
 obtain ⟨F,⟨h1,h2⟩,hI⟩:=EA st.bx st.nx b k n N hN f m o t hb hk hbn hkn hbk hn hf hkd hw
 refine cf hI rfl (fun i hi => ?_) (by omega) (hK F h1 h2)
 unfold aB cY
 rw [if_neg (by omega),if_neg (by omega),if_neg (by omega)]
 exact hw i (by omega)
theorem vQ {st : St} {K : SV → St → Prop} (b k n N : Nat) (hN : n + 2 ≤ N) (f : Nat → Nat → PV) (m ms : Int) (t u : Lv)
  (hb:st.bx b=some (.fix [.p (PU m), .own k (n+2)])) (hk:st.bx k=some (.arr 201 23 N f)) (hbn:b<st.nx) (hkn:k<st.nx) (hbk:b≠k) (hn:n<64) (hf:cQ (f (n+1)) t) (hf2:cQ (f n) u)
  (hm:Full m) (ho:1≤t.op.operator∧t.op.operator≤12) (hmo:1≤t.op.mode∧t.op.mode≤12) (hop:0≤t.op.opacity∧t.op.opacity≤m) (hms:0≤ms∧ms≤m) (hv:AccV t.acc t.back m) (hv2:AccV u.acc u.back m) (hko:u.op.knockout=true→t.op.operator=4) (hw:∀ i,st.nx≤i→st.bx i=none)
  (hK:∀ F:Nat→Nat→PV,cQ (F n) (bJ m t.op (ax m t.op (aU t.acc t.back m) ms) u)→(∀ i,i<n→∀ j,F i j=f i j) →
   K (.tup [ag (aF (ax m t.op (aU t.acc t.back m) ms)),I 0]) (st.turn (aB b (.fix [.p (PU m), .own k (n+1)]) (aB k (.arr 201 23 N F) st.bx)) (st.nx+4))) :
  du Sg st 111 [.c (.ptr b 0),U ms] (Sl.of K):=by
 obtain ⟨F,⟨h1,h2⟩,hI⟩:=Gw st.bx st.nx b k n N hN f m ms t u hb hk hbn hkn hbk hn hf hf2 hm ho hmo hop hms hv hv2 hko hw
 refine cf hI rfl (fun i hi => ?_) (by omega) (hK F h1 h2)
 unfold aB
 rw [if_neg (by omega),if_neg (by omega)]
 exact hw i (by omega)
theorem sE (m:Int) (n:Nat) (f:Nat→Nat→PV) (t:Lv) (o:Op) (hl:n≤1000) (hf:cQ (f n) t) (hk:o.kind≠3):aC Sg 110 [nv m (n+1) f,ag (cT o)] (fun x=>x = .b (ag (aF (dP t.acc)))):=by
 have g:(o.kind != 3)=true:=bne_iff_ne.2 hk
 have h1:=lG m n f t hl hf
 have h2:=gx t.acc
 generalize dP t.acc=q at *
 refine aA Tryz.func110 [.cell 4 41] ?_
 repeat' (first|refine aj g ?_|refine an ?_|((first|refine ai (fun K hK => ?_)|refine ae (h1) ?_|refine ae (h2) ?_);and_intros;(all_goals first|(refine hK _ ?_;clear hK K)|exact aa|skip))|(refine ak ?_;(try clear hB KB);(try clear hK K)))
 all_goals (try rfl)
theorem vi (m:Int) (n:Nat) (f:Nat→Nat→PV) (t:Lv) (o:Op) (hl:n<1000) (hf:cQ (f n) t) (hk:o.kind=3):aC Sg 110 [nv m (n+1+1) f,ag (cT o)] (fun x=>x = .b (ag (aF (dP t.acc)))):=by
 have g:(o.kind != 3)=false:=bne_eq_false_iff_eq.2 hk
 have h1:=Ep m n f t hl hf
 have h2:=gx t.acc
 generalize dP t.acc=q at *
 refine aA Tryz.func110 [.cell 4 41] ?_
 repeat' (first|refine aj g ?_|refine an ?_|((first|refine ai (fun K hK => ?_)|refine ae (h1) ?_|refine ae (h2) ?_);and_intros;(all_goals first|(refine hK _ ?_;clear hK K)|exact aa|skip))|(refine ak ?_;(try clear hB KB);(try clear hK K)))
 all_goals (try rfl)
theorem jY {st : St} {K : SV → St → Prop} {X : Pixel} (b k n N : Nat) (f : Nat → Nat → PV) (m : Int) (o : Op) (hN : n ≤ N) (h : aC Sg 110 [nv m n f, ag (cT o)] (fun x => x = .b (ag (aF X)))) (hb : st.bx b = some (.fix [.p (PU m), .own k n])) (hk : st.bx k = some (.arr 201 23 N f)) (hK : K (.b (ag (aF X))) st) :
  du Sg st 110 [.c (.ptr b 0),ag (cT o)] (Sl.of K):=by
 refine .lend [nv m n f,ag (cT o)] _ h ?_ ?_ (fT _) hK rfl
 ·rw [List.map_cons,List.map_cons,List.map_nil,oM hb hk hN,pz];exact dE _
 ·intro x hx
  simp only [List.mem_cons,List.not_mem_nil,or_false] at hx
  rcases hx with rfl|rfl
  ·trivial
  ·exact Af
def uR (ops:List Op) (g:Nat→Nat→PV):List Nat→Prop
 | []=>True
 | a :: l=>(∀ c,g l.length c=(cT (aR ops a)).getD c .any)∧uR ops g l
def AK (n:Nat) (o:Op) (g:Nat→Nat→PV) (i j:Nat):PV:=if i=n then (cT o).getD j .any else g i j
theorem qY {ops:List Op} {f g:Nat→Nat→PV}:∀ {l:List Nat},(∀ i,i<l.length→∀ j,g i j=f i j)→uR ops f l→uR ops g l
 | [],_,_=>trivial
 | a :: l,h,⟨h1,h2⟩=>⟨fun c=>by rw [h l.length (by simp) c];exact h1 c,qY (fun i hi j=>h i (by simp;omega) j) h2⟩
theorem tJ {ops:List Op} {g:Nat→Nat→PV} {l:List Nat} {a:Nat} (h:uR ops g l):uR ops (AK l.length (aR ops a) g) (a :: l) :=
 ⟨fun c=>by unfold AK;rw [if_pos rfl],qY (fun i hi j=>by unfold AK;rw [if_neg (by omega)]) h⟩
end Go.Proofs.YtmfblbbemekkoaaGreatDoor
set_option maxRecDepth 8000
set_option maxHeartbeats 2000000
namespace Go.Proofs.YtmfblbbemekkoaaGreatDoor
open Go Go.SL
open Go.RowKit (wrap64)
theorem Kk {t:Script} (hf:bA t=0) (hk:kq t.bits t.images.length t.ops []) (ho:cO t.ops []=[]):jm t=(0,0):=by
 rw [jm,if_pos hf]
 exact tr hk ho
theorem Hj (n:N5) {m:Int} (h:0≤m):PixV (tw n m) m:=by
 have f1:=eS n.e m h
 have a1:=eS (n.d.tdiv 3) (cL n.e m) f1.1
 have key:∀ a,0≤a→a≤cL n.e m→PixV ⟨cL n.a a,cL n.b a,cL n.c a,a,cL n.e m⟩ m:=fun a h1 h2=>by
  have c0:=eS n.a a h1
  have c1:=eS n.b a h1
  have c2:=eS n.c a h1
  exact ⟨c0.1,c1.1,c2.1,c0.2,c1.2,c2.2,h2,f1.2⟩
 unfold tw
 dsimp only
 split
 ·exact key _ a1.1 a1.2
 ·exact key _ f1.1 (Int.le_refl _)
theorem Hi (r:Row) (i:Nat) {m:Int} (h:0≤m):PixV (qt r m i) m:=by
 have hb:∀ i,PixV (oG r m i) m:=fun i=>by unfold oG;exact Hj _ h
 unfold qt
 split
 ·exact ⟨Int.le_refl _,Int.le_refl _,Int.le_refl _,Int.le_refl _,Int.le_refl _,Int.le_refl _,Int.le_refl _,h⟩
 split
 ·obtain ⟨a,b,c,d,e,f,g,k⟩:=hb i
  exact ⟨a,b,c,by dsimp only;omega,by dsimp only;omega,by dsimp only;omega,Int.le_refl _,Int.le_refl _⟩
 split
 ·exact hb 0
 ·exact hb i
theorem yp {w h:Int} {p:Pixel} (hf:cl w h=true):aX (jf w h p)=true:=by
 unfold aX
 rw [show (jf w h p).w=w from rfl,show (jf w h p).h=h from rfl,hf]
 rfl
theorem uj {w h m:Int} {p:Pixel} (hf:cl w h=true) (hp:PixV p m):ImgV (jf w h p) m:=⟨yp hf,fun x y _ _ _ _=>hp⟩
theorem Eu {w h:Int} {l:List Pixel} (hf:cl w h=true) (hl:(l.length:Int)=w * h):aX (iC w h l)=true:=by
 obtain ⟨b1,b2,b3,b4,b5,b6⟩:=di hf
 have e:(h - 1) * w+w=w * h:=by rw [Int.sub_mul,Int.one_mul,Int.mul_comm h w];omega
 have hk:∀ k,aH (iC w h l) (cj w h l k)=true:=fun k=>by
  unfold aH cF
  rw [show (iC w h l).solid=false from rfl,if_neg (by decide)]
  have:(cj w h l k).s.length=l.length:=by simp [cj]
  rw [this]
  show (cl w h && decide (w≤w) && decide (w≤16777216) && decide ((h - 1) * w+w≤(l.length:Int)) && decide (w=w) && decide (h=h))=true
  rw [hf,e,hl]
  simp
  omega
 unfold aX
 rw [show (iC w h l).w=w from rfl,show (iC w h l).h=h from rfl,hf]
 show (true && (aH _ (cj w h l 0) && aH _ (cj w h l 1) && aH _ (cj w h l 2) && aH _ (cj w h l 3) && aH _ (cj w h l 4) && (false || decide (aI=aI))))=true
 rw [hk,hk,hk,hk,hk]
 simp
theorem OM {w h:Int} {l:List Pixel} {x y:Int} (hl:(l.length:Int)=w * h) (hx:0≤x) (hxw:x<w) (hy:0≤y) (hyh:y<h):(y * w+x).toNat<l.length∧eX (iC w h l) x y=l.getD (y * w+x).toNat default:=by
 have e1:0≤y * w:=ar hy (by omega)
 have e2:y * w≤(h - 1) * w:=ay (by omega) (Int.le_refl _) (by omega) (by omega)
 have e:(h - 1) * w+w=w * h:=by rw [Int.sub_mul,Int.one_mul,Int.mul_comm h w];omega
 have hi:(y * w+x).toNat<l.length:=by omega
 refine ⟨hi, ?_⟩
 unfold eX
 rw [if_neg (by show ¬ false=true;decide)]
 have key:∀ k,(cj w h l k).s.getD (y * w+x).toNat 0=Fc k (l.getD (y * w+x).toNat default):=fun k=>by
  simp only [cj,List.getD_eq_getElem?_getD,List.getElem?_map,List.getElem?_eq_getElem hi,Option.map_some,Option.getD_some]
 show (⟨(cj w h l 0).s.getD (y * w+x).toNat 0,(cj w h l 1).s.getD (y * w+x).toNat 0,(cj w h l 2).s.getD (y * w+x).toNat 0,(cj w h l 3).s.getD (y * w+x).toNat 0,(cj w h l 4).s.getD (y * w+x).toNat 0⟩:Pixel)=_
 rw [key,key,key,key,key]
 rfl
theorem IM {w h m:Int} {l:List Pixel} (hf:cl w h=true) (hl:(l.length:Int)=w * h) (hp:∀ p ∈ l,PixV p m):ImgV (iC w h l) m:=by
 refine ⟨Eu hf hl,fun x y h1 h2 h3 h4 => ?_⟩
 obtain ⟨hi,e⟩:=OM hl h1 h2 h3 h4
 rw [e,List.getD_eq_getElem?_getD,List.getElem?_eq_getElem hi]
 exact hp _ (List.getElem_mem _)
theorem Po {p:Pic} {c:Rect} {m:Int} (hc:Small c) (hm:0≤m):ImgV (iv p c m) m:=by
 have hl:=Gd (p:=p) hc
 have hlen:(cE p.row (gW p c * gH p c).toNat m).length=(gW p c * gH p c).toNat:=by simp [cE]
 have hok:=qR (w:=gW p c) (h:=gH p c) ⟨hl.1,hl.2.1⟩ ⟨hl.2.2.1,hl.2.2.2.1⟩ hlen
 have hf:cl (gW p c) (gH p c)=true:=by
  unfold gG at hok
  rw [Bool.and_eq_true] at hok;exact hok.1
 unfold iv
 split
 ·exact uj hf (Hi _ _ hm)
 ·refine IM hf (by rw [hlen];omega) fun q hq => ?_
  unfold cE at hq
  obtain ⟨i,_,rfl⟩:=List.mem_map.1 hq
  exact Hi _ _ hm
structure Of (c:Scene) (s:Script):Prop where
 b:s.bits=(au c).bits
 cv:s.canvas=aq c
 w:s.tileW=bI c
 h:s.tileH=bF c
 o:s.order=(au c).order
 n1:1≤s.images.length
 n2:s.images.length≤6
 im:sU s
 V:VOps s
 op:∀ o ∈ s.ops,0≤o.opacity
theorem Of.mx {c:Scene} {s:Script} (h:Of c s):bo s.bits=bO c.bits:=by rw [h.b];exact xa c
theorem NC (c:Scene):Full (bO c.bits):=⟨by have:=lL c.bits;omega⟩
theorem Of.pt {c:Scene} {s:Script} (h:Of c s) {x y:Int} (hx:OF (aq c) x y):Pt s (bO c.bits) x y :=
 ⟨h.V,NC c,h.mx,h.im,h.op,by rw [h.cv];exact iI (bK c),by rw [h.cv];exact hx⟩
theorem Mh (c:Scene):sU (au c):=by
 intro i h0 h1
 rw [xa]
 have hm:0≤bO c.bits:=by have:=lL c.bits;omega
 have hmem:gC (au c) i ∈ aJ c:=by
  have hi:i.toNat<(aJ c).length:=by
   have h1:i<((aJ c).length:Int):=h1
   omega
  show (aJ c).getD i.toNat default ∈ aJ c
  rw [List.getD_eq_getElem?_getD,List.getElem?_eq_getElem hi]
  exact List.getElem_mem _
 generalize gC (au c) i=q at hmem
 have hs:=bK c
 unfold aJ at hmem
 split at hmem
 ·rw [List.mem_singleton.1 hmem]
  refine uj ?_ ⟨hm,Int.le_refl _,Int.le_refl _,Int.le_refl _,hm,hm,Int.le_refl _,Int.le_refl _⟩
  have:=qR (w:=1+c.w % 5) (h:=1+c.h % 4) (n:=((1+c.w % 5) * (1+c.h % 4)).toNat) (by omega) (by omega) rfl
  unfold gG at this
  rw [Bool.and_eq_true] at this;exact this.1
 ·unfold aS at hmem
  obtain ⟨p,_,rfl⟩:=List.mem_map.1 hmem
  exact Po hs hm
theorem GV {c:Scene} {s:Script} (b:s.bits=(au c).bits) (c':s.canvas=aq c) (w:s.tileW=bI c) (h:s.tileH=bF c) (o:s.order=(au c).order) (n2:s.images.length≤64) (n3:s.ops.length≤4096):bA s=0:=Fp b c' w h o n2 n3
theorem Gt (c:Scene):Of c (au c):=by
 have hi:=nQ c
 have hg:=lV c
 refine ⟨rfl,rfl,rfl,rfl,rfl,hi.1,Nat.le_trans hi.2 (by decide),Mh c,CQ ?_,fun o ho=>(hg.tame o ho).op.1⟩
 rw [Kk (Fp rfl rfl rfl rfl rfl (rM c) (Nat.le_trans (yQ c) (by decide))) hg.ok hg.op]
end Go.Proofs.YtmfblbbemekkoaaGreatDoor
namespace Go.Proofs.YtmfblbbemekkoaaGreatDoor
def bl (p:Plane) (e:Nat):Plane :=
 ⟨p.w,p.h,p.w+e,(List.range (p.h.toNat * (p.w.toNat+e))).map fun i=>if i % (p.w.toNat+e)<p.w.toNat then p.s.getD (i / (p.w.toNat+e) * p.stride.toNat+i % (p.w.toNat+e)) 0 else 40000+i⟩
theorem Dy {p:Plane} {e x y:Nat} (hx:x<p.w.toNat) (hy:y<p.h.toNat):(bl p e).s.getD (y * (p.w.toNat+e)+x) 0=p.s.getD (y * p.stride.toNat+x) 0:=by
 have h1:(y+1) * (p.w.toNat+e)≤p.h.toNat * (p.w.toNat+e):=Nat.mul_le_mul (by omega) (Nat.le_refl _)
 rw [Nat.succ_mul] at h1
 have h2:(y * (p.w.toNat+e)+x) % (p.w.toNat+e)=x:=by rw [Nat.mul_comm,Nat.mul_add_mod];exact Nat.mod_eq_of_lt (by omega)
 have h3:(y * (p.w.toNat+e)+x) / (p.w.toNat+e)=y:=by rw [Nat.mul_comm,Nat.mul_add_div (by omega),Nat.div_eq_of_lt (by omega),Nat.add_zero]
 unfold bl
 simp only [List.getD_eq_getElem?_getD,List.getElem?_map]
 rw [List.getElem?_range (by omega)]
 simp only [Option.map_some,Option.getD_some,h2,h3,if_pos hx]
def ct (more:Int) (k:Nat):Nat:=(iJ (Go.IntKind.i64.wrap (more+k)) 4).toNat
def bG (m:Image) (more:Int):Image :=
 if m.solid=true then m else { m with p0:=bl m.p0 (ct more 0),p1:=bl m.p1 (ct more 1),p2:=bl m.p2 (ct more 2),p3:=bl m.p3 (ct more 3),p4:=bl m.p4 (ct more 4) }
theorem fB (more:Int) (k:Nat):ct more k≤3:=by
 unfold ct iJ
 rw [if_neg (by decide)]
 omega
theorem jA {m:Image} {p:Plane} {e:Nat} (hs:m.solid=false) (he:e≤3) (hw:m.w≤1000) (hh:m.h≤1000) (h:aH m p=true):aH m (bl p e)=true∧p.w=m.w∧p.h=m.h:=by
 unfold aH cF at *
 rw [hs,if_neg (by decide)] at *
 simp only [Bool.and_eq_true,decide_eq_true_eq] at h ⊢
 obtain ⟨⟨⟨⟨⟨hf,h1⟩,h2⟩,h3⟩,h4⟩,h5⟩:=h
 obtain ⟨b1,b2,b3,b4,b5,b6⟩:=di hf
 refine ⟨⟨⟨⟨⟨⟨hf, ?_⟩, ?_⟩, ?_⟩,h4⟩,h5⟩,h4,h5⟩
 ·show p.w≤p.w+e;omega
 ·show p.w+e≤16777216;omega
 ·show (p.h - 1) * (p.w+e)+p.w≤((bl p e).s.length:Int)
  have e1:(bl p e).s.length=p.h.toNat * (p.w.toNat+e):=by simp [bl]
  rw [e1,Int.natCast_mul,Int.natCast_add,Int.toNat_of_nonneg (by omega),Int.toNat_of_nonneg (by omega),Int.sub_mul,Int.one_mul]
  omega
theorem uQ {m:Image} {more:Int}:(bG m more).w=m.w∧(bG m more).h=m.h∧(bG m more).solid=m.solid∧(bG m more).color=m.color:=by
 unfold bG
 split <;> exact ⟨rfl,rfl,rfl,rfl⟩
theorem mu {m:Image} {more:Int} (hw:m.w≤1000) (hh:m.h≤1000) (h:aX m=true):aX (bG m more)=true:=by
 cases hs:m.solid with
 | true=>rw [bG,if_pos hs];exact h
 | false =>
  rw [bG,if_neg (by rw [hs];decide)]
  unfold aX at h ⊢
  simp only [Bool.and_eq_true] at h ⊢
  obtain ⟨h0,⟨⟨⟨⟨f0,f1⟩,f2⟩,f3⟩,f4⟩,f5⟩:=h
  exact ⟨h0,⟨⟨⟨⟨(jA hs (fB more 0) hw hh f0).1,(jA hs (fB more 1) hw hh f1).1⟩,(jA hs (fB more 2) hw hh f2).1⟩,(jA hs (fB more 3) hw hh f3).1⟩,(jA hs (fB more 4) hw hh f4).1⟩,f5⟩
theorem rI {m:Image} {more x y:Int} (h:aX m=true) (hw:m.w≤1000) (hh:m.h≤1000) (hx:0≤x) (hxw:x<m.w) (hy:0≤y) (hyh:y<m.h):eX (bG m more) x y=eX m x y:=by
 cases hs:m.solid with
 | true=>rw [bG,if_pos hs]
 | false =>
  have h':=h
  unfold aX at h'
  simp only [Bool.and_eq_true] at h'
  obtain ⟨h0,⟨⟨⟨⟨f0,f1⟩,f2⟩,f3⟩,f4⟩,f5⟩:=h'
  obtain ⟨X,hX⟩:=Int.eq_ofNat_of_zero_le hx
  obtain ⟨Y,hY⟩:=Int.eq_ofNat_of_zero_le hy
  have key:∀ (p:Plane) (e:Nat),aH m p=true→e≤3→(bl p e).s.getD (y * (bl p e).stride+x).toNat 0=p.s.getD (y * p.stride+x).toNat 0:=fun p e hp he=>by
   obtain ⟨_,q1,q2⟩:=jA hs he hw hh hp
   have hst:0≤p.stride:=by
    unfold aH cF at hp
    rw [hs,if_neg (by decide)] at hp
    simp only [Bool.and_eq_true,decide_eq_true_eq] at hp
    omega
   have e1:(y * (bl p e).stride+x).toNat=Y * (p.w.toNat+e)+X:=by
    show (y * (p.w+e)+x).toNat=_
    rw [hX,hY,show p.w=((p.w.toNat:Nat):Int) by omega,← Int.natCast_add,← Int.natCast_mul,← Int.natCast_add,Int.toNat_natCast,Int.toNat_natCast]
   have e2:(y * p.stride+x).toNat=Y * p.stride.toNat+X:=by
    rw [hX,hY,show p.stride=((p.stride.toNat:Nat):Int) by omega,← Int.natCast_mul,← Int.natCast_add,Int.toNat_natCast,Int.toNat_natCast]
   rw [e1,e2]
   exact Dy (by omega) (by omega)
  rw [bG,if_neg (by rw [hs];decide)]
  unfold eX
  rw [if_neg (by rw [hs];decide),if_neg (by show ¬ m.solid=true;rw [hs];decide)]
  dsimp only
  rw [key _ _ f0 (fB more 0),key _ _ f1 (fB more 1),key _ _ f2 (fB more 2),key _ _ f3 (fB more 3),key _ _ f4 (fB more 4)]
theorem EW {m:Image} {more mx:Int} (hw:m.w≤1000) (hh:m.h≤1000) (h:ImgV m mx):ImgV (bG m more) mx:=by
 obtain ⟨e1,e2,_,_⟩:=uQ (m:=m) (more:=more)
 refine ⟨mu hw hh h.f,fun x y h1 h2 h3 h4 => ?_⟩
 rw [e1] at h2
 rw [e2] at h4
 rw [rI h.f hw hh h1 h2 h3 h4]
 exact h.p x y h1 h2 h3 h4
def bz (s:Script) (more:Int):Script := { s with images:=s.images.map fun m=>bG m more }
theorem rq {s:Script} {more i:Int} (h0:0≤i) (h1:i<s.images.length):gC (bz s more) i=bG (gC s i) more:=by
 have hi:i.toNat<s.images.length:=by omega
 unfold gC bz
 dsimp only
 rw [List.getD_eq_getElem?_getD,List.getD_eq_getElem?_getD,List.getElem?_map,List.getElem?_eq_getElem hi]
 rfl
end Go.Proofs.YtmfblbbemekkoaaGreatDoor
namespace Go.Proofs.YtmfblbbemekkoaaGreatDoor
def BC (m:Image) (mx:Int):Prop:=ImgV m mx∨aX m=false∨m.solid=true
def dJ (m:Image) (mx:Int):Int:=if cl m.w m.h=false then 6 else if aX m=false then 7 else if m.solid=true∧ky m.color mx=false then 8 else 0
theorem vh {m:Image} {mx:Int} (h:ImgV m mx):dJ m mx=0:=by
 have hf:=h.f
 have hff:=hf
 unfold aX at hff
 rw [Bool.and_eq_true] at hff
 unfold dJ
 rw [hff.1,hf,if_neg (by decide),if_neg (by decide),if_neg]
 rintro ⟨hs,hp⟩
 rw [gi (qK h hs)] at hp
 cases hp
theorem EZ {p:Pixel} {m:Int} (h:ky p m=true) (h0:0≤p.c0) (h1:0≤p.c1) (h2:0≤p.c2):PixV p m:=by
 unfold ky at h
 rw [decide_eq_true_eq] at h
 exact ⟨h0,h1,h2,h.1,h.2.1,h.2.2.1,h.2.2.2.1,h.2.2.2.2⟩
def Hs (m:Image):Prop:=0≤m.color.c0∧0≤m.color.c1∧0≤m.color.c2
theorem zd {m:Image} {mx:Int} (h:BC m mx) (hc:Hs m) (h0:dJ m mx=0):ImgV m mx:=by
 unfold dJ at h0
 split at h0
 ·cases h0
 split at h0
 ·cases h0
 split at h0
 ·cases h0
 rename_i q1 q2 q3
 rcases h with h|h|h
 ·exact h
 ·exact absurd h q2
 ·refine ⟨by simpa using q2,fun x y _ _ _ _ => ?_⟩
  rw [eX,if_pos h]
  refine EZ ?_ hc.1 hc.2.1 hc.2.2
  cases hp:ky m.color mx with
  | true=>rfl
  | false=>exact absurd ⟨h,hp⟩ q3
def ed (mx:Int):Nat→List Image→Int × Int
 | _,[]=>(0,0)
 | i,m :: l=>if dJ m mx=0 then ed mx (i+1) l else (dJ m mx,i)
def fj (s:Script):Int × Int:=if bA s≠0 then (bA s,0) else if (ed (bo s.bits) 0 s.images).1≠0 then ed (bo s.bits) 0 s.images else jm s
theorem rb {mx:Int}:∀ {l:List Image} {i:Nat},(∀ m ∈ l,dJ m mx=0)→ed mx i l=(0,0)
 | [],_,_=>rfl
 | m :: l,i,h=>by rw [ed,if_pos (h m (List.mem_cons_self ..)),rb fun k hk=>h k (List.mem_cons_of_mem _ hk)]
theorem rD {mx:Int}:∀ {l:List Image} {i:Nat},(ed mx i l).1=0→∀ m ∈ l,dJ m mx=0
 | [],_,_,_,hk=>by cases hk
 | m :: l,i,h,k,hk=>by
  rw [ed] at h
  split at h
  ·rename_i q
   rcases List.mem_cons.1 hk with e|e
   ·rw [e];exact q
   ·exact rD h k e
  ·rename_i q;exact absurd h q
theorem qU {mx:Int} {l:List Image} {i:Nat} (hi:i<l.length):ed mx i (l.drop i)=if dJ (l.getD i default) mx=0 then ed mx (i+1) (l.drop (i+1)) else (dJ (l.getD i default) mx,i):=by
 rw [List.drop_eq_getElem_cons hi,ed,List.getD_eq_getElem?_getD,List.getElem?_eq_getElem hi];rfl
theorem KW {s:Script} (h:∀ i:Nat,i<s.images.length→ImgV (s.images.getD i default) (bo s.bits)):sU s:=fun i h0 h1=>by
 obtain ⟨n,rfl⟩:=Int.eq_ofNat_of_zero_le h0
 unfold gC
 rw [Int.toNat_natCast]
 exact h n (by omega)
theorem yV {s:Script} (hT:∀ m ∈ s.images,BC m (bo s.bits)∧Hs m) (h:(fj s).1=0):bA s=0∧VOps s∧sU s∧jm s=(0,0):=by
 unfold fj at h
 split at h
 ·rename_i q;exact absurd h q
 split at h
 ·rename_i q;exact absurd h q
 rename_i q1 q2
 rw [Decidable.not_not] at q1 q2
 have V:=CQ h
 refine ⟨q1,V,KW fun i hi => ?_,LV V⟩
 have hm:s.images.getD i default ∈ s.images:=by
  rw [List.getD_eq_getElem?_getD,List.getElem?_eq_getElem hi]
  exact List.getElem_mem _
 exact zd (hT _ hm).1 (hT _ hm).2 (rD q2 _ hm)
theorem Dq {s:Script} (V:VOps s) (h:sU s):fj s=(0,0):=by
 have e:ed (bo s.bits) 0 s.images=(0,0):=rb fun m hm=>by
  obtain ⟨i,hi,rfl⟩:=List.mem_iff_getElem.1 hm
  have:=h i (by omega) (by omega)
  unfold gC at this
  rw [Int.toNat_natCast,List.getD_eq_getElem?_getD,List.getElem?_eq_getElem hi] at this
  exact vh this
 unfold fj
 rw [V.frame,if_neg (by decide),e,if_neg (by decide)]
 exact LV V
end Go.Proofs.YtmfblbbemekkoaaGreatDoor
set_option maxHeartbeats 4000000
set_option maxRecDepth 16000
namespace Go.Proofs.YtmfblbbemekkoaaGreatDoor
open Go Go.SL Go.RowKit Go.Shelf
open Go.RowKit (wrap64)
attribute [local go_sem] Oper.semAt_some
theorem Nz {g n:Nat} {sz sz':Nat→Nat} {f f':Nat→Nat→PV} (h:∀ i,i<n→sz i=sz' i∧∀ j,j<sz i→PV.le (f i j) (f' i j)):PV.le (.fn g n sz f) (.fn g n sz' f'):=fun _ _ u ⟨vs,e,hs,hb⟩=>by
 refine ⟨vs,e,hs,fun i hi => ?_⟩
 obtain ⟨b,o,h1,h2,h3⟩:=hb i hi
 obtain ⟨q1,q2⟩:=h i hi
 refine ⟨b,o,h1,h2,fun j hj => ?_⟩
 rw [← q1] at hj
 obtain ⟨x,x1,x2,x3⟩:=h3 j hj
 exact ⟨x,x1,x2,q2 j hj _ _ _ x3⟩
def OW (w h:Int):PV := .fn 184 2 (fun _=>1) (fun i _=>if i=0 then PI h else PI w)
theorem AN (w h:Int):aC Sg 162 [I w,I h] (fun x=>x = .b (.c (.p (OW w h)))):=by
 refine ix ?_
 refine pG Tryz.func162 rfl (rs:=[.tmp 4]) rfl rfl dK (by decide +kernel) (Nat.le_of_ble_eq_true rfl) (ch (by simp (maxSteps:=999999)(disch:=omega) only [go_sem])) ?_
 repeat' (first|(refine ai (fun K hK => ?_);and_intros;(all_goals first|(refine hK _ ?_;clear hK K)|exact aa|skip))|(refine ak ?_;(try clear hB KB);(try clear hK K)))
 simp only [Option.isSome_some,if_true,CV.lt,true_and]
 refine Df (kj (Nz fun i hi => ?_))
 have h0:i=0∨i=1:=by omega
 rcases h0 with rfl|rfl
 ·refine ⟨rfl,fun j hj => ?_⟩
  have h0:j=0:=by have:j<1:=hj;omega
  subst h0
  exact fun _ _ _ h=>h
 ·refine ⟨rfl,fun j hj => ?_⟩
  have h0:j=0:=by have:j<1:=hj;omega
  subst h0
  exact fun _ _ _ h=>h
theorem xX (m:Image) (mx:Int) (hs:m.solid=true) (hf:aX m=true):aC Sg 122 [ag (aN m),U mx] (fun r=>r = .b (I (dJ m mx))):=by
 have h1:=oc m
 have h2:=jC m.color mx
 have hfit:cl m.w m.h=true:=by
  have:=hf
  unfold aX at this
  rw [Bool.and_eq_true] at this
  exact this.1
 unfold dJ
 rw [hfit,hf,if_neg (by decide),if_neg (by decide)] at h1
 rw [hfit,hf,if_neg (by decide),if_neg (by decide)]
 cases hp:ky m.color mx
 ·rw [if_pos ⟨hs,rfl⟩]
  rw [hp] at h2
  refine aA Tryz.func122 [.cell 4 58] ?_
  repeat' (first|with_reducible exact ca|refine aj hs ?_|refine an ?_|((first|refine ai (fun K hK => ?_)|refine ae (h1) ?_|refine ae (h2) ?_);and_intros;(all_goals first|(refine hK _ ?_;clear hK K)|exact aa|skip))|(refine ak ?_;(try clear hB KB);(try clear hK K)))
 ·rw [if_neg (by rintro ⟨_,q⟩;cases q)]
  rw [hp] at h2
  refine aA Tryz.func122 [.cell 4 58] ?_
  repeat' (first|with_reducible exact ca|refine aj hs ?_|refine an ?_|((first|refine ai (fun K hK => ?_)|refine ae (h1) ?_|refine ae (h2) ?_);and_intros;(all_goals first|(refine hK _ ?_;clear hK K)|exact aa|skip))|(refine ak ?_;(try clear hB KB);(try clear hK K)))
theorem Bt (m:Image) (mx:Int) (hf:aX m=false):aC Sg 122 [ag (aN m),U mx] (fun r=>r = .b (I (dJ m mx))):=by
 have h1:=oc m
 unfold dJ
 cases hfit:cl m.w m.h
 ·rw [hfit,if_pos rfl] at h1
  rw [if_pos rfl]
  have ht:True:=trivial
  refine aA Tryz.func122 [.cell 4 58] ?_
  repeat' (first|with_reducible exact ca|refine aj ht ?_|refine an ?_|((first|refine ai (fun K hK => ?_)|refine ae (h1) ?_);and_intros;(all_goals first|(refine hK _ ?_;clear hK K)|exact aa|skip))|(refine ak ?_;(try clear hB KB);(try clear hK K)))
 ·rw [hfit,hf,if_neg (by decide),if_pos rfl] at h1
  rw [hf,if_neg (by decide),if_pos rfl]
  have ht:True:=trivial
  refine aA Tryz.func122 [.cell 4 58] ?_
  repeat' (first|with_reducible exact ca|refine aj ht ?_|refine an ?_|((first|refine ai (fun K hK => ?_)|refine ae (h1) ?_);and_intros;(all_goals first|(refine hK _ ?_;clear hK K)|exact aa|skip))|(refine ak ?_;(try clear hB KB);(try clear hK K)))
theorem Qh (t:Array Value) (h:t.size=34):∃ t0 t1 t2 t3 t4 t5 t6 t7 t8 t9 t10 t11 t12 t13 t14 t15 t16 t17 t18 t19 t20 t21 t22 t23 t24 t25 t26 t27 t28 t29 t30 t31 t32 t33,t = #[t0,t1,t2,t3,t4,t5,t6,t7,t8,t9,t10,t11,t12,t13,t14,t15,t16,t17,t18,t19,t20,t21,t22,t23,t24,t25,t26,t27,t28,t29,t30,t31,t32,t33]:=by
 obtain ⟨l⟩:=t
 have step:∀ {n:Nat} {l:List Value},l.length=n+1→∃ a r,l=a :: r∧r.length=n:=fun {n l} h=>by
  cases l with
  | nil=>cases h
  | cons a r=>exact ⟨a,r,rfl,by simpa using h⟩
 have h:l.length=34:=h
 obtain ⟨t0,r1,rfl,h1⟩:=step h
 obtain ⟨t1,r2,rfl,h2⟩:=step h1
 obtain ⟨t2,r3,rfl,h3⟩:=step h2
 obtain ⟨t3,r4,rfl,h4⟩:=step h3
 obtain ⟨t4,r5,rfl,h5⟩:=step h4
 obtain ⟨t5,r6,rfl,h6⟩:=step h5
 obtain ⟨t6,r7,rfl,h7⟩:=step h6
 obtain ⟨t7,r8,rfl,h8⟩:=step h7
 obtain ⟨t8,r9,rfl,h9⟩:=step h8
 obtain ⟨t9,r10,rfl,h10⟩:=step h9
 obtain ⟨t10,r11,rfl,h11⟩:=step h10
 obtain ⟨t11,r12,rfl,h12⟩:=step h11
 obtain ⟨t12,r13,rfl,h13⟩:=step h12
 obtain ⟨t13,r14,rfl,h14⟩:=step h13
 obtain ⟨t14,r15,rfl,h15⟩:=step h14
 obtain ⟨t15,r16,rfl,h16⟩:=step h15
 obtain ⟨t16,r17,rfl,h17⟩:=step h16
 obtain ⟨t17,r18,rfl,h18⟩:=step h17
 obtain ⟨t18,r19,rfl,h19⟩:=step h18
 obtain ⟨t19,r20,rfl,h20⟩:=step h19
 obtain ⟨t20,r21,rfl,h21⟩:=step h20
 obtain ⟨t21,r22,rfl,h22⟩:=step h21
 obtain ⟨t22,r23,rfl,h23⟩:=step h22
 obtain ⟨t23,r24,rfl,h24⟩:=step h23
 obtain ⟨t24,r25,rfl,h25⟩:=step h24
 obtain ⟨t25,r26,rfl,h26⟩:=step h25
 obtain ⟨t26,r27,rfl,h27⟩:=step h26
 obtain ⟨t27,r28,rfl,h28⟩:=step h27
 obtain ⟨t28,r29,rfl,h29⟩:=step h28
 obtain ⟨t29,r30,rfl,h30⟩:=step h29
 obtain ⟨t30,r31,rfl,h31⟩:=step h30
 obtain ⟨t31,r32,rfl,h32⟩:=step h31
 obtain ⟨t32,r33,rfl,h33⟩:=step h32
 obtain ⟨t33,r34,rfl,h34⟩:=step h33
 have hr34:r34=[]:=List.eq_nil_of_length_eq_zero h34
 subst hr34
 exact ⟨_,_,_,_,_,_,_,_,_,_,_,_,_,_,_,_,_,_,_,_,_,_,_,_,_,_,_,_,_,_,_,_,_,_,rfl⟩
theorem zI {bx:Nat→Option Bx} {b:Nat} {l:List PV} (hb:bx b=some (.fix (l.map CV.p))):eo bx (.c (.ptr b 0)) = .c (.ipt l.length (fun j=>l.getD j .any) 0):=by
 have hf:(fun j=>(ef bx ((l.map CV.p).getD (0+j) .any)).toP)=fun j=>l.getD j .any:=by
  funext j
  rw [Nat.zero_add,List.getD_eq_getElem?_getD,List.getD_eq_getElem?_getD,List.getElem?_map]
  cases l[j]? with
  | none=>rfl
  | some x=>rfl
 simp only [eo,ja,hb]
 rw [if_pos (Nat.zero_le _),List.length_map,Nat.sub_zero]
 exact congrArg (fun g=>BV.c (.ipt l.length g 0)) hf
theorem BL (m:Image) (mx:Int) (hm:Full mx) (hs:m.solid=false) (h:ImgV m mx):aC Sg 122 [ag (aN m),U mx] (fun r=>r = .b (I 0)):=by
 have h1:=oc m
 have hpl:=AN m.w m.h
 have hf:=h.f
 have hfit:cl m.w m.h=true:=by
  have:=hf
  unfold aX at this
  rw [Bool.and_eq_true] at this
  exact this.1
 obtain ⟨b1,b2,_,_,b3,b4⟩:=di hfit
 obtain ⟨W,hW⟩:∃ W:Nat,m.w=W:=⟨m.w.toNat,by omega⟩
 obtain ⟨H,hH⟩:∃ H:Nat,m.h=H:=⟨m.h.toNat,by omega⟩
 rw [hfit,hf,if_neg (by decide),if_neg (by decide)] at h1
 refine ⟨⟨_,Tryz.func122,rfl,rfl⟩,fun ok w vs hok hgl hsz hden => ?_⟩
 have g0:=EB (S:=Sg) (N:=34) hok hgl hsz hden (show 2≤34 by decide) (ch (by simp (maxSteps:=999999)(disch:=omega) only [go_sem]))
 refine callsIn_wide.1 (callsIn_of_wp_marks (F:=Fence.wide) (n:=5) Tryz.func122 rfl trivial (wpIn_wide.2 ?_))
 refine si dK (aQ [(2, .b (.c (.ptr 0 0))),(3, .b (.c (.ptr 1 0))),(4, .b (.c (.ptr 2 0)))] [(0, .fix ((aN m).map CV.p)),(1, .fix ([PU mx].map CV.p)),(2, .fix ([PI 0].map CV.p))] 3) ?_ (show cZ 34 _=true by decide +kernel) g0 (fun ρ1 a1 w1 g1 => ?_)
 ·repeat' (refine ai (fun K hK => ?_);and_intros;(all_goals first|(refine hK _ ?_;clear hK K)|exact aa|skip))
  refine ⟨_, ?_,rfl⟩
  refine az [(1,some 1),(2,some 2)] ?_ ?_
  and_intros
  all_goals first|exact ao|skip
 refine si dK (aQ [(2, .b (.c (.ptr 0 0))),(3, .b (.c (.ptr 1 0))),(4, .b (.c (.ptr 2 0)))] [(0, .fix ((aN m).map CV.p)),(1, .fix ([PU mx].map CV.p)),(2, .fix ([PI 0].map CV.p))] 3) ?_ (show cZ 34 _=true by decide +kernel) g1 (fun ρ2 a2 w2 g2 => ?_)
 ·have ht:True:=trivial
  repeat' (first|refine aj ht ?_|refine an ?_|((first|refine ai (fun K hK => ?_)|refine ae (h1) ?_);and_intros;(all_goals first|(refine hK _ ?_;clear hK K)|exact aa|skip)))
  refine ⟨_, ?_,rfl⟩
  refine az [(1,some 1),(2,some 2)] ?_ ?_
  and_intros
  all_goals first|exact ao|skip
 refine si dK (aQ [(2, .b (.c (.ptr 0 0))),(3, .b (.c (.ptr 1 0))),(4, .b (.c (.ptr 2 0)))] [(0, .fix ((aN m).map CV.p)),(1, .fix ([PU mx].map CV.p)),(2, .fix ([PI 0].map CV.p))] 3) ?_ (show cZ 34 _=true by decide +kernel) g2 (fun ρ3 a3 w3 g3 => ?_)
 ·repeat' (first|refine aj hs ?_|refine an ?_|(refine ai (fun K hK => ?_);and_intros;(all_goals first|(refine hK _ ?_;clear hK K)|exact aa|skip)))
  refine ⟨_, ?_,rfl⟩
  refine az [(1,some 1),(2,some 2)] ?_ ?_
  and_intros
  all_goals first|exact ao|skip
 refine wp_seq ?_
 refine si dK (aQ [(2, .b (.c (.ptr 0 0))),(3, .b (.c (.ptr 1 0))),(4, .b (.c (.ptr 2 0))),(24, .b (.c (.p (OW m.w m.h))))] [(0, .fix ((aN m).map CV.p)),(1, .fix ([PU mx].map CV.p)),(2, .fix ([PI 0].map CV.p))] 3) ?_ (show cZ 34 _=true by decide +kernel) g3 (fun ρ a w1 g => ?_)
 ·repeat' ((first|refine ai (fun K hK => ?_)|refine ae (hpl) ?_);and_intros;(all_goals first|(refine hK _ ?_;clear hK K)|exact aa|skip))
  refine ⟨_, ?_,rfl⟩
  refine az [(1,some 1),(2,some 2)] ?_ ?_
  and_intros
  all_goals first|exact ao|skip
 refine wp_block ?_
 clear g0 g1 g2 g3
 have d24:bp (bC { w0:=w,ok0:=ok,rx:=none,N:=34 } _ ρ w1) w1 (OW m.w m.h) (a.tmps.getD 24 undef):=g.slt 24
 obtain ⟨lb,hu,hlb,hcl⟩:=d24
 obtain ⟨Bh,oh,e1,k1,c1⟩:=hcl 0 (by decide)
 obtain ⟨Bw,ow,e2,k2,c2⟩:=hcl 1 (by decide)
 obtain ⟨xh,qh,_,dh⟩:=c1 0 (by decide)
 obtain ⟨xw,qw,_,dw⟩:=c2 0 (by decide)
 have dh:xh = .int .i64 m.h:=dh
 have dw:xw = .int .i64 m.w:=dw
 rw [dh,hH,Nat.add_zero] at qh
 rw [dw,hW,Nat.add_zero] at qw
 have hlb2:lb = #[.pointer (some ⟨Bh,oh,none⟩), .pointer (some ⟨Bw,ow,none⟩)]:=by
  rw [← e1,← e2]
  refine Array.ext hlb (fun i h1 h2 => ?_)
  have hi:i=0∨i=1:=by omega
  rcases hi with rfl|rfl
  ·simp [Array.getD,h1]
  ·simp [Array.getD,h1]
 have f0:=GR g (s:=2) (x := .c (.ptr 0 0)) rfl (zI (l:=aN m) rfl) trivial
 have f1:=GR g (s:=3) (x := .c (.ptr 1 0)) rfl (zI (l:=[PU mx]) rfl) trivial
 have f4:∃ b o,ρ 2 = .pointer (some ⟨b,o,none⟩)∧a.tmps.getD 4 undef = .pointer (some ⟨b,o+0,none⟩):=g.slt 4
 obtain ⟨b,o,r2,f4⟩:=f4
 have q2:jO ρ (bC { w0:=w,ok0:=ok,rx:=none,N:=34 } _ ρ w1) w1 (.fix ([PI 0].map CV.p)) (ρ 2):=g.bxs 2 _ rfl
 obtain ⟨b',o',cells,ty,hv,hh,hsz2,hone,hdd⟩:=q2
 rw [r2] at hv
 obtain ⟨rfl,rfl⟩:b=b'∧o=o':=by simpa using hv
 have hbn:w.heap.size≤b:=by
  have:=(g.new 2 _ b rfl (by rw [r2];rfl)).2
  rcases this with q|⟨_,_,_,_,q⟩
  ·exact q
  ·cases q
 have hgl1:=PL g
 have hB1:Below w.heap.size w w1:=⟨g.frm.os,g.frm.tape,g.frm.output,g.frm.size,fun k hk=>g.frm.block k hk fun _ _ q=>by cases q⟩
 obtain ⟨t0,t1,t2,t3,t4,t5,t6,t7,t8,t9,t10,t11,t12,t13,t14,t15,t16,t17,t18,t19,t20,t21,t22,t23,t24,t25,t26,t27,t28,t29,t30,t31,t32,t33,ha⟩:=Qh a.tmps g.sz
 obtain ⟨tm,df⟩:=a
 have hdf:df=[]:=g.dfr
 dsimp only at ha hu f0 f1 f4
 subst hdf
 clear g
 subst ha
 have hu:t24=_:=hu
 have f4:t4 = .pointer (some ⟨b,o,none⟩):=f4
 subst hu f4 hlb2
 refine zx dK (gf:=184) (N:=34) rfl (enters_of Tryz.func184 (by kernel_rfl) rfl) (yq 3 (by omega) Bh oh Bw ow w1.heap.size W H (by omega) (by omega) w1 (Nat.le_refl _) k1.1 k2.1 qh qw) (fun _=>rfl)
  (fun x => { tmps := #[t0,t1,t2,t3, .pointer (some ⟨b,o,none⟩),t5, .int .i64 x.1.1, .int .i64 x.1.2,t8,t9,t10,t11,t12,t13,t14,t15,t16,t17,t18,t19,t20,t21,t22,t23, .func (.func 184) #[] #[.pointer (some ⟨Bh,oh,none⟩), .pointer (some ⟨Bw,ow,none⟩)], .int .i64 x.1.1, .int .i64 x.1.2,t27,t28,t29,t30,t31,t32,t33],defers:=[] })
  (fun x=>nC [(2, .b (.c (.ipt (aN m).length (fun j=>(aN m).getD j .any) 0))),(3, .b (.c (.ipt [PU mx].length (fun j=>[PU mx].getD j .any) 0))),(6, .b (I x.1.1)),(7, .b (I x.1.2))]) ?assign (fun x=>⟨rfl,rfl,fun s => ?lt,fun s => ?den⟩) hgl1 (by decide +kernel) (by decide +kernel) (fun x => ?cw) ?done
 case assign =>
  intro l x W0 K hK
  gi_wp2
  exact hK
 case lt =>
  simp only [nC]
  repeat' split
  all_goals trivial
 case den =>
  simp only [nC]
  split
  ·rename_i q;subst q;exact f0
  split
  ·rename_i q;subst q;exact f1
  split
  ·rename_i q;subst q;rfl
  split
  ·rename_i q;subst q;rfl
  trivial
 case cw =>
  obtain ⟨⟨px,py⟩,hx,hy⟩:=x
  have hp:=wj m px py hf (by omega) (by dsimp only at hx;omega) (by omega) (by dsimp only at hy;omega)
  have hv:=jC (eX m px py) mx
  rw [gi (h.p px py (by omega) (by dsimp only at hx;omega) (by omega) (by dsimp only at hy;omega))] at hv
  generalize eX m px py=q at *
  have ht:True:=trivial
  dsimp only
  repeat' (first|with_reducible exact ca|refine aj ht ?_|refine an ?_|((first|refine ai (fun K hK => ?_)|refine ae (hp) ?_|refine ae (hv) ?_);and_intros;(all_goals first|(refine hK _ ?_;clear hK K)|exact aa|skip)))
 case done =>
  intro D W0 hD hB hK
  have hbw:b<w1.heap.size:=bY hh
  have hcell:W0.heap[b]?=some (.cells cells ty (0,0)):=(hB.block b hbw).trans hh
  have hco:∃ u,W0.cell? ⟨b,o,none⟩=some u∧W0.frozen? ⟨b,o,none⟩=false:=by
   have hsz3:o<cells.size:=by simp at hsz2;omega
   exact ⟨cells.getD o undef,bS hcell hsz3,by simp [World.frozen?,hcell]⟩
  obtain ⟨u0,hco,hfr⟩:=hco
  refine (wpIn_wide (n:=5)).1 ?_
  simp only [RK]
  gi_wp2
  have hK':=(KeepsOthers.setCell W0 ⟨b,o,none⟩ (.int .i64 0)).same D _ hK rfl
  refine ⟨by simp, .inl ⟨_,_,rfl,run_takeDeferred hK', ?_⟩⟩
  have hc5:=cell_kept (World.cell?_setCell_same' W0 ⟨b,o,none⟩ (.int .i64 0) (by rw [hco];rfl)) (grownBy_putObj' _ D (.deferred none)) (fun r e=>by cases e;exact ⟨_,hK',rfl⟩)
  refine ⟨.int .i64 0, ?_, ?_⟩
  ·simp [results,Tryz.f122,go_sem,hc5]
  ·have hDb:w.heap.size≤D:=Nat.le_trans hB1.size hD
   have hB2:Below w.heap.size w ((W0.setCell ⟨b,o,none⟩ (.int .i64 0)).putObj D (.deferred none)):=by
    have q1:Below w.heap.size w W0:=hB1.trans (hB.mono hB1.size)
    refine (q1.setCell (p:=⟨b,o,none⟩) hbn _).grown (grownBy_putObj' _ D (.deferred none)) ?_ (fun k e=>by cases e;exact hDb)
    have:=q1.size
    have:=(KeepsOthers.setCell W0 ⟨b,o,none⟩ (.int .i64 0)).size
    omega
   exact ⟨_,rfl,hB2,rfl⟩
end Go.Proofs.YtmfblbbemekkoaaGreatDoor
set_option maxHeartbeats 4000000
set_option maxRecDepth 16000
namespace Go.Proofs.YtmfblbbemekkoaaGreatDoor
open Go Go.SL
open Go.RowKit (wrap64)
theorem uo (m:Image) (mx:Int) (hm:Full mx) (h:BC m mx):aC Sg 42 [ag (aN m),U mx] (fun r=>r = .b (I (dJ m mx))):=by
 by_cases hv:ImgV m mx
 ·rw [vh hv];exact vy m mx hm hv
 have h1:=gS m.w m.h
 have h2:=qp m
 have h3:=dY m.color mx
 have ht:True:=trivial
 have hfe:aX m=(cl m.w m.h && eM m):=rfl
 unfold dJ
 cases hf:cl m.w m.h
 ·rw [if_pos rfl]
  rw [hf] at h1
  refine aA Tryz.func42 [.tmp 4] ?_
  repeat' (first|with_reducible exact ca|refine aj ht ?_|refine an ?_|((first|refine ai (fun K hK => ?_)|refine ae (h1) ?_);and_intros;(all_goals first|(refine hK _ ?_;clear hK K)|exact aa|skip))|(refine ak ?_;(try clear hB KB);(try clear hK K)))
 rw [if_neg (by decide)]
 rw [hf] at h1
 cases hp:eM m
 ·rw [hfe,hf,hp,if_pos (by decide)]
  rw [hp] at h2
  refine aA Tryz.func42 [.tmp 4] ?_
  repeat' (first|with_reducible exact ca|refine aj ht ?_|refine an ?_|((first|refine ai (fun K hK => ?_)|refine ae (h1) ?_|refine ae (h2) ?_);and_intros;(all_goals first|(refine hK _ ?_;clear hK K)|exact aa|skip))|(refine ak ?_;(try clear hB KB);(try clear hK K)))
 have hfo:aX m=true:=by rw [hfe,hf,hp];rfl
 rw [hfo,if_neg (by decide)]
 rw [hp] at h2
 have hs:m.solid=true:=by
  rcases h with h|h|h
  ·exact absurd h hv
  ·rw [hfo] at h;cases h
  ·exact h
 cases hk:ky m.color mx
 ·rw [if_pos ⟨hs,rfl⟩]
  rw [hk] at h3
  refine aA Tryz.func42 [.tmp 4] ?_
  repeat' (first|with_reducible exact ca|refine aj hs ?_|refine an ?_|((first|refine ai (fun K hK => ?_)|refine ae (h1) ?_|refine ae (h2) ?_|refine ae (h3) ?_);and_intros;(all_goals first|(refine hK _ ?_;clear hK K)|exact aa|skip))|(refine ak ?_;(try clear hB KB);(try clear hK K)))
 ·rw [if_neg (by rintro ⟨_,q⟩;cases q)]
  rw [hk] at h3
  refine aA Tryz.func42 [.tmp 4] ?_
  repeat' (first|with_reducible exact ca|refine aj hs ?_|refine an ?_|((first|refine ai (fun K hK => ?_)|refine ae (h1) ?_|refine ae (h2) ?_|refine ae (h3) ?_);and_intros;(all_goals first|(refine hK _ ?_;clear hK K)|exact aa|skip))|(refine ak ?_;(try clear hB KB);(try clear hK K)))
theorem BT (s:Script) (hs:ScriptLen s) (hT:bA s=0→Full (bo s.bits)∧∀ m ∈ s.images,BC m (bo s.bits)):aC Sg 64 [ag (aE s)] (fun r=>r = .tup [I (fj s).1,I (fj s).2]):=by
 have h1:=nG s hs
 have h2:=vp s hs
 have h3:aC Sg 25 [I s.bits] (fun x=>x = .tup [U (bo s.bits),B (decide (s.bits=8∨s.bits=16))]):=fy s.bits
 unfold fj
 by_cases hf:bA s=0
 ·obtain ⟨hm,hi⟩:=hT hf
  rw [if_neg (by rw [Decidable.not_not];exact hf)]
  rw [hf] at h1
  have ht:True:=trivial
  obtain ⟨R,hR⟩:∃ R,(if (ed (bo s.bits) 0 s.images).1≠0 then ed (bo s.bits) 0 s.images else jm s)=R:=⟨_,rfl⟩
  rw [hR]
  refine aA Tryz.func64 [.tmp 2, .tmp 3] ?_
  repeat' (first|refine aj ht ?_|refine an ?_|((first|refine ai (fun K hK => ?_)|refine ae (h1) ?_|refine ae (h3) ?_);and_intros;(all_goals first|(refine hK _ ?_;clear hK K)|exact aa|skip)))
  refine aO (X:=Nat) (fun i=>aQ [(1, .b (.c (.ptr 0 0))),(5, .b (U (bo s.bits))),(7, .b (I i))] [(0, .fix ((aE s).map CV.p))] 1) (fun i=>i≤s.images.length∧ed (bo s.bits) 0 s.images=ed (bo s.bits) i (s.images.drop i)) (fun i=>s.images.length - i) 0 ?_ ?_ ?_
  ·exact ⟨Nat.zero_le _,by rw [List.drop_zero]⟩
  ·refine az [] ?_ ?_
   and_intros
   all_goals first|exact ao|skip
  ·rintro i ⟨hil,hgo⟩
   have hlen:=hs.images
   rcases Nat.lt_or_ge i s.images.length with h|h
   ·rw [qU h] at hgo
    have hmem:s.images.getD i default ∈ s.images:=by
     rw [List.getD_eq_getElem?_getD,List.getElem?_eq_getElem h]
     exact List.getElem_mem _
    have hv:=uo (s.images.getD i default) (bo s.bits) hm (hi _ hmem)
    by_cases h0:dJ (s.images.getD i default) (bo s.bits)=0
    ·rw [if_pos h0] at hgo
     rw [h0] at hv
     repeat' (first|refine aj ht ?_|refine an ?_|((first|refine ai (fun K hK => ?_)|refine ae (hv) ?_);and_intros;(all_goals first|(refine hK _ ?_;clear hK K)|exact aa|skip))|(refine aW (fun hb => ?_) (fun hb => ?_);all_goals try exact aG))
     rw [ah]
     refine aw (i+1) ?_ ⟨by omega,hgo⟩ (by omega)
     refine az [] ?_ ?_
     and_intros
     all_goals first|exact ao|skip
    ·rw [if_neg h0] at hgo
     have g0:(dJ (s.images.getD i default) (bo s.bits) != 0)=true:=by rw [bne_iff_ne];exact h0
     have hR2:R=(dJ (s.images.getD i default) (bo s.bits),(i:Int)):=by rw [← hR,hgo,if_pos h0]
     rw [hR2]
     repeat' (first|with_reducible exact ca|refine aj g0 ?_|refine an ?_|((first|refine ai (fun K hK => ?_)|refine ae (hv) ?_);and_intros;(all_goals first|(refine hK _ ?_;clear hK K)|exact aa|skip))|(refine aW (fun hb => ?_) (fun hb => ?_);all_goals try exact aG)|(refine ak ?_;(try clear hB KB);(try clear hK K)))
   ·have e:s.images.drop i=[]:=List.drop_eq_nil_of_le h
    rw [e] at hgo
    have hR2:R=jm s:=by rw [← hR,hgo,if_neg (by simp [ed])]
    rw [← hR2] at h2
    repeat' (first|with_reducible exact ca|refine an ?_|((first|refine ai (fun K hK => ?_)|refine ae (h2) ?_);and_intros;(all_goals first|(refine hK _ ?_;clear hK K)|exact aa|skip))|(refine aW (fun hb => ?_) (fun hb => ?_);all_goals try exact aG)|(refine ak ?_;(try clear hB KB);(try clear hK K)))
 ·rw [if_pos hf]
  have g0:(bA s != 0)=true:=by rw [bne_iff_ne];exact hf
  refine aA Tryz.func64 [.tmp 2, .tmp 3] ?_
  repeat' (first|with_reducible exact ca|refine aj g0 ?_|refine an ?_|((first|refine ai (fun K hK => ?_)|refine ae (h1) ?_);and_intros;(all_goals first|(refine hK _ ?_;clear hK K)|exact aa|skip))|(refine ak ?_;(try clear hB KB);(try clear hK K)))
end Go.Proofs.YtmfblbbemekkoaaGreatDoor
set_option maxRecDepth 8000
set_option maxHeartbeats 4000000
namespace Go.Proofs.YtmfblbbemekkoaaGreatDoor
open Go Go.SL
open Go.RowKit (wrap64)
theorem Cu (c:Scene) {k:Nat} (hk:k<(au c).images.length):((au c).images.getD k default).w≤5∧((au c).images.getD k default).h≤4:=by
 have hmem:(au c).images.getD k default ∈ aJ c:=by
  rw [List.getD_eq_getElem?_getD,List.getElem?_eq_getElem hk]
  exact List.getElem_mem _
 generalize (au c).images.getD k default=q at hmem
 have hs:=bK c
 unfold aJ at hmem
 split at hmem
 ·rw [List.mem_singleton.1 hmem]
  show 1+c.w % 5≤5∧1+c.h % 4≤4
  omega
 ·unfold aS at hmem
  obtain ⟨p,_,rfl⟩:=List.mem_map.1 hmem
  have:=Gd (p:=p) hs
  unfold iv
  split
  ·show gW p (aq c)≤5∧gH p (aq c)≤4;omega
  ·show gW p (aq c)≤5∧gH p (aq c)≤4;omega
theorem ta {c:Scene} {s:Script} (h:Of c s) {i:Nat} (hi:i<s.images.length):aX (s.images.getD i default)=true:=by
 have:=(h.im i (by omega) (by omega)).f
 unfold gC at this
 rw [Int.toNat_natCast] at this
 exact this
theorem sZ {c:Scene} {s:Script} (h:Of c s) (hsz:∀ k,k<s.images.length→(s.images.getD k default).w≤5∧(s.images.getD k default).h≤4) (more:Int):Of c (bz s more):=by
 have hl:(bz s more).images.length=s.images.length:=List.length_map ..
 refine ⟨h.b,h.cv,h.w,h.h,h.o,by rw [hl];exact h.n1,by rw [hl];exact h.n2,fun i h0 h1 => ?_,⟨h.V.wf,fun i hi => ?_,by rw [hl];exact h.V.imgs,h.V.cnt, ?_⟩,h.op⟩
 ·rw [hl] at h1
  rw [rq h0 h1]
  obtain ⟨n,rfl⟩:=Int.eq_ofNat_of_zero_le h0
  have q:=hsz n (by omega)
  have e:gC s (n:Int)=s.images.getD n default:=by unfold gC;rw [Int.toNat_natCast]
  refine EW ?_ ?_ (h.im n h0 h1)
  ·rw [e];omega
  ·rw [e];omega
 ·rw [hl];exact h.V.ok i hi
 ·exact GV h.b h.cv h.w h.h h.o (by rw [hl];have:=h.n2;omega) (by have:=h.V.cnt;exact this)
def rP (more:Int) (l:List Image) (i:Nat):Nat→Nat→PV:=fun a j=>if a<i then (aN (bG (l.getD a default) more)).getD j .any else (aN (l.getD a default)).getD j .any
theorem Cq {more:Int} {l:List Image} {i j:Nat}:rP more l i i j=(aN (l.getD i default)).getD j .any:=if_neg (Nat.lt_irrefl i)
theorem wT {more:Int} {l:List Image}:rP more l 0=bj aN l:=by
 funext a j
 exact if_neg (Nat.not_lt_zero a)
theorem Ad {more:Int} {l:List Image} {a j:Nat} (ha:a<l.length):rP more l l.length a j=bj aN (l.map fun m=>bG m more) a j:=by
 have e:(l.map fun m=>bG m more).getD a default=bG (l.getD a default) more:=by
  simp [List.getD_eq_getElem?_getD,List.getElem?_map,List.getElem?_eq_getElem ha]
 unfold rP bj
 rw [if_pos ha,e]
theorem wh {more:Int} {l:List Image} {i j:Nat}:rP more l (i+1) i j=(aN (bG (l.getD i default) more)).getD j .any:=if_pos (Nat.lt_succ_self i)
theorem zM {more:Int} {l:List Image} {i a j:Nat} (h:a≠i):rP more l i a j=rP more l (i+1) a j:=by
 unfold rP
 by_cases q:a<i
 ·rw [if_pos q,if_pos (by omega)]
 ·rw [if_neg q,if_neg (by omega)]
end Go.Proofs.YtmfblbbemekkoaaGreatDoor
