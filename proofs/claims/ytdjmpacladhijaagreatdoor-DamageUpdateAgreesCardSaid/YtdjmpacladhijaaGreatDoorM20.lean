/- Part of the proof: D8, DB, TD, DA, TE, P7, V4, V5, VA, VB, DC, WG, WH. -/
import Derived.Test.YtdjmpacladhijaaGreatDoorM17
import Derived.Test.YtdjmpacladhijaaGreatDoorM19
set_option linter.unusedSimpArgs false
set_option linter.unusedVariables false
set_option maxHeartbeats 8000000
set_option maxRecDepth 16000
namespace Go.Proofs.YtdjmpacladhijaaGreatDoor
open Go Go.SL
open Go.RowKit (wrap64)
section
attribute [local go_sem] Int.toNat_natCast lC jV
theorem GZ {a b : Op} : a = b ↔ a.kind = b.kind ∧ a.image = b.image ∧ a.x = b.x ∧ a.y = b.y ∧ a.mask = b.mask ∧ a.maskX = b.maskX ∧ a.maskY = b.maskY ∧ a.opacity = b.opacity ∧ a.operator = b.operator ∧
  a.mode=b.mode∧a.isolated=b.isolated∧a.knockout=b.knockout:=by
 cases a;cases b;simp
end
section
attribute [local go_sem] Int.toNat_natCast
theorem Mt {r:Nat→Option Nat} {bx bx':Nat→Option Bx} {f f':Nat} {ps ps':List (Nat × Nat)}:Gt r bx bx' (.clo f ps) (.clo f' ps')=(f=f'∧ps.map (·.2)=ps'.map (·.2)∧ps'.map (fun p=>r p.1)=ps.map (fun p=>some p.1)):=rfl
attribute [local go_sem] Mt
end
section
def mn (c r:Rect):Prop:=aM r=true∨(c.x0≤r.x0∧c.y0≤r.y0∧r.x1≤c.x1∧r.y1≤c.y1)
section
variable {s:Script} {m x y:Int}
end
end
section
attribute [local go_sem] Int.toNat_natCast
def js (b:Int):Int:=if b=16 then 65535 else 255
def zS:List CV:=[CV.p (PI 0),CV.p (PI 0),CV.p (PI 0),CV.p (PI 0),CV.p (PI 0),CV.p (PI 0),CV.p (PI 0),CV.p Jl,CV.p Jl,CV.p Jl]
def tS (s:Script) (m:Nat):List CV:=[CV.p (PI s.bits),CV.p (PI s.canvas.x0),CV.p (PI s.canvas.y0),CV.p (PI s.canvas.x1),CV.p (PI s.canvas.y1),CV.p (PI s.tileW),CV.p (PI s.tileH),CV.p (dq s.order),CV.p (qq s.images),CV.own 3 m]
attribute [local go_sem] zS tS
end
theorem Fm {t:Script} (hf:bJ t=0) (hk:iB t.bits t.images.length t.ops []) (ho:bl t.ops []=[]):gu t=(0,0):=by grind [gu,ij,zJ]
theorem Sm (n:N5) {m:Int} (h:0≤m):PixV (Ay n m) m:=by
 have f1:=iu n.e m h;have a1:=iu (n.d.tdiv 3) (dZ n.e m) f1.1;have key:∀ a,0≤a→a≤dZ n.e m→PixV ⟨dZ n.a a,dZ n.b a,dZ n.c a,a,dZ n.e m⟩ m:=fun a h1 h2=>by
  have c0:=iu n.a a h1;have c1:=iu n.b a h1;have c2:=iu n.c a h1;exact ⟨c0.1,c1.1,c2.1,c0.2,c1.2,c2.2,h2,f1.2⟩
 grind [Ay]
theorem JH (r:Row) (i:Nat) {m:Int} (h:0≤m):PixV (uq r m i) m:=by
 have hb:∀ i,PixV (uX r m i) m:=fun i=>by grind [uX,Sm]
 unfold uq;split
 ·exact ⟨Int.le_refl _,Int.le_refl _,Int.le_refl _,Int.le_refl _,Int.le_refl _,Int.le_refl _,Int.le_refl _,h⟩
 split
 ·obtain ⟨a,b,c,d,e,f,g,k⟩:=hb i;exact ⟨a,b,c,by grind,by grind,by grind,Int.le_refl _,Int.le_refl _⟩
 grind
theorem EJ {w h:Int} {p:Pixel} (hf:dD w h=true):aV (jq w h p)=true:=by
 unfold aV;rw [show (jq w h p).w=w from rfl,show (jq w h p).h=h from rfl,hf];rfl
theorem ql {w h m:Int} {p:Pixel} (hf:dD w h=true) (hp:PixV p m):ImgV (jq w h p) m:=⟨EJ hf,fun x y _ _ _ _=>hp⟩
theorem mT {w h:Int} {l:List Pixel} (hf:dD w h=true) (hl:(l.length:Int)=w * h):aV (gN w h l)=true:=by
 obtain ⟨b1,b2,b3,b4,b5,b6⟩:=fU hf;have e:(h - 1) * w+w=w * h:=by rw [Int.sub_mul,Int.one_mul,Int.mul_comm h w];omega
 have hk:∀ k,aW (gN w h l) (dF w h l k)=true:=fun k=>by grind [aW,gN,dF,fq,dD]
 grind [aV,gN,aW,bG,dF]
theorem KJ {w h:Int} {l:List Pixel} {x y:Int} (hl:(l.length:Int)=w * h) (hx:0≤x) (hxw:x<w) (hy:0≤y) (hyh:y<h):(y * w+x).toNat<l.length∧fy (gN w h l) x y=l.getD (y * w+x).toNat default:=by
 have e1:0≤y * w:=au hy (by omega);have e2:y * w≤(h - 1) * w:=aD (by omega) (Int.le_refl _) (by omega) (by omega);have e:(h - 1) * w+w=w * h:=by rw [Int.sub_mul,Int.one_mul,Int.mul_comm h w];omega
 have hi:(y * w+x).toNat<l.length:=by omega
 refine ⟨hi, ?_⟩;unfold fy;rw [if_neg (by grind [gN])];have key:∀ k,(dF w h l k).s.getD (y * w+x).toNat 0=yN k (l.getD (y * w+x).toNat default):=fun k=>by grind [dF]
 show (⟨(dF w h l 0).s.getD (y * w+x).toNat 0,(dF w h l 1).s.getD (y * w+x).toNat 0,(dF w h l 2).s.getD (y * w+x).toNat 0,(dF w h l 3).s.getD (y * w+x).toNat 0,(dF w h l 4).s.getD (y * w+x).toNat 0⟩:Pixel)=_;rw [key,key,key,key,key];rfl
theorem Gh {w h m:Int} {l:List Pixel} (hf:dD w h=true) (hl:(l.length:Int)=w * h) (hp:∀ p ∈ l,PixV p m):ImgV (gN w h l) m:=by
 refine ⟨mT hf hl,fun x y h1 h2 h3 h4 => ?_⟩;obtain ⟨hi,e⟩:=KJ hl h1 h2 h3 h4;grind
theorem a2Q {p:Pic} {c:Rect} {m:Int} (hc:Small c) (hm:0≤m):ImgV (jR p c m) m:=by
 have hl:=Ht (p:=p) hc;have hlen:(aY p.row (gW p c * gH p c).toNat m).length=(gW p c * gH p c).toNat:=by simp [aY]
 have hok:=kX (w:=gW p c) (h:=gH p c) ⟨hl.1,hl.2.1⟩ ⟨hl.2.2.1,hl.2.2.2.1⟩ hlen;have hf:dD (gW p c) (gH p c)=true:=by
  unfold dg at hok;rw [Bool.and_eq_true] at hok;exact hok.1
 grind [jR,uq,aY,Gh,JH,ql]
structure Of (c:Scene) (s:Script):Prop where
 b:s.bits=(aI c).bits
 cv:s.canvas=aG c
 w:s.tileW=eF c
 h:s.tileH=eB c
 o:s.order=(aI c).order
 n1:1≤s.images.length
 n2:s.images.length≤6
 im:sj s
 V:VOps s
 op:∀ o ∈ s.ops,0≤o.opacity
theorem Of.mx {c:Scene} {s:Script} (h:Of c s):aN s.bits=eZ c.bits:=by rw [h.b];exact sX c
theorem a2y (c:Scene):Full (eZ c.bits):=⟨by grind [eZ,la]⟩
theorem Of.pt {c:Scene} {s:Script} (h:Of c s) {x y:Int} (hx:jo (aG c) x y):Pt s (eZ c.bits) x y :=
 ⟨h.V,a2y c,h.mx,h.im,h.op,by rw [h.cv];exact lK (cI c),by rw [h.cv];exact hx⟩
theorem a4t (c:Scene):sj (aI c):=by
 intro i h0 h1;rw [sX];have hm:0≤eZ c.bits:=by have:=la c.bits;omega
 have hmem:cH (aI c) i ∈ aT c:=by
  have hi:i.toNat<(aT c).length:=by
   have h1:i<((aT c).length:Int):=h1;omega
  show (aT c).getD i.toNat default ∈ aT c;rw [List.getD_eq_getElem?_getD,List.getElem?_eq_getElem hi];exact List.getElem_mem _
 generalize cH (aI c) i=q at hmem;have hs:=cI c;unfold aT at hmem;split at hmem
 ·rw [List.mem_singleton.1 hmem];refine ql ?_ ⟨hm,Int.le_refl _,Int.le_refl _,Int.le_refl _,hm,hm,Int.le_refl _,Int.le_refl _⟩;have:=kX (w:=1+c.w % 5) (h:=1+c.h % 4) (n:=((1+c.w % 5) * (1+c.h % 4)).toNat) (by omega) (by omega) rfl;unfold dg at this;grind
 ·unfold cL at hmem;grind [a2Q]
theorem Je {c:Scene} {s:Script} (b:s.bits=(aI c).bits) (c':s.canvas=aG c) (w:s.tileW=eF c) (h:s.tileH=eB c) (o:s.order=(aI c).order) (n2:s.images.length≤64) (n3:s.ops.length≤4096):bJ s=0:=Ul b c' w h o n2 n3
theorem a0y (c:Scene):Of c (aI c):=by
 have hi:=gK c;have hg:=kF c;refine ⟨rfl,rfl,rfl,rfl,rfl,hi.1,Nat.le_trans hi.2 (by decide),a4t c,jK ?_,fun o ho=>(hg.tame o ho).op.1⟩;rw [Fm (Ul rfl rfl rfl rfl rfl (yj c) (Nat.le_trans (Ig c) (by decide))) hg.ok hg.op]
theorem Tp (c:Scene):js (aI c).bits=eZ c.bits:=by grind [eZ,la,js,aI]
section
section
variable {s:Script} {m:Int}
def kn (s:Script) (r:Rect) (i:Nat):Bool := !aM (ed (dr s i) r)
def lW (s:Script) (r:Rect) (i:Nat):Bool:=kn s r i && (bE s.ops i).all (kn s r)
theorem SS {r:Rect} {i:Nat} {x y:Int} (hr:aM r=false) (hxy:jo r x y) (h:kn s r i=false):¬ zb (dr s i) x y:=fun ⟨h1,h2⟩=>by
 unfold kn at h;have:=((rz h1 hr).2 ⟨h2,hxy⟩).1;grind
theorem Sh (W:Wf s.ops) {r:Rect} {i j:Nat} (hi:i<s.ops.length) (hk:(ah s.ops i).kind=2) (h:kn s r i=false) (h1:i<j) (h2:j≤aE s.ops i):lW s r j=false:=by
 have hel:=cB W hi;grind [bE,rE,lW,kn]
theorem vn {r:Rect} {i:Nat} (h:∀ g ∈ bE s.ops i,kn s r g=true):lW s r i=kn s r i:=by grind [lW]
theorem RR (W:Wf s.ops) {r:Rect} {i:Nat} (hi:i<s.ops.length) (h:∀ g ∈ bE s.ops i,kn s r g=true) (hp:(ah s.ops i).kind=2→kn s r i=true):∀ g ∈ bE s.ops (i+1),kn s r g=true:=by
 intro g hg;rcases W.kinds i hi with k|k|k
 ·grind [bE,ec]
 ·grind [bE,dv]
 ·rw [eI k] at hg;exact h g (List.mem_of_mem_tail hg)
theorem Zi {x y:Int} (C:Pt s m x y) {r:Rect} {i:Nat} (hr:aM r=false) (hxy:jo r x y) (hi:i<s.ops.length) (hk:(ah s.ops i).kind≠3) (h:kn s r i=false):jP m (bg s x y) s.ops (aE s.ops i+1)=jP m (bg s x y) s.ops i :=
 Zb C hi hk (SS hr hxy h)
end
end
section
attribute [local go_sem] dA
def Nf (t:Lv):List PV:=[PI t.op.kind,PI t.op.image,PI t.op.x,PI t.op.y,PI t.op.mask,PI t.op.maskX,PI t.op.maskY,PU t.op.opacity,PI t.op.operator,PI t.op.mode,PB t.op.isolated,PB t.op.knockout,
 PU t.acc.c0,PU t.acc.c1,PU t.acc.c2,PU t.acc.a,PU t.acc.own,PU t.acc.f,PU t.back.c0,PU t.back.c1,PU t.back.c2,PU t.back.a,PU t.back.f]
def lL (g:Nat→PV) (t:Lv):Prop:=∀ j,j<23→g j=(Nf t).getD j .any
def Ks (m:Int) (n:Nat) (f:Nat→Nat→PV):BV := .c (.ipt 2 (fun j=>[PU m, .lst 23 n f].getD j .any) 0)
theorem fQ {n:Nat}:(((n+1:Nat):Int) - 1)=(n:Int):=by omega
attribute [local go_sem] Ks fQ Int.toNat_natCast Nf
end
section
attribute [local go_sem] dA Nf fQ Int.toNat_natCast dQ
theorem Gi {a nx:Nat} {A:Bx} {bx b:Nat→Option Bx} (hw:∀ i,nx≤i→bx i=none) (h1:b a=some A) (h3:∀ i,i<nx→i≠a→b i=bx i):Sub (aJ a A bx) b:=fun i y hi=>by
 unfold aJ at hi;split at hi
 ·rename_i e;rw [e,h1];exact hi
 ·rename_i e;rcases Nat.lt_or_ge i nx with q|q
  ·rw [h3 i q e];exact hi
  ·rw [hw i q] at hi;cases hi
end
section
attribute [local go_sem] dA Nf fQ Int.toNat_natCast
def Gw (f:Nat→Nat→PV):List Lv→Prop
 | []=>True
 | t :: r=>lL (f r.length) t∧Gw f r
theorem Sz {s:Script} (V:VOps s) {i:Nat} (hi:i≤s.ops.length):(bE s.ops i).length≤64:=by
 cases hs:bE s.ops i with
 | nil=>simp
 | cons g r =>
  have hg:g<i:=ej (ops:=s.ops) (by grind);have hk:(ah s.ops g).kind=2:=iz (i:=i) (by grind);obtain ⟨_,_,_,q⟩:=cu.1 (V.ok g (by omega));obtain ⟨_,_,_,_,_,_,q7⟩:=q (by omega);have h7:=q7 hk;have e:bE s.ops g=r:=lH (l:=[]) hs;grind
def HM (m:Int) (t:Lv):BV:=Ks m 1 (fun _ j=>(Nf t).getD j .any)
end
theorem kB (p:Plane) (hl:p.s.length≤4611686018427387904):aB Sg 54 [ag (nt p),ag (nt p)] (fun r=>r = .b (B true)):=by
 have e:∀ n:Int,(n != n)=false:=fun n=>by simp
 refine az Tryz.func54 [.tmp 4] ?_;repeat' (first|refine aj e ?_|refine aC ?_)
 refine aK (X:=Nat) (fun i=>aP [(2, .b (.c (.ptr 0 0))),(3, .b (.c (.ptr 1 0))),(5, .b (I i))] [(0, .fix ((nt p).map CV.p)),(1, .fix ((nt p).map CV.p))] 2) (fun i=>i≤p.s.length) (fun i=>p.s.length - i) 0 ?_ ?_ ?_
 ·omega
 ·refine ar [(1,some 1)] ?_ ?_;and_intros;all_goals try exact ak
 ·intro i hi;have e2:(p.s.getD i default != p.s.getD i default)=false:=by simp
  rcases Nat.lt_or_ge i p.s.length with h|h
  ·repeat' (first|refine aj (And.intro e2 e) ?_|refine aC ?_|(refine aH (fun hb => ?_) (fun hb => ?_) <;> try exact ax))
   rw [ae];refine ao (i+1) ?_ (by omega) (by omega);refine ar [(1,some 1)] ?_ ?_;and_intros;all_goals try exact ak
  ·repeat' (first|with_reducible exact cz|refine aC ?_|(refine aH (fun hb => ?_) (fun hb => ?_) <;> try exact ax))
structure ImgLen (m:Image):Prop where
 l0:m.p0.s.length≤4611686018427387904
 l1:m.p1.s.length≤4611686018427387904
 l2:m.p2.s.length≤4611686018427387904
 l3:m.p3.s.length≤4611686018427387904
 l4:m.p4.s.length≤4611686018427387904
theorem mJ (m:Image) (hl:ImgLen m):aB Sg 20 [ag (aF m),ag (aF m)] (fun r=>r = .b (B true)):=by
 have ht:True:=trivial;have v0:=kB m.p0 hl.l0;have v1:=kB m.p1 hl.l1;have v2:=kB m.p2 hl.l2;have v3:=kB m.p3 hl.l3;have v4:=kB m.p4 hl.l4;refine az Tryz.func20 [.tmp 4] ?_;repeat' (refine aC ?_)
 refine aK (X:=Int) (fun k=>aP [(2, .b (.c (.ptr 0 0))),(3, .b (.c (.ptr 1 0))),(5, .b (I k))] [(0, .fix ((aF m).map CV.p)),(1, .fix ((aF m).map CV.p))] 2) (fun k=>0≤k∧k≤5) (fun k=>(5 - k).toNat) 0 ?_ ?_ ?_
 ·omega
 ·refine ar [(1,some 1)] ?_ ?_;and_intros;all_goals try exact ak
 ·intro k hk;have hkv:k=0∨k=1∨k=2∨k=3∨k=4∨k=5:=by omega
  rcases hkv with rfl|rfl|rfl|rfl|rfl|rfl
  ·repeat' (first|refine aj ht ?_|refine aw ?_|refine an (fun K hK => ?_)|refine aa (v0) ?_|(refine aq hK ?_;try clear hK K))
   rw [ae];refine ao 1 ?_ (by omega) (by decide);refine ar [(1,some 1)] ?_ ?_;and_intros;all_goals try exact ak
  ·repeat' (first|refine aj ht ?_|refine aw ?_|refine an (fun K hK => ?_)|refine aa (v1) ?_|(refine aq hK ?_;try clear hK K))
   rw [ae];refine ao 2 ?_ (by omega) (by decide);refine ar [(1,some 1)] ?_ ?_;and_intros;all_goals try exact ak
  ·repeat' (first|refine aj ht ?_|refine aw ?_|refine an (fun K hK => ?_)|refine aa (v2) ?_|(refine aq hK ?_;try clear hK K))
   rw [ae];refine ao 3 ?_ (by omega) (by decide);refine ar [(1,some 1)] ?_ ?_;and_intros;all_goals try exact ak
  ·repeat' (first|refine aj ht ?_|refine aw ?_|refine an (fun K hK => ?_)|refine aa (v3) ?_|(refine aq hK ?_;try clear hK K))
   rw [ae];refine ao 4 ?_ (by omega) (by decide);refine ar [(1,some 1)] ?_ ?_;and_intros;all_goals try exact ak
  ·repeat' (first|refine aj ht ?_|refine aw ?_|refine an (fun K hK => ?_)|refine aa (v4) ?_|(refine aq hK ?_;try clear hK K))
   rw [ae];refine ao 5 ?_ (by omega) (by decide);refine ar [(1,some 1)] ?_ ?_;and_intros;all_goals try exact ak
  ·repeat' (first|refine aj ht ?_|refine aC ?_)
   simp
theorem xz {m:Image} {mx:Int} (h:ImgV m mx) (hs:m.solid=true):PixV m.color mx:=by
 obtain ⟨a,b,_,_⟩:=nh h.f;have:=h.p 0 0 (Int.le_refl _) (by omega) (Int.le_refl _) (by omega);grind [fy]
section
attribute [local go_sem] Int.toNat_natCast
theorem bO {S:Env} {ops:Array Oper} {L:List Oper} {i:Nat} {t r:Tr} {st:St} {K:St→Prop} (h:∀ K':St→Prop,(∀ s,ig S ops L t s K→K' s)→bj S ops [L.getD i default] st K') (hr:ig S ops L r st K):ig S ops L (.br i t r) st K :=
 ⟨h _ (fun _ h=>h),hr⟩
theorem aZ {S:Env} {ops:Array Oper} {L:List Oper} {st:St} {K:St→Prop} (h:K st):ig S ops L .leaf st K:=h
theorem bp {S:Env} {ops:Array Oper} {L:List Oper} {st:St} {K:St→Prop}:ig S ops L .nil st K:=trivial
def a0D (s:Script) (d:Scene):Script := { aI d with bits:=s.bits,canvas:=s.canvas,tileW:=s.tileW,tileH:=s.tileH,order:=s.order,images:=s.images }
def uI (s:Script) (d:Scene):Script:=⟨s.bits,s.canvas,s.tileW,s.tileH,s.order,s.images ++ [s.images.getD 0 default],(aI d).ops⟩
attribute [local go_sem] a0D uI
end
section
attribute [local go_sem] qE mh
theorem PA (op mode m cs sl cb ab : Int) (hm : Full m) (ho : 1 ≤ op ∧ op ≤ 12) (hmo : 1 ≤ mode ∧ mode ≤ 12) (hs : Pre cs sl m) (hd : Pre cb ab m) :
  aB Sg 232 [I op,I mode,U m,U cs,U sl,U cb,U ab] (fun r=>r = .tup [ag (mh (dR op mode m cs sl cb ab)),B true]):=by
 have hok:=jG (op:=op) (mode:=mode) hm hs hd;have ht:=lI (mode:=mode) hm hs hd;obtain ⟨s0,sa,am⟩:=hs;obtain ⟨d0,db,bm⟩:=hd;have hle:=hm.le;have hp:=hm.pos;have hb:=De mode cs sl cb ab hmo ⟨s0,sa,by omega,d0,db,by omega⟩;have hf:=yF op sl ab m hm ho (by omega) am (by omega) bm;have ⟨a1,a2⟩:=mI (op:=op) (a:=sl) (b:=ab) (m:=m) (by omega) am (by omega) bm;have ⟨b1,b2⟩:=oJ (op:=op) (a:=sl) (b:=ab) (m:=m) (by omega) am (by omega) bm;obtain ⟨k1,k2,k3,k4,k5,k6,k7,k8,_⟩:=hok;obtain ⟨t0,t1,t2,t3,t4,t5,t6,t7,_⟩:=ht;unfold dR at *
 dsimp only at k1 k2 k3 k4 k5 k6 k7 k8;generalize aR mode cs sl cb ab=T at *
 generalize iD op sl ab m=fa at *
 generalize jy op sl ab m=fb at *
 have e1:0≤(m - ab) * cs∧(m - ab) * cs≤65535 * 65535:=⟨au (by omega) (by omega),aD (by omega) (by omega) (by omega) (by omega)⟩
 have hsum:(m - ab) * cs+sl * ab≤65535 * 65535:=by
  have h1:=aD (show m - ab≤m - ab by omega) sa s0 (by omega);have h2:(m - ab) * sl+sl * ab=m * sl:=by rw [Int.sub_mul,Int.mul_comm sl ab];omega
  have h3:m * sl≤65535 * 65535:=aD hle (by omega) (by omega) (by decide);omega
 have e2:0≤(m - ab) * cs * T.d:=au e1.1 (by omega);have e3:(m - ab) * cs * T.d+T.p≤65535 * 65535 * 4294836225:=by
  have h1:=aD hsum t6 (by omega) (by decide);rw [Int.add_mul] at h1;omega
 have e4:0≤cb * m∧cb * m≤65535 * 65535:=⟨au (by omega) (by omega),aD (by omega) (by omega) (by omega) (by omega)⟩
 have e5:0≤cb * m * T.d∧cb * m * T.d≤65535 * 65535 * 4294836225:=⟨au e4.1 (by omega),aD e4.2 (by omega) (by omega) (by omega)⟩
 have e6:0≤m * m∧m * m≤65535 * 65535:=⟨au (by omega) (by omega),aD (by omega) (by omega) (by omega) (by omega)⟩
 have e9:0≤fa * T.q∧fa * T.q≤65535 * 65535:=⟨au (by omega) (by omega),aD (by omega) (by omega) (by omega) (by omega)⟩
 have e10:T.p / 18446744073709551616=0∧T.p % 18446744073709551616=T.p:=by omega
 have w1:aB Sg 249 [cY ((m - ab) * cs * T.d+T.p % 18446744073709551616),cY fa] (fun r=>r = .b (ag (qE (((m - ab) * cs * T.d+T.p) * fa)))):=by rw [e10.2];exact mK ((m - ab) * cs * T.d+T.p) fa ⟨by omega,by omega⟩ ⟨by omega,by omega⟩
 have w2:=mK (cb * m * T.d) fb ⟨by omega,by omega⟩ ⟨by omega,by omega⟩;have eq:((m - ab) * cs * T.d+T.p) * fa+cb * m * T.d * fb=T.p * fa+(m - ab) * cs * fa * T.d+fb * cb * m * T.d:=by grind
 have w3:=wt (((m - ab) * cs * T.d+T.p) * fa) (cb * m * T.d * fb) (au (by omega) a1) (au e5.1 b1) (by rw [eq];omega);rw [eq] at w3;have g1:(m != 255 && m != 65535)=false:=by rcases hm.h with q|q <;> rw [q] <;> rfl
 have htt:True:=trivial;refine az Tryz.func232 [.cell 14 274, .tmp 15] ?_;repeat' (first|refine aj g1 ?_|refine aw ?_|refine an (fun K hK => ?_)|refine aa (hf) ?_|refine aa (hb) ?_|refine aa (w1) ?_|refine aa (w2) ?_|refine aa (w3) ?_|(refine aq hK ?_;try clear hK K))
 rfl
theorem xt (op mode m cs sl cb ab : Int) (hm : Full m) (ho : 1 ≤ op ∧ op ≤ 12) (hmo : 1 ≤ mode ∧ mode ≤ 12) (hs : Pre cs sl m) (hd : Pre cb ab m) :
  aB Sg 218 [I op,I mode,U m,U cs,U sl,U cb,U ab] (fun r=>r = .tup [U (dk op mode m cs sl cb ab),B true]):=by
 have hok:=jG (op:=op) (mode:=mode) hm hs hd;have hv:=PA op mode m cs sl cb ab hm ho hmo hs hd;have hh:=yx _ hok;have hl:=rv (op:=op) (mode:=mode) hm hs hd;have hl2:=rQ (op:=op) (a:=sl) (b:=ab) hm (by have:=hs.s0;have:=hs.sa;omega) hs.am (by have:=hd.s0;have:=hd.sa;omega) hd.am;have hn:=(mH hok).2.2;have hle:=hm.le;have htt:True:=trivial;have hw:IntKind.u16.wrap (hx (dR op mode m cs sl cb ab))=dk op mode m cs sl cb ab:=iX hn (by unfold dk at hl;omega);refine az Tryz.func218 [.tmp 14, .tmp 15] ?_;repeat' (first|refine aj htt ?_|refine aw ?_|refine an (fun K hK => ?_)|refine aa (hv) ?_|refine aa (hh) ?_|(refine aq hK ?_;try clear hK K))
 rw [hw]
end
section
attribute [local go_sem] qE mh
theorem CW (m:Int):aB Sg 247 [U m] (fun r=>r = .b (B (decide (m=255∨m=65535)))):=by
 refine az Tryz.func247 [.tmp 2] ?_;repeat' (refine aC ?_)
 refine ga ?_
 (try simp only [Bool.and_eq_true,Bool.or_eq_true,Bool.not_eq_true',Bool.not_eq_false',decide_eq_true_eq,decide_eq_false_iff_not,ge_iff_le,gt_iff_lt,beq_iff_eq,bne_iff_ne,ne_eq,Bool.or_eq_false_iff,Bool.and_eq_false_imp,Bool.not_true,Bool.not_false])
 try omega
theorem Mb (a b c d e f : Int) (ha : 0 ≤ a ∧ a ≤ 65535) (hb : 0 ≤ b ∧ b ≤ 65535) (hc : 0 ≤ c ∧ c ≤ 65535) (hd : 0 ≤ d ∧ d ≤ 65535) (he : 0 ≤ e ∧ e ≤ 65535) (hf : 0 ≤ f ∧ f ≤ 65535) :
  aB Sg 250 [U a,U b,U c,U d,U e,U f] (fun r=>r = .b (UQ (a * b+c * d+e * f))):=by
 have e1:0≤a * b∧a * b≤65535 * 65535:=⟨au ha.1 hb.1,aD ha.2 hb.2 hb.1 (by decide)⟩
 have e2:0≤c * d∧c * d≤65535 * 65535:=⟨au hc.1 hd.1,aD hc.2 hd.2 hd.1 (by decide)⟩
 have e3:0≤e * f∧e * f≤65535 * 65535:=⟨au he.1 hf.1,aD he.2 hf.2 hf.1 (by decide)⟩
 refine az Tryz.func250 [.tmp 12] ?_;repeat' (first|with_reducible exact cz|refine aC ?_)
theorem Bj (m a f acc b : Int) (hm : Full m) (ha : 0 ≤ a) (haf : a ≤ f) (hfm : f ≤ m) (h1 : 0 ≤ acc) (h2 : acc ≤ m) (h3 : 0 ≤ b) (h4 : b ≤ m) :
  aB Sg 230 [U m,U a,U f,U acc,U b] (fun r=>r = .tup [U (dU m a f acc b),B true]):=by
 have hle:=hm.le;have hp:=hm.pos;have hbd:=mS hm ha haf hfm h1 h2 h3 h4;have hu:=CW m;rw [show decide (m=255∨m=65535)=true from decide_eq_true hm.h] at hu;have g1:decide (a>f)=false:=decide_eq_false (by omega);have g2:decide (f>m)=false:=decide_eq_false (by omega);have g3:decide (acc>m)=false:=decide_eq_false (by omega);have g4:decide (b>m)=false:=decide_eq_false (by omega);have hs:=Mb (m - f) acc (f - a) b m a ⟨by omega,by omega⟩ ⟨h1,by omega⟩ ⟨by omega,by omega⟩ ⟨h3,by omega⟩ ⟨by omega,hle⟩ ⟨ha,by omega⟩;have e1:0≤(m - f) * acc∧(m - f) * acc≤65535 * 65535:=⟨au (by omega) (by omega),aD (by omega) (by omega) (by omega) (by omega)⟩
 have e2:0≤(f - a) * b∧(f - a) * b≤65535 * 65535:=⟨au (by omega) (by omega),aD (by omega) (by omega) (by omega) (by omega)⟩
 have e3:0≤m * a∧m * a≤65535 * 65535:=⟨au (by omega) (by omega),aD (by omega) (by omega) (by omega) (by omega)⟩
 have hh:=zZ ((m - f) * acc+(f - a) * b+m * a) m ⟨by omega,by omega⟩ ⟨by omega,by omega⟩;have hw:IntKind.u16.wrap (cn ((m - f) * acc+(f - a) * b+m * a) m)=dU m a f acc b:=iX hbd.1 (Int.le_trans hbd.2 hle);refine az Tryz.func230 [.tmp 10, .tmp 11] ?_;repeat' (first|refine aj (And.intro g1 (And.intro g2 (And.intro g3 g4))) ?_|refine aw ?_|refine an (fun K hK => ?_)|refine aa (hu) ?_|refine aa (hs) ?_|refine aa (hh) ?_|(refine aq hK ?_;try clear hK K))
 rw [hw]
theorem La (m a f acc : Int) (hm : Full m) (ha : 0 ≤ a) (haf : a ≤ f) (hfm : f ≤ m) (h1 : 0 ≤ acc) (h2 : acc ≤ m) :
  aB Sg 231 [U m,U a,U f,U acc] (fun r=>r = .tup [U (dU m a f acc 0),B true]):=by
 have h:=Bj m a f acc 0 hm ha haf hfm h1 h2 (Int.le_refl _) (Int.le_of_lt hm.pos);refine az Tryz.func231 [.tmp 8, .tmp 9] ?_;repeat' (first|with_reducible exact cz|refine an (fun K hK => ?_)|refine aa (h) ?_|refine aw ?_|(refine aq hK ?_;try clear hK K))
end
end Go.Proofs.YtdjmpacladhijaaGreatDoor
