/- Part of the proof: D1, T5, D3, EQ, T9, TE, P2, L2. -/
import Derived.Test.YtmfblbbemekkoaaGreatDoorM35
set_option linter.unusedSimpArgs false
set_option linter.unusedVariables false
set_option maxRecDepth 8000
namespace Go.Proofs.YtmfblbbemekkoaaGreatDoor
open Go Go.SL
theorem qD {r : Rect} : bZ r = false ↔ (-1073741824 ≤ r.x0 ∧ r.x0 ≤ 1073741824 ∧ -1073741824 ≤ r.y0 ∧ r.y0 ≤ 1073741824 ∧ -1073741824 ≤ r.x1 ∧ r.x1 ≤ 1073741824 ∧ -1073741824 ≤ r.y1 ∧ r.y1 ≤ 1073741824) ∧
  r.x0<r.x1∧r.y0<r.y1:=by
 simp only [bZ,mA,Bool.or_eq_false_iff,Bool.not_eq_eq_eq_not,Bool.not_false,decide_eq_true_eq,decide_eq_false_iff_not]
 omega
end Go.Proofs.YtmfblbbemekkoaaGreatDoor
namespace Go.Proofs.YtmfblbbemekkoaaGreatDoor
theorem yT {m:Int} {z:Op→Pixel × Int} {o:Op} {b:List Op} {st:List Lv}:jR m z (o :: b) st=jR m z b (jQ m z st o):=rfl
end Go.Proofs.YtmfblbbemekkoaaGreatDoor
set_option maxHeartbeats 1000000
set_option maxRecDepth 16000
namespace Go.Proofs.YtmfblbbemekkoaaGreatDoor
open Go Go.SL
open Go.RowKit (wrap64)
attribute [local go_sem] zn yG
def Sm (a b c d:Int) (k:Nat):Int:=[a,b,c,d].getD k 0
end Go.Proofs.YtmfblbbemekkoaaGreatDoor
set_option maxRecDepth 8000
set_option maxHeartbeats 2000000
namespace Go.Proofs.YtmfblbbemekkoaaGreatDoor
open Go Go.SL
section
variable {a b:List Op} (hk:∀ j,(aR a j).kind=(aR b j).kind)
include hk
theorem wC:∀ i,bD a i=bD b i
 | 0=>rfl
 | i+1=>by rw [bD,bD,wC i,hk i]
end
end Go.Proofs.YtmfblbbemekkoaaGreatDoor
set_option maxHeartbeats 1000000
namespace Go.Proofs.YtmfblbbemekkoaaGreatDoor
theorem Hm {ops:List Op} {i:Nat} (hi:i<ops.length):aR ops i ∈ ops:=by
 rw [aR,List.getD_eq_getElem?_getD,List.getElem?_eq_getElem hi];exact List.getElem_mem _
section
variable {s:Script} {m x y:Int}
end
end Go.Proofs.YtmfblbbemekkoaaGreatDoor
set_option maxRecDepth 8000
set_option maxHeartbeats 2000000
namespace Go.Proofs.YtmfblbbemekkoaaGreatDoor
open Go Go.SL
open Go.RowKit (wrap64)
theorem Hr {f g:Nat→Op} (h1:∀ a,(f a).isolated=(g a).isolated) (h2:∀ a,(f a).knockout=(g a).knockout) (l:List Nat):eC (l.map f)=eC (l.map g):=by
 by_cases h:l=[]
 ·subst h;rfl
 have hl:l.length - 1<l.length:=by
  have:0<l.length:=List.length_pos_iff.2 h
  omega
 have e:∀ k:Nat→Op,(l.map k).getD ((l.map k).length - 1) default=k (l.getD (l.length - 1) default):=fun k=>by
  rw [List.length_map,List.getD_eq_getElem?_getD,List.getD_eq_getElem?_getD,List.getElem?_map,List.getElem?_eq_getElem hl]
  rfl
 have e2:(l.map f).isEmpty=(l.map g).isEmpty:=by cases l <;> rfl
 rw [eC,eC,e,e,h1,h2,e2]
end Go.Proofs.YtmfblbbemekkoaaGreatDoor
set_option maxHeartbeats 1000000
namespace Go.Proofs.YtmfblbbemekkoaaGreatDoor
def ei (u v:Int) (o:Op):Op:=⟨o.kind,o.image,if o.kind=1 then o.x+u else o.x,if o.kind=1 then o.y+v else o.y,o.mask,if o.mask=0 then o.maskX else o.maskX+u,if o.mask=0 then o.maskY else o.maskY+v,o.opacity,o.operator,o.mode,o.isolated,o.knockout⟩
def cG (u v:Int) (s:Script):Script := { s with canvas:=⟨s.canvas.x0+u,s.canvas.y0+v,s.canvas.x1+u,s.canvas.y1+v⟩,ops:=s.ops.map (ei u v) }
def Nf (u v:Int) (t:Lv):Lv:=⟨ei u v t.op,t.acc,t.back⟩
theorem Hc (s:Script) (u v a b:Int) (o:Op):bd (cG u v s) (a+u) (b+v) (ei u v o)=bd s a b o:=by
 unfold bd
 refine Prod.ext ?_ ?_
 ·show (if o.kind=1∧0≤o.image∧o.image<s.images.length then eJ (gC s o.image) (a+u) (b+v) (ei u v o).x (ei u v o).y else aI)=(if o.kind=1∧0≤o.image∧o.image<s.images.length then eJ (gC s o.image) a b o.x o.y else aI)
  by_cases h:o.kind=1∧0≤o.image∧o.image<s.images.length
  ·rw [if_pos h,if_pos h,ji,ji]
   show eI _ (a+u - (if o.kind=1 then o.x+u else o.x)) (b+v - (if o.kind=1 then o.y+v else o.y))=_
   rw [if_pos h.1,if_pos h.1,show a+u - (o.x+u)=a - o.x by omega,show b+v - (o.y+v)=b - o.y by omega]
  ·rw [if_neg h,if_neg h]
 ·show (if 1≤o.mask∧o.mask≤s.images.length then (eJ (gC s (o.mask - 1)) (a+u) (b+v) (ei u v o).maskX (ei u v o).maskY).a else 0)=(if 1≤o.mask∧o.mask≤s.images.length then (eJ (gC s (o.mask - 1)) a b o.maskX o.maskY).a else 0)
  by_cases h:1≤o.mask∧o.mask≤s.images.length
  ·rw [if_pos h,if_pos h,ji,ji]
   show (eI _ (a+u - (if o.mask=0 then o.maskX else o.maskX+u)) (b+v - (if o.mask=0 then o.maskY else o.maskY+v))).a=_
   rw [if_neg (by omega),if_neg (by omega),show a+u - (o.maskX+u)=a - o.maskX by omega,show b+v - (o.maskY+v)=b - o.maskY by omega]
  ·rw [if_neg h,if_neg h]
theorem Ed {m u v:Int} {z z':Op→Pixel × Int} (h:∀ o,z' (ei u v o)=z o) (st:List Lv) (o:Op):jQ m z' (st.map (Nf u v)) (ei u v o)=(jQ m z st o).map (Nf u v):=by
 cases st with
 | nil=>rfl
 | cons t r =>
  unfold jQ
  rw [List.map_cons]
  dsimp only
  rw [h o]
  show (if o.kind=1 then _ else if o.kind=2 then _ else _)=_
  by_cases h1:o.kind=1
  ·rw [if_pos h1,if_pos h1];rfl
  rw [if_neg h1,if_neg h1]
  by_cases h2:o.kind=2
  ·rw [if_pos h2,if_pos h2];rfl
  rw [if_neg h2,if_neg h2]
  cases r with
  | nil=>rfl
  | cons w r =>
   rw [List.map_cons]
   show bJ m (ei u v t.op) (ax m (ei u v t.op) (aU t.acc t.back m) (z' (ei u v t.op)).2) (Nf u v w) :: r.map (Nf u v)=_
   rw [h t.op];rfl
theorem Aw {m u v:Int} {z z':Op→Pixel × Int} (h:∀ o,z' (ei u v o)=z o):∀ (ops:List Op) (st:List Lv),jR m z' (ops.map (ei u v)) (st.map (Nf u v))=(jR m z ops st).map (Nf u v)
 | [],st=>rfl
 | o :: ops,st=>by
  rw [List.map_cons,yT,yT,Ed h]
  exact Aw h ops _
theorem Bf (s:Script) (u v a b:Int):cK (cG u v s) (a+u) (b+v)=cK s a b:=by
 have hr:=Aw (m:=bo s.bits) (Hc s u v a b) s.ops [cz]
 have hb:[cz].map (Nf u v)=[cz]:=rfl
 rw [hb] at hr
 show Nc (bo s.bits) (jR (bo s.bits) (bd (cG u v s) (a+u) (b+v)) (s.ops.map (ei u v)) [cz])=Nc (bo s.bits) (jR (bo s.bits) (bd s a b) s.ops [cz])
 rw [hr]
 cases jR (bo s.bits) (bd s a b) s.ops [cz] with
 | nil=>rfl
 | cons t r=>rfl
def Cg (o:Op):Prop:=(-1000≤o.x∧o.x≤1000)∧(-1000≤o.y∧o.y≤1000)∧(-1000≤o.maskX∧o.maskX≤1000)∧(-1000≤o.maskY∧o.maskY≤1000)
theorem HZ {b u v:Int} {n:Nat} {o:Op} {l l':List Op} (hu : -1000≤u∧u≤1000) (hv : -1000≤v∧v≤1000) (ht:Cg o) (hk:eC l'=eC l) (hl:l'.length=l.length) (h:ff b n o l=0):ff b n (ei u v o) l'=0:=by
 rw [bP] at h ⊢
 rw [hk,hl]
 obtain ⟨a1,a2,a3,a4⟩:=h
 obtain ⟨t1,t2,t3,t4⟩:=ht
 refine ⟨a1, ?_,a3,fun k3 => ?_⟩
 ·unfold eV at a2 ⊢
  unfold ei
  dsimp only
  by_cases k3:o.kind=3
  ·rw [if_pos k3] at a2 ⊢
   rw [decide_eq_true_eq] at a2 ⊢
   rw [if_neg (by omega),if_neg (by omega),if_pos a2.2.2.2.1,if_pos a2.2.2.2.1]
   exact a2
  ·rw [if_neg k3] at a2 ⊢
   by_cases c1:o.kind=1∧(o.isolated=true∨o.knockout=true)
   ·rw [if_pos c1] at a2;cases a2
   rw [if_neg c1] at a2 ⊢
   by_cases c2:o.kind=2∧(o.image≠0∨o.x≠0∨o.y≠0)
   ·rw [if_pos c2] at a2;cases a2
   rw [if_neg c2] at a2
   rw [if_neg ?_]
   ·rw [decide_eq_true_eq] at a2 ⊢
    by_cases h0:o.mask=0
    ·rw [if_pos h0,if_pos h0];exact a2
    ·exact .inl h0
   ·rintro ⟨q1,q2⟩
    rw [if_neg (by omega),if_neg (by omega)] at q2
    exact c2 ⟨q1,q2⟩
 ·obtain ⟨q1,q2,q3⟩:=a4 k3
  refine ⟨q1, ?_,q3⟩
  simp only [bt,List.all_cons,List.all_nil,Bool.and_true,Bool.and_eq_true,decide_eq_true_eq,ei]
  refine ⟨?_, ?_, ?_, ?_⟩ <;> (split <;> omega)
section
variable {s:Script} {u v:Int}
theorem Cl (s:Script) (u v:Int) {i:Nat} (hi:i<s.ops.length):aR (cG u v s).ops i=ei u v (aR s.ops i):=by
 unfold aR cG
 dsimp only
 rw [List.getD_eq_getElem?_getD,List.getD_eq_getElem?_getD,List.getElem?_map,List.getElem?_eq_getElem hi];rfl
theorem pS (s:Script) (u v:Int) (i:Nat):(aR (cG u v s).ops i).kind=(aR s.ops i).kind∧(aR (cG u v s).ops i).isolated=(aR s.ops i).isolated∧(aR (cG u v s).ops i).knockout=(aR s.ops i).knockout:=by
 rcases Nat.lt_or_ge i s.ops.length with h|h
 ·rw [Cl s u v h];exact ⟨rfl,rfl,rfl⟩
 ·have e:∀ l:List Op,l.length≤i→aR l i=default:=fun l hl=>by
   unfold aR
   rw [List.getD_eq_getElem?_getD,List.getElem?_eq_none hl];rfl
  rw [e _ h,e _ (by simp [cG];exact h)];exact ⟨rfl,rfl,rfl⟩
theorem BG (hc:Small s.canvas) (hu : -1000≤u∧u≤1000) (hv : -1000≤v∧v≤1000) (h:bA s=0):bA (cG u v s)=0:=by
 have he:=iI hc
 obtain ⟨h1,h2,h3,h4,h5,h6⟩:=hc
 have he2:bZ (cG u v s).canvas=false:=by
  rw [qD]
  unfold cG
  dsimp only
  omega
 have hw:(cG u v s).canvas.x1 - (cG u v s).canvas.x0=s.canvas.x1 - s.canvas.x0:=by unfold cG;dsimp only;omega
 have hh:(cG u v s).canvas.y1 - (cG u v s).canvas.y0=s.canvas.y1 - s.canvas.y0:=by unfold cG;dsimp only;omega
 have ht:bU (cG u v s).canvas s.tileW s.tileH=bU s.canvas s.tileW s.tileH:=by
  unfold bU
  rw [he,he2,hw,hh]
 have hx:dD (cG u v s).canvas s.tileW s.tileH=dD s.canvas s.tileW s.tileH:=by unfold dD;rw [ht,hw]
 have hy:dA (cG u v s).canvas s.tileW s.tileH=dA s.canvas s.tileW s.tileH:=by unfold dA;rw [ht,hh]
 have ha:gL (cG u v s).canvas=gL s.canvas:=by unfold gL;rw [he,he2,hw,hh]
 have hl:(cG u v s).ops.length=s.ops.length:=by simp [cG]
 have hwi:bt 1048576 [(cG u v s).canvas.x0,(cG u v s).canvas.y0]=true:=by
  simp only [bt,List.all_cons,List.all_nil,Bool.and_true,Bool.and_eq_true,decide_eq_true_eq,cG]
  omega
 have hwi0:bt 1048576 [s.canvas.x0,s.canvas.y0]=true:=by
  simp only [bt,List.all_cons,List.all_nil,Bool.and_true,Bool.and_eq_true,decide_eq_true_eq]
  omega
 unfold bA at h ⊢
 rw [hl,ha,he2,hwi]
 rw [he,hwi0] at h
 show (if ¬ (s.bits=8∨s.bits=16) then (1:Int) else if false=true∨16777216<gL s.canvas∨true=false then 2 else if bU (cG u v s).canvas s.tileW s.tileH=false then 3 else if fK s.order (dD (cG u v s).canvas s.tileW s.tileH * dA (cG u v s).canvas s.tileW s.tileH)=false then 4 else if 64<s.images.length∨4096<s.ops.length then 5 else 0)=0
 rw [ht,hx,hy]
 exact h
theorem DX (V:VOps s) (hc:Small s.canvas) (hu : -1000≤u∧u≤1000) (hv : -1000≤v∧v≤1000) (ht:∀ o ∈ s.ops,Cg o):VOps (cG u v s):=by
 have hl:(cG u v s).ops.length=s.ops.length:=by simp [cG]
 have hk:∀ i,(aR (cG u v s).ops i).kind=(aR s.ops i).kind:=fun i=>(pS s u v i).1
 have hs:=fun i=>wC hk i
 have W:=V.wf
 refine ⟨⟨fun i hi => ?_,fun i hi h3 => ?_, ?_⟩,fun i hi => ?_,V.imgs,by rw [hl];exact V.cnt,BG hc hu hv V.frame⟩
 ·rw [hk];exact W.kinds i (by omega)
 ·rw [hs];rw [hk] at h3;exact W.pops i (by omega) h3
 ·rw [hs,hl];exact W.fin
 ·rw [hs,Cl s u v (by omega)]
  exact HZ hu hv (ht _ (Hm (by omega))) (Hr (fun a=>(pS s u v a).2.1) (fun a=>(pS s u v a).2.2) _) (by simp) (V.ok i (by omega))
theorem IE {m x y:Int} (C:Pt s m x y) (hc:Small s.canvas) (hu : -1000≤u∧u≤1000) (hv : -1000≤v∧v≤1000) (ht:∀ o ∈ s.ops,Cg o):Pt (cG u v s) m (x+u) (y+v):=by
 have hc2:=hc
 obtain ⟨h1,h2,h3,h4,h5,h6⟩:=hc2
 refine ⟨DX C.V hc hu hv ht,C.hm,C.mx,C.im,fun o ho => ?_, ?_, ?_⟩
 ·obtain ⟨q,hq,rfl⟩:=List.mem_map.1 ho
  exact C.op q hq
 ·rw [qD]
  unfold cG
  dsimp only
  omega
 ·have:=C.xy
  unfold OF at this ⊢
  unfold cG
  dsimp only
  omega
end
end Go.Proofs.YtmfblbbemekkoaaGreatDoor
set_option maxHeartbeats 4000000
set_option maxRecDepth 16000
namespace Go.Proofs.YtmfblbbemekkoaaGreatDoor
open Go Go.SL
open Go.RowKit (wrap64)
attribute [local go_sem] Int.toNat_natCast
theorem EV (r : Rect) (u v : Int) (hr : Small r) (hu : -1000 ≤ u ∧ u ≤ 1000) (hv : -1000 ≤ v ∧ v ≤ 1000) :
  aC Sg 32 [ag (fg r),I u,I v] (fun q=>q = .b (ag (fg ⟨r.x0+u,r.y0+v,r.x1+u,r.y1+v⟩))):=by
 have h1:=fS r
 have h2:=nK ⟨r.x0+u,r.y0+v,r.x1+u,r.y1+v⟩
 rw [iI hr] at h1
 obtain ⟨x0,x1,y0,y1,hw,hh⟩:=hr
 have e:bZ ⟨r.x0+u,r.y0+v,r.x1+u,r.y1+v⟩=false:=by rw [qD];dsimp only;omega
 have e2:gq ⟨r.x0+u,r.y0+v,r.x1+u,r.y1+v⟩=⟨r.x0+u,r.y0+v,r.x1+u,r.y1+v⟩:=by rw [gq,e,if_neg (by decide)]
 rw [e2] at h2
 have g1:decide (u < -4294967296)=false:=decide_eq_false (by omega)
 have g2:decide (u>4294967296)=false:=decide_eq_false (by omega)
 have g3:decide (v < -4294967296)=false:=decide_eq_false (by omega)
 have g4:decide (v>4294967296)=false:=decide_eq_false (by omega)
 refine aA Tryz.func32 [.cell 6 33] ?_
 repeat' (first|refine aj (And.intro g1 (And.intro g2 (And.intro g3 g4))) ?_|refine an ?_|((first|refine ai (fun K hK => ?_)|refine ae (h1) ?_|refine ae (h2) ?_);and_intros;(all_goals first|(refine hK _ ?_;clear hK K)|exact aa|skip))|(refine ak ?_;(try clear hB KB);(try clear hK K)))
 all_goals (try rfl)
def Ma (u v:Int) (l:List Op) (i:Nat):Nat→Nat→PV:=fun a j=>if a<i then (cT (ei u v (l.getD a default))).getD j .any else (cT (l.getD a default)).getD j .any
theorem vd {u v:Int} {l:List Op} {i j:Nat}:Ma u v l i i j=(cT (l.getD i default)).getD j .any:=if_neg (Nat.lt_irrefl i)
theorem Ip {u v:Int} {l:List Op} {a j:Nat} (ha:a<l.length):Ma u v l l.length a j=bj cT (l.map (ei u v)) a j:=by
 have e:(l.map (ei u v)).getD a default=ei u v (l.getD a default):=by
  simp [List.getD_eq_getElem?_getD,List.getElem?_map,List.getElem?_eq_getElem ha]
 unfold Ma bj
 rw [if_pos ha,e]
attribute [local go_sem] vd
theorem Nh (c:Scene):∀ o ∈ (au c).ops,Cg o:=fun o ho=>by
 have h:=(lV c).tame o ho
 have h1:=h.x
 have h2:=h.y
 have h3:=h.mx
 have h4:=h.my
 exact ⟨by omega,by omega,by omega,by omega⟩
theorem BP (c:Scene) (hc:SceneOk c) (dx dy x y:Int):aC Sg 7 [ag (dk c),I dx,I dy,I x,I y] (fun r=>r = .b (B true)):=by
 have ht:True:=trivial
 have hg:=lF c hc
 have hO:=Gt c
 have E:=hO.ev
 have hsm:Small (au c).canvas:=bK c
 have hin:=CB hsm x y
 have hp:=pd (au c).canvas x y hsm
 have C:=hO.pt (x:=Ei (au c).canvas x) (y:=Ez (au c).canvas y) hin
 have htm:=Nh c
 have hcnt:=hO.V.cnt
 generalize Ei (au c).canvas x=p at *
 generalize Ez (au c).canvas y=q at *
 have m1:=bN dx 2001 (by omega) (by omega)
 have m2:=bN dy 2001 (by omega) (by omega)
 have a1:=Int.emod_nonneg dx (show (2001:Int)≠0 by omega)
 have a2:=Int.emod_lt_of_pos dx (show (0:Int)<2001 by omega)
 have a3:=Int.emod_nonneg dy (show (2001:Int)≠0 by omega)
 have a4:=Int.emod_lt_of_pos dy (show (0:Int)<2001 by omega)
 generalize dx % 2001=k at *
 generalize dy % 2001=l at *
 have hu : -1000≤k - 1000∧k - 1000≤1000:=by omega
 have hv : -1000≤l - 1000∧l - 1000≤1000:=by omega
 have htr:=EV (au c).canvas (k - 1000) (l - 1000) hsm hu hv
 have D:=IE C hsm hu hv htm
 have E2:EvOk (cG (k - 1000) (l - 1000) (au c)):=⟨⟨E.len.order,E.len.images,by show (List.map _ _).length≤_;rw [List.length_map];exact E.len.ops⟩,D.op,fun _ m hm=>E.im hO.V.frame m hm⟩
 have hmv:=Bf (au c) (k - 1000) (l - 1000) p q
 have hpq : -100≤p∧p≤100 ∧ -100≤q∧q≤100:=by
  obtain ⟨b1,b2,b3,b4,b5,b6⟩:=hsm
  obtain ⟨i1,i2,i3,i4⟩:=hin
  have hcx : -6≤(aq c).x0∧(aq c).x0≤6 ∧ -6≤(aq c).y0∧(aq c).y0≤6:=by
   unfold aq
   dsimp only
   omega
  have i1:(aq c).x0≤p:=i1
  have i2:p<(aq c).x1:=i2
  have i3:(aq c).y0≤q:=i3
  have i4:q<(aq c).y1:=i4
  have b5:1≤(aq c).x1 - (aq c).x0∧(aq c).x1 - (aq c).x0≤5:=b5
  have b6:1≤(aq c).y1 - (aq c).y0∧(aq c).y1 - (aq c).y0≤4:=b6
  omega
 have h1:=gF (au c) p q E ⟨by omega,by omega⟩ ⟨by omega,by omega⟩
 have h2:=gF (cG (k - 1000) (l - 1000) (au c)) (p+(k - 1000)) (q+(l - 1000)) E2 ⟨by omega,by omega⟩ ⟨by omega,by omega⟩
 rw [(oR C).1,(oR C).2.1] at h1
 rw [(oR D).1,(oR D).2.1,hmv] at h2
 have haw:=mn
 generalize cK (au c) p q=w at *
 have e0:∀ n:Int,(n != 0) = !(n == 0):=fun n=>rfl
 generalize au c=s at *
 refine aA Tryz.func7 [.tmp 10] ?_
 repeat' (first|refine an ?_|((first|refine ai (fun K hK => ?_)|refine ae (hg) ?_|refine ae (m1) ?_|refine ae (m2) ?_|refine ae (htr) ?_);and_intros;(all_goals first|(refine hK _ ?_;clear hK K)|exact aa|skip)))
 refine aO (X:=Nat) (fun i=>aQ [(3, .b (I x)),(4, .b (I y)),(10, .b (B false)),(11, .b (.c (.ptr 1 0))),(12, .b (I (k - 1000))),(13, .b (I (l - 1000))),(14, .b (.c (.ptr 2 0))),(15, .b (I i))]
  [(0, .fix ((dk c).map CV.p)),(1, .fix ((aE s).map CV.p)),(2, .fix [.p (PI s.bits), .p (PI (s.canvas.x0+(k - 1000))), .p (PI (s.canvas.y0+(l - 1000))), .p (PI (s.canvas.x1+(k - 1000))), .p (PI (s.canvas.y1+(l - 1000))), .p (PI s.tileW), .p (PI s.tileH), .p (dQ s.order), .p (sC s.images), .own 3 s.ops.length]),
   (3, .arr 29 12 s.ops.length (Ma (k - 1000) (l - 1000) s.ops i))] 4) (fun i=>i≤s.ops.length) (fun i=>s.ops.length - i) 0 ?_ ?_ ?_
 ·omega
 ·refine az [(1,some 1),(2,some 2),(3,some 3)] ?_ ?_
  and_intros
  all_goals first|exact ao|skip
  all_goals exact .inr fun a ha j hj=>PV.le_refl _
 intro i hi
 rcases Nat.lt_or_ge i s.ops.length with h|h
 ·have hmem:s.ops.getD i default ∈ s.ops:=by
   rw [List.getD_eq_getElem?_getD,List.getElem?_eq_getElem h];exact List.getElem_mem _
  obtain ⟨⟨t1,t2⟩,⟨t3,t4⟩,⟨t5,t6⟩,⟨t7,t8⟩⟩:=htm _ hmem
  have key:∀ a,a<s.ops.length→a≠i→∀ j,Ma (k - 1000) (l - 1000) s.ops i a j=Ma (k - 1000) (l - 1000) s.ops (i+1) a j:=fun a ha hne j=>by
   unfold Ma
   by_cases q1:a<i
   ·rw [if_pos q1,if_pos (by omega)]
   ·rw [if_neg q1,if_neg (by omega)]
  have here:∀ j,Ma (k - 1000) (l - 1000) s.ops (i+1) i j=(cT (ei (k - 1000) (l - 1000) (s.ops.getD i default))).getD j .any:=fun j=>if_pos (Nat.lt_succ_self i)
  have g0:decide ((i:Int)<s.ops.length)=true:=decide_eq_true (by omega)
  by_cases hk:(s.ops.getD i default).kind=1
  ·by_cases hm:(s.ops.getD i default).mask=0
   ·repeat' (first|refine aj (And.intro g0 (And.intro hk hm)) ?_|refine an ?_|(refine ai (fun K hK => ?_);and_intros;(all_goals first|(refine hK _ ?_;clear hK K)|exact aa|skip)))
    rw [ah]
    refine aw (i+1) ?_ (by omega) (by omega)
    refine az [(1,some 1),(2,some 2),(3,some 3)] ?_ ?_
    and_intros
    all_goals first|exact ao|skip
    all_goals
     refine .inr fun a ha j hj => ?_
     by_cases hai:a=i
     ·subst hai
      rw [here]
      unfold ei
      rw [if_pos hk,if_pos hk,if_pos hm,if_pos hm]
      simp only [if_true,vd]
      have hivl:j=0∨j=1∨j=2∨j=3∨j=4∨j=5∨j=6∨j=7∨j=8∨j=9∨j=10∨j=11:=by omega
      rcases hivl with rfl|rfl|rfl|rfl|rfl|rfl|rfl|rfl|rfl|rfl|rfl|rfl <;> exact PV.le_refl _
     ·(try simp only [if_neg hai])
      rw [key a ha hai]
      exact PV.le_refl _
   ·have hm2:((s.ops.getD i default).mask != 0)=true:=bne_iff_ne.2 hm
    repeat' (first|refine aj (And.intro g0 (And.intro hk hm2)) ?_|refine an ?_|(refine ai (fun K hK => ?_);and_intros;(all_goals first|(refine hK _ ?_;clear hK K)|exact aa|skip)))
    rw [ah]
    refine aw (i+1) ?_ (by omega) (by omega)
    refine az [(1,some 1),(2,some 2),(3,some 3)] ?_ ?_
    and_intros
    all_goals first|exact ao|skip
    all_goals
     refine .inr fun a ha j hj => ?_
     by_cases hai:a=i
     ·subst hai
      rw [here]
      unfold ei
      rw [if_pos hk,if_pos hk,if_neg hm,if_neg hm]
      simp only [if_true,vd]
      have hivl:j=0∨j=1∨j=2∨j=3∨j=4∨j=5∨j=6∨j=7∨j=8∨j=9∨j=10∨j=11:=by omega
      rcases hivl with rfl|rfl|rfl|rfl|rfl|rfl|rfl|rfl|rfl|rfl|rfl|rfl <;> exact PV.le_refl _
     ·(try simp only [if_neg hai])
      rw [key a ha hai]
      exact PV.le_refl _
  ·have hk2:((s.ops.getD i default).kind == 1)=false:=beq_eq_false_iff_ne.2 hk
   by_cases hm:(s.ops.getD i default).mask=0
   ·repeat' (first|refine aj (And.intro g0 (And.intro hk2 hm)) ?_|refine an ?_|(refine ai (fun K hK => ?_);and_intros;(all_goals first|(refine hK _ ?_;clear hK K)|exact aa|skip)))
    rw [ah]
    refine aw (i+1) ?_ (by omega) (by omega)
    refine az [(1,some 1),(2,some 2),(3,some 3)] ?_ ?_
    and_intros
    all_goals first|exact ao|skip
    all_goals
     refine .inr fun a ha j hj => ?_
     by_cases hai:a=i
     ·subst hai
      rw [here]
      unfold ei
      rw [if_neg hk,if_neg hk,if_pos hm,if_pos hm]
      simp only [if_true,vd]
      have hivl:j=0∨j=1∨j=2∨j=3∨j=4∨j=5∨j=6∨j=7∨j=8∨j=9∨j=10∨j=11:=by omega
      rcases hivl with rfl|rfl|rfl|rfl|rfl|rfl|rfl|rfl|rfl|rfl|rfl|rfl <;> exact PV.le_refl _
     ·(try simp only [if_neg hai])
      rw [key a ha hai]
      exact PV.le_refl _
   ·have hm2:((s.ops.getD i default).mask != 0)=true:=bne_iff_ne.2 hm
    repeat' (first|refine aj (And.intro g0 (And.intro hk2 hm2)) ?_|refine an ?_|(refine ai (fun K hK => ?_);and_intros;(all_goals first|(refine hK _ ?_;clear hK K)|exact aa|skip)))
    rw [ah]
    refine aw (i+1) ?_ (by omega) (by omega)
    refine az [(1,some 1),(2,some 2),(3,some 3)] ?_ ?_
    and_intros
    all_goals first|exact ao|skip
    all_goals
     refine .inr fun a ha j hj => ?_
     by_cases hai:a=i
     ·subst hai
      rw [here]
      unfold ei
      rw [if_neg hk,if_neg hk,if_neg hm,if_neg hm]
      simp only [if_true,vd]
      have hivl:j=0∨j=1∨j=2∨j=3∨j=4∨j=5∨j=6∨j=7∨j=8∨j=9∨j=10∨j=11:=by omega
      rcases hivl with rfl|rfl|rfl|rfl|rfl|rfl|rfl|rfl|rfl|rfl|rfl|rfl <;> exact PV.le_refl _
     ·(try simp only [if_neg hai])
      rw [key a ha hai]
      exact PV.le_refl _
 ·have g0:decide ((i:Int)<s.ops.length)=false:=decide_eq_false (by omega)
  have hi2:i=s.ops.length:=by omega
  subst hi2
  repeat' (first|refine aj g0 ?_|refine an ?_|((with_reducible refine aT (id:=15) (fun K hW => ?_));(try simp (maxSteps:=999999)(disch:=omega) only [go_sem]);and_intros;(all_goals first|(refine hK _ ?_;clear hK K)|exact aa|skip))|((first|refine ai (fun K hK => ?_)|refine ae (hp) ?_);and_intros;(all_goals first|(refine hK _ ?_;clear hK K)|exact aa|skip)))
  refine hW _ (aQ [(3, .b (I x)),(4, .b (I y)),(10, .b (B false)),(11, .b (.c (.ptr 1 0))),(12, .b (I (k - 1000))),(13, .b (I (l - 1000))),(14, .b (.c (.ptr 2 0))),(16, .b (I p)),(17, .b (I q))]
   [(1, .fix ((aE s).map CV.p)),(2, .fix ((aE (cG (k - 1000) (l - 1000) s)).map CV.p))] 3) ?_ ?_
  ·refine az [(1,some 1),(2,some 2)] ?_ ?_
   and_intros
   all_goals first|exact ao|skip
   all_goals first
    | (show s.ops.length=(List.map _ _).length;rw [List.length_map])
    | (refine fun a ha j hj => ?_;rw [Ip ha];exact PV.le_refl _)
  clear hW
  repeat' (first|((first|refine ai (fun K hK => ?_)|refine ae (h1) ?_|refine ae (h2) ?_|refine ae (haw) ?_);and_intros;(all_goals first|(refine hK _ ?_;clear hK K)|exact aa|skip))|(refine ak ?_;(try clear hB KB);(try clear hK K)))
  refine congrArg (fun b=>SV.b (B b)) (?_:_=true)
  simp only [beq_self_eq_true,Bool.and_self,Bool.true_and,Bool.and_true]
end Go.Proofs.YtmfblbbemekkoaaGreatDoor
