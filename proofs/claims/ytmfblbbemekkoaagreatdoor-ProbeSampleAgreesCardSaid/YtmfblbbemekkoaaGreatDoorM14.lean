/- Part of the proof: FM, FL, FO, D4, D3. -/
import Derived.Test.YtmfblbbemekkoaaGreatDoorM7
import Derived.Test.YtmfblbbemekkoaaGreatDoorM13
set_option linter.unusedSimpArgs false
set_option linter.unusedVariables false
set_option maxRecDepth 8000
namespace Go.Proofs.YtmfblbbemekkoaaGreatDoor
open Go Go.SL
open Go.RowKit (wrap64)
def eG:Op:=⟨3,0,0,0,0,0,0,0,0,0,false,false⟩
def aq (s:Scene):Rect:=⟨s.x % 13 - 6,s.y % 13 - 6,s.x % 13 - 6+(1+s.w % 5),s.y % 13 - 6+(1+s.h % 4)⟩
def bI (s:Scene):Int:=1+s.tileW % (1+s.w % 5)
def bF (s:Scene):Int:=1+s.tileH % (1+s.h % 4)
def aS (s:Scene):List Image:=(s.pics.take 4).map fun p=>iv p (aq s) (bO s.bits)
def aJ (s:Scene):List Image:=if (aS s).length=0 then [jf (1+s.w % 5) (1+s.h % 4) ⟨bO s.bits,0,0,bO s.bits,bO s.bits⟩] else aS s
def jd (n:Int) (c:Rect) (m:Int) (st:List Op × List Op) (r:Raw):List Op × List Op :=
 if r.kind % 8=0∧0<st.2.length then (st.1 ++ [eG],st.2.dropLast)
 else (st.1 ++ [kz r (decide (r.kind % 8<3)) n c.x0 c.y0 (eC st.2) m],if r.kind % 8<3 then st.2 ++ [kz r (decide (r.kind % 8<3)) n c.x0 c.y0 (eC st.2) m] else st.2)
def oe (s:Scene):List Op × List Op:=(s.ops.take 9).foldl (jd (aJ s).length (aq s) (bO s.bits)) ([],[])
def au (s:Scene):Script :=
 { bits:=if bO s.bits>255 then 16 else 8,canvas:=aq s,tileW:=bI s,tileH:=bF s,order:=mH s.order (dD (aq s) (bI s) (bF s) * dA (aq s) (bI s) (bF s)),images:=aJ s,ops:=(oe s).1 ++ List.replicate (oe s).2.length eG }
structure SceneOk (s:Scene):Prop where
 bits:i64 s.bits
 x:i64 s.x
 y:i64 s.y
 w:i64 s.w
 h:i64 s.h
 tileW:i64 s.tileW
 tileH:i64 s.tileH
 order:s.order.length≤4611686018427387904
 pics:s.pics.length≤4611686018427387904
 ops:s.ops.length≤4611686018427387904
 pic:∀ i,i<s.pics.length→PicOk (s.pics.getD i default)
 op:∀ i,i<s.ops.length→RawOk (s.ops.getD i default)
theorem bK (s:Scene):Small (aq s):=by
 unfold aq
 exact ⟨by dsimp only;omega,by dsimp only;omega,by dsimp only;omega,by dsimp only;omega,⟨by dsimp only;omega,by dsimp only;omega⟩,⟨by dsimp only;omega,by dsimp only;omega⟩⟩
theorem lL (n:Int):bO n=255∨bO n=65535:=by unfold bO;split <;> omega
end Go.Proofs.YtmfblbbemekkoaaGreatDoor
set_option maxRecDepth 8000
namespace Go.Proofs.YtmfblbbemekkoaaGreatDoor
open Go Go.SL
theorem vO {l:List Int} {i j:Nat} {hi:i<l.length} {hj:j<l.length} (h:l.Nodup):l[i]=l[j]↔i=j:=by
 refine ⟨fun e => ?_,fun e=>by subst e;rfl⟩
 have hp:=List.pairwise_iff_getElem.1 h
 rcases Nat.lt_trichotomy i j with q|q|q
 ·exact absurd e (hp i j hi hj q)
 ·exact q
 ·exact absurd e.symm (hp j i hj hi q)
theorem pR {l:List Int}:∀ (k i:Nat) (rest:List Int),rest.length=k→rest.Nodup→(iq l k i rest).length=k∧(iq l k i rest).Nodup∧∀ v ∈ iq l k i rest,v ∈ rest
 | 0,i,rest,_,_=>⟨rfl,List.nodup_nil,fun v hv=>by simp [iq] at hv⟩
 | k+1,i,rest,hl,hn=>by
  have h1:=Int.emod_nonneg (zt l i) (show (rest.length:Int)≠0 by omega)
  have h2:=Int.emod_lt_of_pos (zt l i) (show (0:Int)<rest.length by omega)
  have h3:(zt l i % rest.length).toNat<rest.length:=by omega
  obtain ⟨a,b,c⟩:=pR (l:=l) k (i+1) (rest.eraseIdx (zt l i % rest.length).toNat) (by rw [List.length_eraseIdx,if_pos h3];omega) (List.Pairwise.sublist (List.eraseIdx_sublist ..) hn)
  have hg:rest.getD (zt l i % rest.length).toNat 0=rest[(zt l i % rest.length).toNat]:=by
   rw [List.getD_eq_getElem?_getD,List.getElem?_eq_getElem h3];rfl
  refine ⟨by simp only [iq,List.length_cons,a], ?_,fun v hv => ?_⟩
  ·simp only [iq]
   refine List.nodup_cons.2 ⟨fun hm => ?_,b⟩
   have:=c _ hm
   rw [List.mem_eraseIdx_iff_getElem] at this
   obtain ⟨j,hj,hne,he⟩:=this
   rw [hg] at he
   exact hne ((vO hn).1 he)
  ·simp only [iq] at hv
   rcases List.mem_cons.1 hv with rfl|hv
   ·rw [hg];exact List.getElem_mem _
   ·exact List.mem_of_mem_eraseIdx (c v hv)
theorem lS (n:Nat):(nW n).Nodup:=by
 unfold nW
 refine List.Pairwise.map _ (fun a b h => ?_) List.nodup_range
 intro e
 exact h (by omega)
theorem GL {x:List Int} {n:Int} {i:Nat} (hi:i<x.length) (hn:x.Nodup) (hm:∀ v ∈ x,0≤v∧v<n):mG x n i=true:=by
 have hg:x.getD i 0=x[i]:=by rw [List.getD_eq_getElem?_getD,List.getElem?_eq_getElem hi];rfl
 rw [mG,hg,decide_eq_true (hm _ (List.getElem_mem hi)),Bool.true_and,Bool.not_eq_true',List.contains_eq_mem,decide_eq_false_iff_not]
 intro h
 obtain ⟨j,hj,he⟩:=List.getElem_of_mem h
 rw [List.getElem_take] at he
 rw [List.length_take] at hj
 have:=(vO hn).1 he
 omega
theorem Hw {l:List Int} {n:Int} (h0:0≤n) (h1:n≤64):fK (mH l n) n=true:=by
 have hk:∀ x:List Int,x.length=n.toNat→x.Nodup→(∀ v ∈ x,v ∈ nW n.toNat)→(List.range n.toNat).all (mG x n)=true:=fun x hl hn hm=>by
  rw [List.all_eq_true]
  intro i hi
  refine GL (by rw [hl];exact List.mem_range.1 hi) hn fun v hv => ?_
  have:=hm v hv
  simp only [nW,List.mem_map,List.mem_range] at this
  obtain ⟨a,ha,rfl⟩:=this
  omega
 unfold mH
 split
 ·rw [fK,decide_eq_true ⟨h0,by omega, .inl rfl⟩,Bool.true_and]
  exact hk _ (iO _) (lS _) fun v hv=>hv
 ·rename_i hc
  obtain ⟨a,b,c⟩:=pR (l:=l) n.toNat 0 (nW n.toNat) (iO _) (lS _)
  rw [fK,decide_eq_true ⟨h0,by omega, .inr (by omega)⟩,Bool.true_and]
  by_cases hz:(iq l n.toNat 0 (nW n.toNat)).length=0
  ·rw [fR,if_pos hz]
   exact hk _ (iO _) (lS _) fun v hv=>hv
  ·rw [fR,if_neg hz]
   exact hk _ a b c
theorem iI {c:Rect} (h:Small c):bZ c=false:=by
 obtain ⟨h1,h2,h3,h4,h5,h6⟩:=h
 unfold bZ mA
 simp
 omega
theorem Az (s:Scene):bU (aq s) (bI s) (bF s)=true:=by
 rw [bU,iI (bK s)]
 unfold bI bF aq
 simp only [Bool.not_false,Bool.true_and,decide_eq_true_eq]
 have hw0:1≤1+s.w % 5∧1+s.w % 5≤5:=by omega
 have hh0:1≤1+s.h % 4∧1+s.h % 4≤4:=by omega
 have bw:=Int.emod_nonneg s.tileW (show 1+s.w % 5≠0 by omega)
 have bw2:=Int.emod_lt_of_pos s.tileW (show 0<1+s.w % 5 by omega)
 have bh:=Int.emod_nonneg s.tileH (show 1+s.h % 4≠0 by omega)
 have bh2:=Int.emod_lt_of_pos s.tileH (show 0<1+s.h % 4 by omega)
 omega
theorem yZ (s:Scene):0≤dD (aq s) (bI s) (bF s) * dA (aq s) (bI s) (bF s)∧dD (aq s) (bI s) (bF s) * dA (aq s) (bI s) (bF s)≤64:=by
 refine ⟨(jS _ _ _).2, ?_⟩
 have ht:=Az s
 rw [dD,dA,if_pos ht,if_pos ht]
 obtain ⟨h1,h2,h3,h4,h5,h6⟩:=bK s
 simp only [bU,Bool.and_eq_true,decide_eq_true_eq] at ht
 obtain ⟨_,t1,t2,t3,t4⟩:=ht
 have b1:0≤((aq s).x1 - (aq s).x0 - 1) / bI s:=Int.ediv_nonneg (by omega) (by omega)
 have b2:((aq s).x1 - (aq s).x0 - 1) / bI s≤(aq s).x1 - (aq s).x0 - 1:=Int.ediv_le_self _ (by omega)
 have c1:0≤((aq s).y1 - (aq s).y0 - 1) / bF s:=Int.ediv_nonneg (by omega) (by omega)
 have c2:((aq s).y1 - (aq s).y0 - 1) / bF s≤(aq s).y1 - (aq s).y0 - 1:=Int.ediv_le_self _ (by omega)
 have:(((aq s).x1 - (aq s).x0 - 1) / bI s+1) * (((aq s).y1 - (aq s).y0 - 1) / bF s+1)≤5 * 4:=Int.mul_le_mul (by omega) (by omega) (by omega) (by omega)
 omega
theorem nQ (s:Scene):1≤(aJ s).length∧(aJ s).length≤4:=by
 unfold aJ
 split
 ·simp
 ·have:(aS s).length≤4:=by simp [aS];omega
  omega
theorem Fp {s:Scene} {t:Script} (hb:t.bits=(au s).bits) (hc:t.canvas=aq s) (hw:t.tileW=bI s) (hh:t.tileH=bF s) (ho:t.order=(au s).order) (hi:t.images.length≤64) (hp:t.ops.length≤4096):bA t=0:=by
 have hm:=lL s.bits
 have hsm:=bK s
 have he:=iI hsm
 have ht:=Az s
 have hl:=yZ s
 obtain ⟨h1,h2,h3,h4,h5,h6⟩:=hsm
 have ha:((aq s).x1 - (aq s).x0) * ((aq s).y1 - (aq s).y0)≤5 * 4:=Int.mul_le_mul (by omega) (by omega) (by omega) (by omega)
 have hw2:bt 1048576 [(aq s).x0,(aq s).y0]=true:=by
  simp [bt];omega
 rw [bA,hb,hc,hw,hh,ho,ht,hw2,he,gL,he]
 rw [if_neg (by unfold au;dsimp only;split <;> omega),if_neg (by simp;omega),if_neg (by simp),if_neg ?_,if_neg (by omega)]
 rw [show (au s).order=mH s.order _ from rfl,Hw hl.1 hl.2]
 simp
theorem xa (s:Scene):bo (au s).bits=bO s.bits:=by
 have hm:=lL s.bits
 unfold au bo
 dsimp only
 rcases hm with h|h <;> rw [h] <;> rfl
def kq (b:Int) (n:Nat):List Op→List Op→Prop
 | [],_=>True
 | o :: r,l=>ff b n o l=0∧kq b n r (cJ l o)
def cO (ops l:List Op):List Op:=ops.foldl cJ l
theorem gJ {b:Int} {n:Nat}:∀ {a c l:List Op},kq b n (a ++ c) l↔kq b n a l∧kq b n c (cO a l)
 | [],c,l=>by simp [kq,cO]
 | o :: r,c,l=>by
  simp only [List.cons_append,kq,gJ (a:=r),and_assoc]
  rfl
theorem eE {a c l:List Op}:cO (a ++ c) l=cO c (cO a l):=List.foldl_append
theorem tr {b:Int} {n:Nat}:∀ {ops l:List Op} {i:Nat},kq b n ops l→cO ops l=[]→fQ b n i ops l=(0,0)
 | [],l,i,_,h2=>by
  have:l=[]:=h2
  subst this
  rfl
 | o :: r,l,i,h1,h2=>by
  rw [fQ,if_pos h1.1]
  exact tr h1.2 h2
theorem Ck {b:Int} {n:Nat}:∀ (k:Nat) (l:List Op),l.length=k→kq b n (List.replicate k eG) l∧cO (List.replicate k eG) l=[]
 | 0,l,hl=>⟨trivial,List.eq_nil_of_length_eq_zero hl⟩
 | k+1,l,hl=>by
  rw [List.replicate_succ]
  have hp:=Ck (b:=b) (n:=n) k l.dropLast (by rw [List.length_dropLast];omega)
  have hn:cJ l eG=l.dropLast:=rfl
  refine ⟨⟨?_,by rw [hn];exact hp.1⟩, ?_⟩
  ·rw [ff,if_neg (by decide),if_neg (by decide),if_neg (fun q=>by omega)];rfl
  ·show cO _ (cJ l eG)=[]
   rw [hn];exact hp.2
structure OpTame (m:Int) (o:Op):Prop where
 x : -30≤o.x∧o.x≤30
 y : -30≤o.y∧o.y≤30
 op:0≤o.opacity∧o.opacity≤m
 mx : -30≤o.maskX∧o.maskX≤30
 my : -30≤o.maskY∧o.maskY≤30
theorem Oe {s : Scene} {r : Raw} {l : List Op} (hl : l.length ≤ 9) :
  ff (au s).bits (aJ s).length (kz r (decide (r.kind % 8<3)) (aJ s).length (aq s).x0 (aq s).y0 (eC l) (bO s.bits)) l=0 ∧
  OpTame (bO s.bits) (kz r (decide (r.kind % 8<3)) (aJ s).length (aq s).x0 (aq s).y0 (eC l) (bO s.bits)):=by
 have hi:=nQ s
 have hm:=lL s.bits
 obtain ⟨h1,h2,h3,h4,h5,h6⟩:=bK s
 have q1:=dq r.x (aq s).x0
 have q2:=dq r.y (aq s).y0
 have q3:=dq r.maskX (aq s).x0
 have q4:=dq r.maskY (aq s).y0
 have q5:=eS (r.opacity.tdiv 2) (bO s.bits) (by omega)
 have q6:=Int.emod_nonneg (r.mask.tdiv 4) (show ((aJ s).length:Int)≠0 by omega)
 have q7:=Int.emod_lt_of_pos (r.mask.tdiv 4) (show (0:Int)<(aJ s).length by omega)
 have q8:=Int.emod_nonneg r.image (show ((aJ s).length:Int)≠0 by omega)
 have q9:=Int.emod_lt_of_pos r.image (show (0:Int)<(aJ s).length by omega)
 generalize hc:eC l=free
 have hmx:=xa s
 constructor
 ·rw [ff,hmx]
  by_cases hp:r.kind % 8<3
  ·rw [decide_eq_true hp]
   rw [if_neg (by simp [kz]),if_neg ?qa,if_neg (by simp [kz]),if_neg (by simp [kz]),if_neg ?qb,if_neg ?qc,if_neg ?qd,if_neg ?qe,if_neg ?qf,if_neg ?qg,if_neg (by omega)]
   case qa =>
    simp only [kz,eV]
    by_cases hk:r.mask % 4=0
    ·simp [hk];omega
    ·simp [hk]
   case qb =>
    simp only [kz]
    by_cases hk:r.mask % 4=0
    ·simp [hk];omega
    ·simp [hk]
   case qc =>
    simp only [kz,bt]
    by_cases hk:r.mask % 4=0
    ·simp [hk];omega
    ·simp [hk]
   case qd =>
    simp only [kz]
    split <;> omega
   case qe =>
    simp only [kz,fV]
    split <;> simp <;> omega
   case qf =>
    simp only [kz,fV]
    split <;> simp <;> omega
   case qg =>
    simp only [kz,hc]
    intro q
    rw [q.2] at q
    simp at q
  ·rw [decide_eq_false hp]
   rw [if_neg (by simp [kz]),if_neg ?qa,if_neg (by simp [kz]),if_neg (by simp [kz]),if_neg ?qb,if_neg ?qc,if_neg ?qd,if_neg ?qe,if_neg ?qf,if_neg ?qg,if_neg (by simp [kz])]
   case qa =>
    simp only [kz,eV]
    by_cases hk:r.mask % 4=0
    ·simp [hk];omega
    ·simp [hk]
   case qb =>
    simp only [kz]
    by_cases hk:r.mask % 4=0
    ·simp [hk];omega
    ·simp [hk];omega
   case qc =>
    simp only [kz,bt]
    by_cases hk:r.mask % 4=0
    ·simp [hk];omega
    ·simp [hk];omega
   case qd =>
    simp only [kz]
    split <;> omega
   case qe =>
    simp only [kz,fV]
    split <;> simp <;> omega
   case qf =>
    simp only [kz,fV]
    split <;> simp <;> omega
   case qg =>
    simp only [kz,hc]
    intro q
    rw [q.2] at q
    simp at q
 ·refine ⟨?_, ?_, ?_, ?_, ?_⟩ <;> simp only [kz] <;> (repeat' split) <;> omega
structure GInv (s:Scene) (k:Nat) (st:List Op × List Op):Prop where
 ok:kq (au s).bits (aJ s).length st.1 []
 op:cO st.1 []=st.2
 l1:st.1.length≤k
 l2:st.2.length≤k
 tame:∀ o ∈ st.1,OpTame (bO s.bits) o
theorem CA {m:Int} (h:0≤m):OpTame m eG:=⟨by decide,by decide,⟨by decide,h⟩,by decide,by decide⟩
theorem ER {s:Scene} {k:Nat} {st:List Op × List Op} {r:Raw} (h:GInv s k st) (hk:k≤9):GInv s (k+1) (jd (aJ s).length (aq s) (bO s.bits) st r):=by
 obtain ⟨h1,h2,h3,h4,h5⟩:=h
 have hm:=lL s.bits
 unfold jd
 split
 ·rename_i hc
  refine ⟨gJ.2 ⟨h1, ?_,trivial⟩, ?_,by simp;omega,by rw [List.length_dropLast];omega,fun o ho => ?_⟩
  ·rw [h2,ff,if_neg (by decide),if_neg (by decide),if_neg (fun q=>by omega)];rfl
  ·rw [eE,h2];rfl
  ·rcases List.mem_append.1 ho with ho|ho
   ·exact h5 o ho
   ·rw [List.mem_singleton.1 ho];exact CA (by omega)
 ·have hg:=Oe (s:=s) (r:=r) (l:=st.2) (by omega)
  refine ⟨gJ.2 ⟨h1,by rw [h2];exact hg.1,trivial⟩, ?_,by simp;omega, ?_,fun o ho => ?_⟩
  ·rw [eE,h2]
   show cJ st.2 _=_
   by_cases hp:r.kind % 8<3
   ·rw [if_pos hp,cJ,if_pos (by simp [kz,hp])]
   ·rw [if_neg hp,cJ,if_neg (by simp [kz,hp]),if_neg (by simp [kz,hp])]
  ·dsimp only
   split
   ·simp;omega
   ·omega
  ·rcases List.mem_append.1 ho with ho|ho
   ·exact h5 o ho
   ·rw [List.mem_singleton.1 ho];exact hg.2
theorem wV {s:Scene}:∀ (l:List Raw) (k:Nat) (st:List Op × List Op),GInv s k st→k+l.length≤9→GInv s (k+l.length) (l.foldl (jd (aJ s).length (aq s) (bO s.bits)) st)
 | [],k,st,h,_=>h
 | r :: l,k,st,h,hk=>by
  rw [List.length_cons] at hk ⊢
  have:=wV l (k+1) _ (ER (r:=r) h (by omega)) (by omega)
  rw [show k+(l.length+1)=k+1+l.length by omega]
  exact this
theorem GN (s:Scene):GInv s 9 (oe s):=by
 have h:=wV (s:=s) (s.ops.take 9) 0 ([],[]) ⟨trivial,rfl,Nat.le_refl _,Nat.le_refl _,fun o ho=>by simp at ho⟩ (by rw [List.length_take];omega)
 have hl:0+(s.ops.take 9).length≤9:=by rw [List.length_take];omega
 exact ⟨h.1,h.2,Nat.le_trans h.3 hl,Nat.le_trans h.4 hl,h.5⟩
structure GGood (s:Scene) (ops:List Op):Prop where
 ok:kq (au s).bits (aJ s).length ops []
 op:cO ops []=[]
 len:ops.length≤18
 tame:∀ o ∈ ops,OpTame (bO s.bits) o
theorem lV (s:Scene):GGood s (au s).ops:=by
 obtain ⟨h1,h2,h3,h4,h5⟩:=GN s
 have hm:=lL s.bits
 have hp:=Ck (b:=(au s).bits) (n:=(aJ s).length) (oe s).2.length (oe s).2 rfl
 refine ⟨gJ.2 ⟨h1,by rw [h2];exact hp.1⟩, ?_, ?_,fun o ho => ?_⟩
 ·show cO ((oe s).1 ++ _) []=[]
  rw [eE,h2];exact hp.2
 ·show ((oe s).1 ++ _).length≤18
  rw [List.length_append,List.length_replicate];omega
 ·rcases List.mem_append.1 ho with ho|ho
  ·exact h5 o ho
  ·rw [(List.mem_replicate.1 ho).2];exact CA (by omega)
end Go.Proofs.YtmfblbbemekkoaaGreatDoor
set_option maxRecDepth 8000
namespace Go.Proofs.YtmfblbbemekkoaaGreatDoor
open Go Go.SL
theorem bP {b : Int} {n : Nat} {o : Op} {l : List Op} : ff b n o l = 0 ↔ (1 ≤ o.kind ∧ o.kind ≤ 3) ∧ eV o = true ∧ (o.kind = 3 → 0 < l.length) ∧
  (o.kind≠3→¬ (o.kind=1∧(o.image<0∨n≤o.image)∨o.mask<0∨n<o.mask)∧bt 1048576 [o.x,o.y,o.maskX,o.maskY]=true∧o.opacity≤bo b∧fV o.operator=true∧fV o.mode=true∧(o.operator≠4→eC l=true)∧(o.kind=2→l.length<64)):=by
 unfold ff
 by_cases h1:¬ (1≤o.kind∧o.kind≤3)
 ·rw [if_pos h1];exact ⟨fun h=>by omega,fun h=>absurd h.1 h1⟩
 rw [if_neg h1]
 rw [Decidable.not_not] at h1
 by_cases h2:eV o=false
 ·rw [if_pos h2];exact ⟨fun h=>by omega,fun h=>by rw [h2] at h;simp at h⟩
 rw [if_neg h2]
 rw [Bool.not_eq_false] at h2
 by_cases h3:o.kind=3
 ·by_cases h4:l.length=0
  ·rw [if_pos ⟨h3,h4⟩];exact ⟨fun h=>by omega,fun h=>by have:=h.2.2.1 h3;omega⟩
  ·rw [if_neg (fun q=>h4 q.2),if_pos h3];exact ⟨fun _=>⟨h1,h2,fun _=>by omega,fun q=>absurd h3 q⟩,fun _=>rfl⟩
 rw [if_neg (fun q=>h3 q.1),if_neg h3]
 by_cases h5:o.kind=1∧(o.image<0∨n≤o.image)∨o.mask<0∨n<o.mask
 ·rw [if_pos h5];exact ⟨fun h=>by omega,fun h=>absurd h5 (h.2.2.2 h3).1⟩
 rw [if_neg h5]
 by_cases h6:bt 1048576 [o.x,o.y,o.maskX,o.maskY]=false
 ·rw [if_pos h6];exact ⟨fun h=>by omega,fun h=>by have:=(h.2.2.2 h3).2.1;rw [h6] at this;cases this⟩
 rw [if_neg h6]
 rw [Bool.not_eq_false] at h6
 by_cases h7:bo b<o.opacity
 ·rw [if_pos h7];exact ⟨fun h=>by omega,fun h=>by have:=(h.2.2.2 h3).2.2.1;omega⟩
 rw [if_neg h7]
 by_cases h8:fV o.operator=false
 ·rw [if_pos h8];exact ⟨fun h=>by omega,fun h=>by have:=(h.2.2.2 h3).2.2.2.1;rw [h8] at this;cases this⟩
 rw [if_neg h8]
 rw [Bool.not_eq_false] at h8
 by_cases h9:fV o.mode=false
 ·rw [if_pos h9];exact ⟨fun h=>by omega,fun h=>by have:=(h.2.2.2 h3).2.2.2.2.1;rw [h9] at this;cases this⟩
 rw [if_neg h9]
 rw [Bool.not_eq_false] at h9
 by_cases h10:o.operator≠4∧eC l=false
 ·rw [if_pos h10];exact ⟨fun h=>by omega,fun h=>by have:=(h.2.2.2 h3).2.2.2.2.2.1 h10.1;rw [h10.2] at this;cases this⟩
 rw [if_neg h10]
 by_cases h11:o.kind=2∧64≤l.length
 ·rw [if_pos h11];exact ⟨fun h=>by omega,fun h=>by have:=(h.2.2.2 h3).2.2.2.2.2.2 h11.1;omega⟩
 rw [if_neg h11]
 exact ⟨fun _=>⟨h1,h2,fun q=>absurd q h3,fun _=>⟨h5,h6,by omega,h8,h9,fun q=>by
  cases hc:eC l with
  | true=>rfl
  | false=>exact absurd ⟨q,hc⟩ h10,fun q=>by
   rcases Nat.lt_or_ge l.length 64 with h|h
   ·exact h
   ·exact absurd ⟨q,h⟩ h11⟩⟩,fun _=>rfl⟩
theorem AO (s:Scene):(au s).order.length≤64:=by
 have ht:=yZ s
 show (mH s.order _).length≤64
 unfold mH
 split
 ·exact Nat.zero_le _
 ·rw [(pR (l:=s.order) _ 0 _ (iO _) (lS _)).1]
  omega
theorem QQ (s:Scene) {t:Script} (ho:t.order=(au s).order) (hi:t.images.length≤64) (hp:t.ops.length≤4096):ScriptLen t :=
 ⟨by rw [ho];exact Nat.le_trans (AO s) (by decide),by omega,by omega⟩
theorem rM (s:Scene):(au s).images.length≤64:=by
 have:=nQ s
 show (aJ s).length≤64
 omega
theorem yQ (s:Scene):(au s).ops.length≤18:=(lV s).len
theorem ru (s:Scene):ScriptLen (au s):=QQ s rfl (rM s) (Nat.le_trans (yQ s) (by decide))
end Go.Proofs.YtmfblbbemekkoaaGreatDoor
set_option maxRecDepth 8000
namespace Go.Proofs.YtmfblbbemekkoaaGreatDoor
open Go Go.SL
theorem um {b:Int} {n:Nat}:∀ {ops l:List Op} {i:Nat},(fQ b n i ops l).1=0→kq b n ops l∧cO ops l=[]
 | [],l,i,h=>by
  refine ⟨trivial, ?_⟩
  rw [fQ] at h
  split at h
  ·cases h
  ·exact (List.eq_nil_of_length_eq_zero (by omega):l=[])
 | o :: r,l,i,h=>by
  rw [fQ] at h
  split at h
  ·rename_i h0
   obtain ⟨h1,h2⟩:=um h
   exact ⟨⟨h0,h1⟩,h2⟩
  ·rename_i h0;exact absurd h h0
theorem HV {b:Int} {n:Nat} {ops:List Op} (h:kq b n ops []) {i:Nat} (hi:i<ops.length):ff b n (aR ops i) (cO (ops.take i) [])=0:=by
 have e:ops=ops.take i ++ ops.drop i:=(List.take_append_drop i ops).symm
 rw [e,gJ,List.drop_eq_getElem_cons hi] at h
 have:aR ops i=ops[i]:=by rw [aR,List.getD_eq_getElem?_getD,List.getElem?_eq_getElem hi];rfl
 rw [this]
 exact h.2.1
theorem lg {ops:List Op}:∀ (i:Nat),i≤ops.length→cO (ops.take i) []=(bD ops i).reverse.map (aR ops)
 | 0,_=>rfl
 | i+1,hi=>by
  have ih:=lg (ops:=ops) i (by omega)
  have e:aR ops i=ops[i]:=by rw [aR,List.getD_eq_getElem?_getD,List.getElem?_eq_getElem (by omega)];rfl
  rw [List.take_add_one,List.getElem?_eq_getElem (by omega),eE,ih]
  show cJ _ ops[i]=_
  rw [← e,cJ,bD]
  split
  ·rw [List.reverse_cons,List.map_append];rfl
  split
  ·rw [← List.map_dropLast,List.dropLast_reverse]
  ·rfl
structure VOps (s:Script):Prop where
 wf:Wf s.ops
 ok:∀ i,i<s.ops.length→ff s.bits s.images.length (aR s.ops i) ((bD s.ops i).reverse.map (aR s.ops))=0
 imgs:s.images.length≤64
 cnt:s.ops.length≤4096
 frame:bA s=0
theorem CQ {s:Script} (h:(jm s).1=0):VOps s:=by
 rw [jm] at h
 split at h
 ·rename_i hf
  obtain ⟨h1,h2⟩:=um h
  have hl:=qj hf
  have ok:∀ i,i<s.ops.length→ff s.bits s.images.length (aR s.ops i) ((bD s.ops i).reverse.map (aR s.ops))=0:=fun i hi=>by
   rw [← lg i (by omega)];exact HV h1 hi
  refine ⟨⟨fun i hi => ?_,fun i hi hk he => ?_, ?_⟩,ok,hl.1,hl.2,hf⟩
  ·have:=(bP.1 (ok i hi)).1;omega
  ·have:=(bP.1 (ok i hi)).2.2.1 hk
   rw [he] at this;simp at this
  ·have:=lg (ops:=s.ops) s.ops.length (Nat.le_refl _)
   rw [List.take_length,h2] at this
   have:=congrArg List.length this
   simp at this
   exact List.eq_nil_of_length_eq_zero this.symm
 ·rename_i hf;exact absurd h hf
end Go.Proofs.YtmfblbbemekkoaaGreatDoor
set_option maxHeartbeats 1000000
set_option maxRecDepth 16000
namespace Go.Proofs.YtmfblbbemekkoaaGreatDoor
open Go Go.SL
open Go.RowKit (wrap64)
theorem zn (a b:Int):(if b>a then b else a)=max a b:=by split <;> omega
theorem yG (a b:Int):(if b<a then b else a)=min a b:=by split <;> omega
attribute [local go_sem] zn yG
def Qy (l:List Rect):PV := .lst 4 l.length (bj fg l)
attribute [go_sem] Qy
end Go.Proofs.YtmfblbbemekkoaaGreatDoor
