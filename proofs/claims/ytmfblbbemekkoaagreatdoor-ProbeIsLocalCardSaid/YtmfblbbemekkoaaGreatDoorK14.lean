/- Part of the proof: FM, FL, FO, D4, T5, D3. -/
import Derived.Test.YtmfblbbemekkoaaGreatDoorK9
import Derived.Test.YtmfblbbemekkoaaGreatDoorK13
set_option linter.unusedSimpArgs false
set_option linter.unusedVariables false
set_option maxRecDepth 8000
namespace Go.Proofs.YtmfblbbemekkoaaGreatDoor
open Go Go.SL
open Go.RowKit (wrap64)
def fO:Op:=⟨3,0,0,0,0,0,0,0,0,0,false,false⟩
def ar (s:Scene):Rect:=⟨s.x % 13 - 6,s.y % 13 - 6,s.x % 13 - 6+(1+s.w % 5),s.y % 13 - 6+(1+s.h % 4)⟩
def cc (s:Scene):Int:=1+s.tileW % (1+s.w % 5)
def cd (s:Scene):Int:=1+s.tileH % (1+s.h % 4)
def bp (s:Scene):List Image:=(s.pics.take 4).map fun p=>il p (ar s) (ck s.bits)
def aQ (s:Scene):List Image:=if (bp s).length=0 then [iN (1+s.w % 5) (1+s.h % 4) ⟨ck s.bits,0,0,ck s.bits,ck s.bits⟩] else bp s
def lY (n:Int) (c:Rect) (m:Int) (st:List Op × List Op) (r:Raw):List Op × List Op :=
 if r.kind % 8=0∧0<st.2.length then (st.1 ++ [fO],st.2.dropLast)
 else (st.1 ++ [lM r (decide (r.kind % 8<3)) n c.x0 c.y0 (gT st.2) m],if r.kind % 8<3 then st.2 ++ [lM r (decide (r.kind % 8<3)) n c.x0 c.y0 (gT st.2) m] else st.2)
def rr (s:Scene):List Op × List Op:=(s.ops.take 9).foldl (lY (aQ s).length (ar s) (ck s.bits)) ([],[])
def ax (s:Scene):Script :=
 { bits:=if ck s.bits>255 then 16 else 8,canvas:=ar s,tileW:=cc s,tileH:=cd s,order:=kN s.order (dv (ar s) (cc s) (cd s) * dz (ar s) (cc s) (cd s)),images:=aQ s,ops:=(rr s).1 ++ List.replicate (rr s).2.length fO }
structure SceneOk (s:Scene):Prop where
 bits:i64 s.bits
 x:i64 s.x
 y:i64 s.y
 w:i64 s.w
 h:i64 s.h
 tileW:i64 s.tileW
 tileH:i64 s.tileH
 order:s.order.length≤4611686018427387904
 pics:s.pics.length≤4611686018427387904
 ops:s.ops.length≤4611686018427387904
 pic:∀ i,i<s.pics.length→PicOk (s.pics.getD i default)
 op:∀ i,i<s.ops.length→RawOk (s.ops.getD i default)
theorem cm (s:Scene):Small (ar s):=by
 unfold ar
 exact ⟨by dsimp only;omega,by dsimp only;omega,by dsimp only;omega,by dsimp only;omega,⟨by dsimp only;omega,by dsimp only;omega⟩,⟨by dsimp only;omega,by dsimp only;omega⟩⟩
theorem jY (n:Int):ck n=255∨ck n=65535:=by unfold ck;split <;> omega
end Go.Proofs.YtmfblbbemekkoaaGreatDoor
set_option maxRecDepth 8000
namespace Go.Proofs.YtmfblbbemekkoaaGreatDoor
open Go Go.SL
theorem tF {l:List Int} {i j:Nat} {hi:i<l.length} {hj:j<l.length} (h:l.Nodup):l[i]=l[j]↔i=j:=by
 refine ⟨fun e => ?_,fun e=>by subst e;rfl⟩
 have hp:=List.pairwise_iff_getElem.1 h
 rcases Nat.lt_trichotomy i j with q|q|q
 ·exact absurd e (hp i j hi hj q)
 ·exact q
 ·exact absurd e.symm (hp j i hj hi q)
theorem oA {l:List Int}:∀ (k i:Nat) (rest:List Int),rest.length=k→rest.Nodup→(fC l k i rest).length=k∧(fC l k i rest).Nodup∧∀ v ∈ fC l k i rest,v ∈ rest
 | 0,i,rest,_,_=>⟨rfl,List.nodup_nil,fun v hv=>by simp [fC] at hv⟩
 | k+1,i,rest,hl,hn=>by
  have h1:=Int.emod_nonneg (xH l i) (show (rest.length:Int)≠0 by omega)
  have h2:=Int.emod_lt_of_pos (xH l i) (show (0:Int)<rest.length by omega)
  have h3:(xH l i % rest.length).toNat<rest.length:=by omega
  obtain ⟨a,b,c⟩:=oA (l:=l) k (i+1) (rest.eraseIdx (xH l i % rest.length).toNat) (by rw [List.length_eraseIdx,if_pos h3];omega) (List.Pairwise.sublist (List.eraseIdx_sublist ..) hn)
  have hg:rest.getD (xH l i % rest.length).toNat 0=rest[(xH l i % rest.length).toNat]:=by
   rw [List.getD_eq_getElem?_getD,List.getElem?_eq_getElem h3];rfl
  refine ⟨by simp only [fC,List.length_cons,a], ?_,fun v hv => ?_⟩
  ·simp only [fC]
   refine List.nodup_cons.2 ⟨fun hm => ?_,b⟩
   have:=c _ hm
   rw [List.mem_eraseIdx_iff_getElem] at this
   obtain ⟨j,hj,hne,he⟩:=this
   rw [hg] at he
   exact hne ((tF hn).1 he)
  ·simp only [fC] at hv
   rcases List.mem_cons.1 hv with rfl|hv
   ·rw [hg];exact List.getElem_mem _
   ·exact List.mem_of_mem_eraseIdx (c v hv)
theorem kh (n:Nat):(ma n).Nodup:=by
 unfold ma
 refine List.Pairwise.map _ (fun a b h => ?_) List.nodup_range
 intro e
 exact h (by omega)
theorem En {x:List Int} {n:Int} {i:Nat} (hi:i<x.length) (hn:x.Nodup) (hm:∀ v ∈ x,0≤v∧v<n):oB x n i=true:=by
 have hg:x.getD i 0=x[i]:=by rw [List.getD_eq_getElem?_getD,List.getElem?_eq_getElem hi];rfl
 rw [oB,hg,decide_eq_true (hm _ (List.getElem_mem hi)),Bool.true_and,Bool.not_eq_true',List.contains_eq_mem,decide_eq_false_iff_not]
 intro h
 obtain ⟨j,hj,he⟩:=List.getElem_of_mem h
 rw [List.getElem_take] at he
 rw [List.length_take] at hj
 have:=(tF hn).1 he
 omega
theorem ES {l:List Int} {n:Int} (h0:0≤n) (h1:n≤64):gR (kN l n) n=true:=by
 have hk:∀ x:List Int,x.length=n.toNat→x.Nodup→(∀ v ∈ x,v ∈ ma n.toNat)→(List.range n.toNat).all (oB x n)=true:=fun x hl hn hm=>by
  rw [List.all_eq_true]
  intro i hi
  refine En (by rw [hl];exact List.mem_range.1 hi) hn fun v hv => ?_
  have:=hm v hv
  simp only [ma,List.mem_map,List.mem_range] at this
  obtain ⟨a,ha,rfl⟩:=this
  omega
 unfold kN
 split
 ·rw [gR,decide_eq_true ⟨h0,by omega, .inl rfl⟩,Bool.true_and]
  exact hk _ (fK _) (kh _) fun v hv=>hv
 ·rename_i hc
  obtain ⟨a,b,c⟩:=oA (l:=l) n.toNat 0 (ma n.toNat) (fK _) (kh _)
  rw [gR,decide_eq_true ⟨h0,by omega, .inr (by omega)⟩,Bool.true_and]
  by_cases hz:(fC l n.toNat 0 (ma n.toNat)).length=0
  ·rw [kv,if_pos hz]
   exact hk _ (fK _) (kh _) fun v hv=>hv
  ·rw [kv,if_neg hz]
   exact hk _ a b c
theorem kI {c:Rect} (h:Small c):bM c=false:=by
 obtain ⟨h1,h2,h3,h4,h5,h6⟩:=h
 unfold bM mu
 simp
 omega
theorem wR (s:Scene):bQ (ar s) (cc s) (cd s)=true:=by
 rw [bQ,kI (cm s)]
 unfold cc cd ar
 simp only [Bool.not_false,Bool.true_and,decide_eq_true_eq]
 have hw0:1≤1+s.w % 5∧1+s.w % 5≤5:=by omega
 have hh0:1≤1+s.h % 4∧1+s.h % 4≤4:=by omega
 have bw:=Int.emod_nonneg s.tileW (show 1+s.w % 5≠0 by omega)
 have bw2:=Int.emod_lt_of_pos s.tileW (show 0<1+s.w % 5 by omega)
 have bh:=Int.emod_nonneg s.tileH (show 1+s.h % 4≠0 by omega)
 have bh2:=Int.emod_lt_of_pos s.tileH (show 0<1+s.h % 4 by omega)
 omega
theorem vX (s:Scene):0≤dv (ar s) (cc s) (cd s) * dz (ar s) (cc s) (cd s)∧dv (ar s) (cc s) (cd s) * dz (ar s) (cc s) (cd s)≤64:=by
 refine ⟨(jL _ _ _).2, ?_⟩
 have ht:=wR s
 rw [dv,dz,if_pos ht,if_pos ht]
 obtain ⟨h1,h2,h3,h4,h5,h6⟩:=cm s
 simp only [bQ,Bool.and_eq_true,decide_eq_true_eq] at ht
 obtain ⟨_,t1,t2,t3,t4⟩:=ht
 have b1:0≤((ar s).x1 - (ar s).x0 - 1) / cc s:=Int.ediv_nonneg (by omega) (by omega)
 have b2:((ar s).x1 - (ar s).x0 - 1) / cc s≤(ar s).x1 - (ar s).x0 - 1:=Int.ediv_le_self _ (by omega)
 have c1:0≤((ar s).y1 - (ar s).y0 - 1) / cd s:=Int.ediv_nonneg (by omega) (by omega)
 have c2:((ar s).y1 - (ar s).y0 - 1) / cd s≤(ar s).y1 - (ar s).y0 - 1:=Int.ediv_le_self _ (by omega)
 have:(((ar s).x1 - (ar s).x0 - 1) / cc s+1) * (((ar s).y1 - (ar s).y0 - 1) / cd s+1)≤5 * 4:=Int.mul_le_mul (by omega) (by omega) (by omega) (by omega)
 omega
theorem me (s:Scene):1≤(aQ s).length∧(aQ s).length≤4:=by
 unfold aQ
 split
 ·simp
 ·have:(bp s).length≤4:=by simp [bp];omega
  omega
theorem CB {s:Scene} {t:Script} (hb:t.bits=(ax s).bits) (hc:t.canvas=ar s) (hw:t.tileW=cc s) (hh:t.tileH=cd s) (ho:t.order=(ax s).order) (hi:t.images.length≤64) (hp:t.ops.length≤4096):bS t=0:=by
 have hm:=jY s.bits
 have hsm:=cm s
 have he:=kI hsm
 have ht:=wR s
 have hl:=vX s
 obtain ⟨h1,h2,h3,h4,h5,h6⟩:=hsm
 have ha:((ar s).x1 - (ar s).x0) * ((ar s).y1 - (ar s).y0)≤5 * 4:=Int.mul_le_mul (by omega) (by omega) (by omega) (by omega)
 have hw2:bC 1048576 [(ar s).x0,(ar s).y0]=true:=by
  simp [bC];omega
 rw [bS,hb,hc,hw,hh,ho,ht,hw2,he,iQ,he]
 rw [if_neg (by unfold ax;dsimp only;split <;> omega),if_neg (by simp;omega),if_neg (by simp),if_neg ?_,if_neg (by omega)]
 rw [show (ax s).order=kN s.order _ from rfl,ES hl.1 hl.2]
 simp
theorem uW (s:Scene):bz (ax s).bits=ck s.bits:=by
 have hm:=jY s.bits
 unfold ax bz
 dsimp only
 rcases hm with h|h <;> rw [h] <;> rfl
def iS (b:Int) (n:Nat):List Op→List Op→Prop
 | [],_=>True
 | o :: r,l=>ej b n o l=0∧iS b n r (cL l o)
def bZ (ops l:List Op):List Op:=ops.foldl cL l
theorem eW {b:Int} {n:Nat}:∀ {a c l:List Op},iS b n (a ++ c) l↔iS b n a l∧iS b n c (bZ a l)
 | [],c,l=>by simp [iS,bZ]
 | o :: r,c,l=>by
  simp only [List.cons_append,iS,eW (a:=r),and_assoc]
  rfl
theorem dc {a c l:List Op}:bZ (a ++ c) l=bZ c (bZ a l):=List.foldl_append
theorem qL {b:Int} {n:Nat}:∀ {ops l:List Op} {i:Nat},iS b n ops l→bZ ops l=[]→gU b n i ops l=(0,0)
 | [],l,i,_,h2=>by
  have:l=[]:=h2
  subst this
  rfl
 | o :: r,l,i,h1,h2=>by
  rw [gU,if_pos h1.1]
  exact qL h1.2 h2
theorem zT {b:Int} {n:Nat}:∀ (k:Nat) (l:List Op),l.length=k→iS b n (List.replicate k fO) l∧bZ (List.replicate k fO) l=[]
 | 0,l,hl=>⟨trivial,List.eq_nil_of_length_eq_zero hl⟩
 | k+1,l,hl=>by
  rw [List.replicate_succ]
  have hp:=zT (b:=b) (n:=n) k l.dropLast (by rw [List.length_dropLast];omega)
  have hn:cL l fO=l.dropLast:=rfl
  refine ⟨⟨?_,by rw [hn];exact hp.1⟩, ?_⟩
  ·rw [ej,if_neg (by decide),if_neg (by decide),if_neg (fun q=>by omega)];rfl
  ·show bZ _ (cL l fO)=[]
   rw [hn];exact hp.2
structure OpTame (m:Int) (o:Op):Prop where
 x : -30≤o.x∧o.x≤30
 y : -30≤o.y∧o.y≤30
 op:0≤o.opacity∧o.opacity≤m
 mx : -30≤o.maskX∧o.maskX≤30
 my : -30≤o.maskY∧o.maskY≤30
theorem Lo {s : Scene} {r : Raw} {l : List Op} (hl : l.length ≤ 9) :
  ej (ax s).bits (aQ s).length (lM r (decide (r.kind % 8<3)) (aQ s).length (ar s).x0 (ar s).y0 (gT l) (ck s.bits)) l=0 ∧
  OpTame (ck s.bits) (lM r (decide (r.kind % 8<3)) (aQ s).length (ar s).x0 (ar s).y0 (gT l) (ck s.bits)):=by
 have hi:=me s
 have hm:=jY s.bits
 obtain ⟨h1,h2,h3,h4,h5,h6⟩:=cm s
 have q1:=dM r.x (ar s).x0
 have q2:=dM r.y (ar s).y0
 have q3:=dM r.maskX (ar s).x0
 have q4:=dM r.maskY (ar s).y0
 have q5:=dk (r.opacity.tdiv 2) (ck s.bits) (by omega)
 have q6:=Int.emod_nonneg (r.mask.tdiv 4) (show ((aQ s).length:Int)≠0 by omega)
 have q7:=Int.emod_lt_of_pos (r.mask.tdiv 4) (show (0:Int)<(aQ s).length by omega)
 have q8:=Int.emod_nonneg r.image (show ((aQ s).length:Int)≠0 by omega)
 have q9:=Int.emod_lt_of_pos r.image (show (0:Int)<(aQ s).length by omega)
 generalize hc:gT l=free
 have hmx:=uW s
 constructor
 ·rw [ej,hmx]
  by_cases hp:r.kind % 8<3
  ·rw [decide_eq_true hp]
   rw [if_neg (by simp [lM]),if_neg ?qa,if_neg (by simp [lM]),if_neg (by simp [lM]),if_neg ?qb,if_neg ?qc,if_neg ?qd,if_neg ?qe,if_neg ?qf,if_neg ?qg,if_neg (by omega)]
   case qa =>
    simp only [lM,fH]
    by_cases hk:r.mask % 4=0
    ·simp [hk];omega
    ·simp [hk]
   case qb =>
    simp only [lM]
    by_cases hk:r.mask % 4=0
    ·simp [hk];omega
    ·simp [hk]
   case qc =>
    simp only [lM,bC]
    by_cases hk:r.mask % 4=0
    ·simp [hk];omega
    ·simp [hk]
   case qd =>
    simp only [lM]
    split <;> omega
   case qe =>
    simp only [lM,jh]
    split <;> simp <;> omega
   case qf =>
    simp only [lM,jh]
    split <;> simp <;> omega
   case qg =>
    simp only [lM,hc]
    intro q
    rw [q.2] at q
    simp at q
  ·rw [decide_eq_false hp]
   rw [if_neg (by simp [lM]),if_neg ?qa,if_neg (by simp [lM]),if_neg (by simp [lM]),if_neg ?qb,if_neg ?qc,if_neg ?qd,if_neg ?qe,if_neg ?qf,if_neg ?qg,if_neg (by simp [lM])]
   case qa =>
    simp only [lM,fH]
    by_cases hk:r.mask % 4=0
    ·simp [hk];omega
    ·simp [hk]
   case qb =>
    simp only [lM]
    by_cases hk:r.mask % 4=0
    ·simp [hk];omega
    ·simp [hk];omega
   case qc =>
    simp only [lM,bC]
    by_cases hk:r.mask % 4=0
    ·simp [hk];omega
    ·simp [hk];omega
   case qd =>
    simp only [lM]
    split <;> omega
   case qe =>
    simp only [lM,jh]
    split <;> simp <;> omega
   case qf =>
    simp only [lM,jh]
    split <;> simp <;> omega
   case qg =>
    simp only [lM,hc]
    intro q
    rw [q.2] at q
    simp at q
 ·refine ⟨?_, ?_, ?_, ?_, ?_⟩ <;> simp only [lM] <;> (repeat' split) <;> omega
structure GInv (s:Scene) (k:Nat) (st:List Op × List Op):Prop where
 ok:iS (ax s).bits (aQ s).length st.1 []
 op:bZ st.1 []=st.2
 l1:st.1.length≤k
 l2:st.2.length≤k
 tame:∀ o ∈ st.1,OpTame (ck s.bits) o
theorem An {m:Int} (h:0≤m):OpTame m fO:=⟨by decide,by decide,⟨by decide,h⟩,by decide,by decide⟩
theorem Bd {s:Scene} {k:Nat} {st:List Op × List Op} {r:Raw} (h:GInv s k st) (hk:k≤9):GInv s (k+1) (lY (aQ s).length (ar s) (ck s.bits) st r):=by
 obtain ⟨h1,h2,h3,h4,h5⟩:=h
 have hm:=jY s.bits
 unfold lY
 split
 ·rename_i hc
  refine ⟨eW.2 ⟨h1, ?_,trivial⟩, ?_,by simp;omega,by rw [List.length_dropLast];omega,fun o ho => ?_⟩
  ·rw [h2,ej,if_neg (by decide),if_neg (by decide),if_neg (fun q=>by omega)];rfl
  ·rw [dc,h2];rfl
  ·rcases List.mem_append.1 ho with ho|ho
   ·exact h5 o ho
   ·rw [List.mem_singleton.1 ho];exact An (by omega)
 ·have hg:=Lo (s:=s) (r:=r) (l:=st.2) (by omega)
  refine ⟨eW.2 ⟨h1,by rw [h2];exact hg.1,trivial⟩, ?_,by simp;omega, ?_,fun o ho => ?_⟩
  ·rw [dc,h2]
   show cL st.2 _=_
   by_cases hp:r.kind % 8<3
   ·rw [if_pos hp,cL,if_pos (by simp [lM,hp])]
   ·rw [if_neg hp,cL,if_neg (by simp [lM,hp]),if_neg (by simp [lM,hp])]
  ·dsimp only
   split
   ·simp;omega
   ·omega
  ·rcases List.mem_append.1 ho with ho|ho
   ·exact h5 o ho
   ·rw [List.mem_singleton.1 ho];exact hg.2
theorem tT {s:Scene}:∀ (l:List Raw) (k:Nat) (st:List Op × List Op),GInv s k st→k+l.length≤9→GInv s (k+l.length) (l.foldl (lY (aQ s).length (ar s) (ck s.bits)) st)
 | [],k,st,h,_=>h
 | r :: l,k,st,h,hk=>by
  rw [List.length_cons] at hk ⊢
  have:=tT l (k+1) _ (Bd (r:=r) h (by omega)) (by omega)
  rw [show k+(l.length+1)=k+1+l.length by omega]
  exact this
theorem EU (s:Scene):GInv s 9 (rr s):=by
 have h:=tT (s:=s) (s.ops.take 9) 0 ([],[]) ⟨trivial,rfl,Nat.le_refl _,Nat.le_refl _,fun o ho=>by simp at ho⟩ (by rw [List.length_take];omega)
 have hl:0+(s.ops.take 9).length≤9:=by rw [List.length_take];omega
 exact ⟨h.1,h.2,Nat.le_trans h.3 hl,Nat.le_trans h.4 hl,h.5⟩
structure GGood (s:Scene) (ops:List Op):Prop where
 ok:iS (ax s).bits (aQ s).length ops []
 op:bZ ops []=[]
 len:ops.length≤18
 tame:∀ o ∈ ops,OpTame (ck s.bits) o
theorem jH (s:Scene):GGood s (ax s).ops:=by
 obtain ⟨h1,h2,h3,h4,h5⟩:=EU s
 have hm:=jY s.bits
 have hp:=zT (b:=(ax s).bits) (n:=(aQ s).length) (rr s).2.length (rr s).2 rfl
 refine ⟨eW.2 ⟨h1,by rw [h2];exact hp.1⟩, ?_, ?_,fun o ho => ?_⟩
 ·show bZ ((rr s).1 ++ _) []=[]
  rw [dc,h2];exact hp.2
 ·show ((rr s).1 ++ _).length≤18
  rw [List.length_append,List.length_replicate];omega
 ·rcases List.mem_append.1 ho with ho|ho
  ·exact h5 o ho
  ·rw [(List.mem_replicate.1 ho).2];exact An (by omega)
end Go.Proofs.YtmfblbbemekkoaaGreatDoor
set_option maxRecDepth 8000
namespace Go.Proofs.YtmfblbbemekkoaaGreatDoor
open Go Go.SL
theorem cK {b : Int} {n : Nat} {o : Op} {l : List Op} : ej b n o l = 0 ↔ (1 ≤ o.kind ∧ o.kind ≤ 3) ∧ fH o = true ∧ (o.kind = 3 → 0 < l.length) ∧
  (o.kind≠3→¬ (o.kind=1∧(o.image<0∨n≤o.image)∨o.mask<0∨n<o.mask)∧bC 1048576 [o.x,o.y,o.maskX,o.maskY]=true∧o.opacity≤bz b∧jh o.operator=true∧jh o.mode=true∧(o.operator≠4→gT l=true)∧(o.kind=2→l.length<64)):=by
 unfold ej
 by_cases h1:¬ (1≤o.kind∧o.kind≤3)
 ·rw [if_pos h1];exact ⟨fun h=>by omega,fun h=>absurd h.1 h1⟩
 rw [if_neg h1]
 rw [Decidable.not_not] at h1
 by_cases h2:fH o=false
 ·rw [if_pos h2];exact ⟨fun h=>by omega,fun h=>by rw [h2] at h;simp at h⟩
 rw [if_neg h2]
 rw [Bool.not_eq_false] at h2
 by_cases h3:o.kind=3
 ·by_cases h4:l.length=0
  ·rw [if_pos ⟨h3,h4⟩];exact ⟨fun h=>by omega,fun h=>by have:=h.2.2.1 h3;omega⟩
  ·rw [if_neg (fun q=>h4 q.2),if_pos h3];exact ⟨fun _=>⟨h1,h2,fun _=>by omega,fun q=>absurd h3 q⟩,fun _=>rfl⟩
 rw [if_neg (fun q=>h3 q.1),if_neg h3]
 by_cases h5:o.kind=1∧(o.image<0∨n≤o.image)∨o.mask<0∨n<o.mask
 ·rw [if_pos h5];exact ⟨fun h=>by omega,fun h=>absurd h5 (h.2.2.2 h3).1⟩
 rw [if_neg h5]
 by_cases h6:bC 1048576 [o.x,o.y,o.maskX,o.maskY]=false
 ·rw [if_pos h6];exact ⟨fun h=>by omega,fun h=>by have:=(h.2.2.2 h3).2.1;rw [h6] at this;cases this⟩
 rw [if_neg h6]
 rw [Bool.not_eq_false] at h6
 by_cases h7:bz b<o.opacity
 ·rw [if_pos h7];exact ⟨fun h=>by omega,fun h=>by have:=(h.2.2.2 h3).2.2.1;omega⟩
 rw [if_neg h7]
 by_cases h8:jh o.operator=false
 ·rw [if_pos h8];exact ⟨fun h=>by omega,fun h=>by have:=(h.2.2.2 h3).2.2.2.1;rw [h8] at this;cases this⟩
 rw [if_neg h8]
 rw [Bool.not_eq_false] at h8
 by_cases h9:jh o.mode=false
 ·rw [if_pos h9];exact ⟨fun h=>by omega,fun h=>by have:=(h.2.2.2 h3).2.2.2.2.1;rw [h9] at this;cases this⟩
 rw [if_neg h9]
 rw [Bool.not_eq_false] at h9
 by_cases h10:o.operator≠4∧gT l=false
 ·rw [if_pos h10];exact ⟨fun h=>by omega,fun h=>by have:=(h.2.2.2 h3).2.2.2.2.2.1 h10.1;rw [h10.2] at this;cases this⟩
 rw [if_neg h10]
 by_cases h11:o.kind=2∧64≤l.length
 ·rw [if_pos h11];exact ⟨fun h=>by omega,fun h=>by have:=(h.2.2.2 h3).2.2.2.2.2.2 h11.1;omega⟩
 rw [if_neg h11]
 exact ⟨fun _=>⟨h1,h2,fun q=>absurd q h3,fun _=>⟨h5,h6,by omega,h8,h9,fun q=>by
  cases hc:gT l with
  | true=>rfl
  | false=>exact absurd ⟨q,hc⟩ h10,fun q=>by
   rcases Nat.lt_or_ge l.length 64 with h|h
   ·exact h
   ·exact absurd ⟨q,h⟩ h11⟩⟩,fun _=>rfl⟩
theorem yx (s:Scene):(ax s).order.length≤64:=by
 have ht:=vX s
 show (kN s.order _).length≤64
 unfold kN
 split
 ·exact Nat.zero_le _
 ·rw [(oA (l:=s.order) _ 0 _ (fK _) (kh _)).1]
  omega
theorem Nt (s:Scene) {t:Script} (ho:t.order=(ax s).order) (hi:t.images.length≤64) (hp:t.ops.length≤4096):ScriptLen t :=
 ⟨by rw [ho];exact Nat.le_trans (yx s) (by decide),by omega,by omega⟩
theorem oP (s:Scene):(ax s).images.length≤64:=by
 have:=me s
 show (aQ s).length≤64
 omega
theorem wu (s:Scene):(ax s).ops.length≤18:=(jH s).len
theorem wj (s:Scene):ScriptLen (ax s):=Nt s rfl (oP s) (Nat.le_trans (wu s) (by decide))
end Go.Proofs.YtmfblbbemekkoaaGreatDoor
set_option maxRecDepth 8000
namespace Go.Proofs.YtmfblbbemekkoaaGreatDoor
open Go Go.SL
theorem sx {b:Int} {n:Nat}:∀ {ops l:List Op} {i:Nat},(gU b n i ops l).1=0→iS b n ops l∧bZ ops l=[]
 | [],l,i,h=>by
  refine ⟨trivial, ?_⟩
  rw [gU] at h
  split at h
  ·cases h
  ·exact (List.eq_nil_of_length_eq_zero (by omega):l=[])
 | o :: r,l,i,h=>by
  rw [gU] at h
  split at h
  ·rename_i h0
   obtain ⟨h1,h2⟩:=sx h
   exact ⟨⟨h0,h1⟩,h2⟩
  ·rename_i h0;exact absurd h h0
theorem DT {b:Int} {n:Nat} {ops:List Op} (h:iS b n ops []) {i:Nat} (hi:i<ops.length):ej b n (aO ops i) (bZ (ops.take i) [])=0:=by
 have e:ops=ops.take i ++ ops.drop i:=(List.take_append_drop i ops).symm
 rw [e,eW,List.drop_eq_getElem_cons hi] at h
 have:aO ops i=ops[i]:=by rw [aO,List.getD_eq_getElem?_getD,List.getElem?_eq_getElem hi];rfl
 rw [this]
 exact h.2.1
theorem ju {ops:List Op}:∀ (i:Nat),i≤ops.length→bZ (ops.take i) []=(bR ops i).reverse.map (aO ops)
 | 0,_=>rfl
 | i+1,hi=>by
  have ih:=ju (ops:=ops) i (by omega)
  have e:aO ops i=ops[i]:=by rw [aO,List.getD_eq_getElem?_getD,List.getElem?_eq_getElem (by omega)];rfl
  rw [List.take_add_one,List.getElem?_eq_getElem (by omega),dc,ih]
  show cL _ ops[i]=_
  rw [← e,cL,bR]
  split
  ·rw [List.reverse_cons,List.map_append];rfl
  split
  ·rw [← List.map_dropLast,List.dropLast_reverse]
  ·rfl
structure VOps (s:Script):Prop where
 wf:Wf s.ops
 ok:∀ i,i<s.ops.length→ej s.bits s.images.length (aO s.ops i) ((bR s.ops i).reverse.map (aO s.ops))=0
 imgs:s.images.length≤64
 cnt:s.ops.length≤4096
 frame:bS s=0
theorem Ao {s:Script} (h:(lU s).1=0):VOps s:=by
 rw [lU] at h
 split at h
 ·rename_i hf
  obtain ⟨h1,h2⟩:=sx h
  have hl:=uk hf
  have ok:∀ i,i<s.ops.length→ej s.bits s.images.length (aO s.ops i) ((bR s.ops i).reverse.map (aO s.ops))=0:=fun i hi=>by
   rw [← ju i (by omega)];exact DT h1 hi
  refine ⟨⟨fun i hi => ?_,fun i hi hk he => ?_, ?_⟩,ok,hl.1,hl.2,hf⟩
  ·have:=(cK.1 (ok i hi)).1;omega
  ·have:=(cK.1 (ok i hi)).2.2.1 hk
   rw [he] at this;simp at this
  ·have:=ju (ops:=s.ops) s.ops.length (Nat.le_refl _)
   rw [List.take_length,h2] at this
   have:=congrArg List.length this
   simp at this
   exact List.eq_nil_of_length_eq_zero this.symm
 ·rename_i hf;exact absurd h hf
theorem Ey {a b:List Op} (hl:a.length=b.length) (h:∀ k,k<a.length→aO a k=aO b k):a=b:=by
 refine List.ext_getElem hl fun i h1 h2 => ?_
 have:=h i h1
 rw [aO,aO,List.getD_eq_getElem?_getD,List.getD_eq_getElem?_getD,List.getElem?_eq_getElem h1,List.getElem?_eq_getElem h2] at this
 exact this
end Go.Proofs.YtmfblbbemekkoaaGreatDoor
namespace Go.Proofs.YtmfblbbemekkoaaGreatDoor
structure Lv where
 op:Op
 acc:Acc
 back:Pixel
 deriving DecidableEq,Inhabited
def kG:Op:=⟨2,0,0,0,0,0,0,0,0,0,true,false⟩
def base:Lv:=⟨kG,FA,aG⟩
def az (m:Int) (o:Op) (p:Pixel) (k:Int):Pixel:=aX (aX p (if o.mask=0 then m else k) m) o.opacity m
def bT (m:Int) (o:Op) (s:Pixel) (t:Lv):Lv := { t with acc:=iL t.op.knockout o.operator o.mode m s t.acc t.back }
def fW (o:Op) (t:Lv):Lv:=⟨o,EL (fZ o.isolated t.op.knockout t.acc t.back),fZ o.isolated t.op.knockout t.acc t.back⟩
def ks (m:Int) (z:Op→Pixel × Int) (st:List Lv) (o:Op):List Lv :=
 match st with
 | []=>[]
 | t :: r =>
  if o.kind=1 then bT m o (az m o (z o).1 (z o).2) t :: r
  else if o.kind=2 then fW o t :: t :: r
  else match r with
   | []=>[t]
   | u :: r=>bT m t.op (az m t.op (bl t.acc t.back m) (z t.op).2) u :: r
def mo (m:Int) (z:Op→Pixel × Int) (ops:List Op) (st:List Lv):List Lv:=ops.foldl (ks m z) st
theorem zV {m:Int} {z:Op→Pixel × Int} {a b:List Op} {st:List Lv}:mo m z (a ++ b) st=mo m z b (mo m z a st):=List.foldl_append
def Mt (m:Int) (st:List Lv):Pixel:=match st with
 | []=>aG
 | t :: _=>bl t.acc t.back m
structure SmpV (m:Int) (z:Op→Pixel × Int):Prop where
 p:∀ o,PixV (z o).1 m
 k0:∀ o,0≤(z o).2
 km:∀ o,(z o).2≤m
structure LvV (m:Int) (t:Lv):Prop where
 v:AccV t.acc t.back m
 iso:t.op.isolated=true→t.back=aG∧t.acc.own=t.acc.a
theorem LL {m:Int} (hm:Full m):LvV m base:=⟨La hm,fun _=>⟨rfl,rfl⟩⟩
theorem nz {m:Int} {o:Op} {p:Pixel} {k:Int} (hm:Full m) (hp:PixV p m) (hk:0≤k) (hkm:k≤m) (ho:0≤o.opacity) (hom:o.opacity≤m):PixV (az m o p k) m:=by
 refine jD hm (jD hm hp ?_ ?_) ho hom
 ·have:=hm.pos;split <;> omega
 ·split <;> omega
theorem zA {m:Int} {o:Op} {s:Pixel} {t:Lv} (hm:Full m) (hs:PixV s m) (ht:LvV m t) (hop:o.operator=4∨t.op.isolated=true∧t.op.knockout=false):LvV m (bT m o s t):=by
 refine ⟨Lg hm hs ht.v ?_,fun hi => ?_⟩
 ·rcases hop with h|⟨h1,h2⟩
  ·exact .inl h
  ·exact .inr ⟨h2,(ht.iso h1).2⟩
 ·obtain ⟨h1,h2⟩:=ht.iso hi
  exact ⟨h1,EE (by rw [h1];rfl) h2⟩
theorem DG {m:Int} {o:Op} {t:Lv} (hm:Full m) (ht:LvV m t):LvV m (fW o t):=by
 obtain ⟨h1,h2⟩:=Ig (i:=o.isolated) (k:=t.op.knockout) hm ht.v
 refine ⟨Ih h1 h2,fun hi => ?_⟩
 have hi:o.isolated=true:=hi
 show fZ o.isolated t.op.knockout t.acc t.back=aG∧0=(fZ o.isolated t.op.knockout t.acc t.back).a
 rw [fZ,if_pos hi];exact ⟨rfl,rfl⟩
structure OpFit (m:Int) (t:Op) (o:Op):Prop where
 op0:0≤o.opacity
 opm:o.opacity≤m
 ctx:o.operator=4∨t.isolated=true∧t.knockout=false
def Cs (m:Int):List Lv→Prop
 | []=>False
 | [t]=>LvV m t∧t.op=kG
 | t :: u :: r=>LvV m t∧OpFit m u.op t.op∧Cs m (u :: r)
theorem Cs.head {m:Int} {t:Lv} {r:List Lv} (h:Cs m (t :: r)):LvV m t:=by
 cases r with
 | nil=>exact h.1
 | cons=>exact h.1
theorem Cs.repl {m:Int} {t t':Lv} {r:List Lv} (h:Cs m (t :: r)) (h1:LvV m t') (h2:t'.op=t.op):Cs m (t' :: r):=by
 cases r with
 | nil=>exact ⟨h1,h2.trans h.2⟩
 | cons u r=>exact ⟨h1,by rw [h2];exact h.2.1,h.2.2⟩
def CS (m:Int) (st:List Lv) (o:Op):Prop :=
 match st with
 | []=>False
 | t :: r=>(o.kind=1∨o.kind=2→OpFit m t.op o)∧(o.kind=3→r≠[])
theorem BN {m:Int} {z:Op→Pixel × Int} {st:List Lv} {o:Op} (hm:Full m) (hz:SmpV m z) (hs:Cs m st) (hk:o.kind=1∨o.kind=2∨o.kind=3) (hn:CS m st o):Cs m (ks m z st o):=by
 cases st with
 | nil=>exact hs.elim
 | cons t r =>
  obtain ⟨n1,n2⟩:=hn
  unfold ks
  dsimp only
  split
  ·rename_i h
   have hf:=n1 (.inl h)
   exact hs.repl (zA hm (nz hm (hz.p o) (hz.k0 o) (hz.km o) hf.op0 hf.opm) hs.head hf.ctx) rfl
  split
  ·rename_i h1 h
   exact ⟨DG hm hs.head,n1 (.inr h),hs⟩
  ·rename_i h1 h2
   cases r with
   | nil=>exact absurd rfl (n2 (by omega))
   | cons u r =>
    obtain ⟨s1,s2,s3⟩:=hs
    exact s3.repl (zA hm (nz hm (kz hm s1.v) (hz.k0 _) (hz.km _) s2.op0 s2.opm) s3.head s2.ctx) rfl
theorem CE {m : Int} {z : Op → Pixel × Int} {t : Lv} {r : List Lv} {o : Op} :
  (ks m z (t :: r) o).map Lv.op=if o.kind=1 then (t :: r).map Lv.op else if o.kind=2 then o :: (t :: r).map Lv.op else if r=[] then [t.op] else r.map Lv.op:=by
 unfold ks
 dsimp only
 split
 ·rfl
 split
 ·rfl
 ·cases r with
  | nil=>rfl
  | cons u r=>rfl
theorem Dh {f:Nat→Op} {p:Nat} {q:List Nat}:gT ((p :: q).reverse.map f)=true↔(f p).isolated=true∧(f p).knockout=false:=by
 have e:((p :: q).reverse.map f).getD (((p :: q).reverse.map f).length - 1) default=f p:=by
  simp [List.getD_eq_getElem?_getD]
 rw [gT,e]
 simp
def ga (m:Int) (z:Op→Pixel × Int) (ops:List Op) (i:Nat):List Lv:=mo m z (ops.take i) [base]
theorem uz {ops:List Op} {i:Nat} (hi:i<ops.length):ops.take (i+1)=ops.take i ++ [aO ops i]:=by
 rw [List.take_add_one,List.getElem?_eq_getElem hi,aO,List.getD_eq_getElem?_getD,List.getElem?_eq_getElem hi];rfl
theorem eN {m:Int} {z:Op→Pixel × Int} {ops:List Op} {i:Nat} (hi:i<ops.length):ga m z ops (i+1)=ks m z (ga m z ops i) (aO ops i):=by
 unfold ga
 rw [uz hi,zV];rfl
theorem Ae {m:Int} {s:Script} {t:Lv} {r:List Lv} (V:VOps s) (hmx:bz s.bits=m) (ho:∀ o ∈ s.ops,0≤o.opacity) {i:Nat} (hi:i<s.ops.length) (h2:(t :: r).map Lv.op=(bR s.ops i).map (aO s.ops) ++ [kG]):CS m (t :: r) (aO s.ops i):=by
 have he:=cK.1 (V.ok i hi)
 have hop:0≤(aO s.ops i).opacity:=ho _ (by rw [aO,List.getD_eq_getElem?_getD,List.getElem?_eq_getElem (by omega)];exact List.getElem_mem _)
 refine ⟨fun q => ?_,fun q => ?_⟩
 ·obtain ⟨_,_,_,g⟩:=he
  obtain ⟨_,_,g3,_,_,g6,_⟩:=g (by omega)
  refine ⟨hop,by omega, ?_⟩
  by_cases h4:(aO s.ops i).operator=4
  ·exact .inl h4
  ·have hc:=g6 h4
   cases hs:bR s.ops i with
   | nil =>
    rw [hs] at h2
    have:t.op=kG:=(List.cons.inj h2).1
    rw [this];exact .inr ⟨rfl,rfl⟩
   | cons p q =>
    rw [hs] at h2 hc
    have e:t.op=aO s.ops p:=(List.cons.inj h2).1
    rw [Dh] at hc
    rw [e];exact .inr hc
 ·rintro rfl
  cases hs:bR s.ops i with
  | nil=>exact V.wf.pops i (by omega) q hs
  | cons p q =>
   rw [hs] at h2
   have:=congrArg List.length h2
   simp at this
def Je (ops:List Op) (i j:Nat):List Op:=(ops.take j).drop i
theorem Ft {ops:List Op} {i j:Nat} (h1:i≤j) (h2:j<ops.length):Je ops i (j+1)=Je ops i j ++ [aO ops j]:=by
 unfold Je
 rw [uz h2,List.drop_append_of_le_length (by rw [List.length_take];omega)]
theorem Jw {m : Int} {z : Op → Pixel × Int} {s : Script} (hm : Full m) (hz : SmpV m z) (V : VOps s) (hmx : bz s.bits = m) (ho : ∀ o ∈ s.ops, 0 ≤ o.opacity) {i : Nat} {st : List Lv}
  (h1:Cs m st) (h2:st.map Lv.op=(bR s.ops i).map (aO s.ops) ++ [kG]):∀ d,i+d≤s.ops.length→Cs m (mo m z (Je s.ops i (i+d)) st)∧(mo m z (Je s.ops i (i+d)) st).map Lv.op=(bR s.ops (i+d)).map (aO s.ops) ++ [kG]
 | 0,_=>by
  have e:Je s.ops i (i+0)=[]:=by
   unfold Je
   rw [List.drop_eq_nil_of_le];rw [List.length_take];omega
  rw [e];exact ⟨h1,h2⟩
 | d+1,hi=>by
  obtain ⟨h1,h2⟩:=Jw hm hz V hmx ho h1 h2 d (by omega)
  rw [show i+(d+1)=(i+d)+1 by omega,Ft (by omega) (by omega),zV]
  generalize mo m z (Je s.ops i (i+d)) st=st at *
  show Cs m (ks m z st _)∧_
  have hk:=V.wf.kinds (i+d) (by omega)
  cases st with
  | nil=>exact h1.elim
  | cons t r =>
   have hn:=Ae V hmx ho (show i+d<s.ops.length by omega) h2
   refine ⟨BN hm hz h1 hk hn, ?_⟩
   show (ks m z (t :: r) _).map Lv.op=_
   rw [CE]
   rcases hk with k|k|k
   ·rw [if_pos k,fc k];exact h2
   ·rw [if_neg (by omega),if_pos k,fi k]
    exact congrArg (List.cons _) h2
   ·rw [if_neg (by omega),if_neg (by omega),if_neg (hn.2 k),nJ k]
    cases hs:bR s.ops (i+d) with
    | nil=>exact absurd hs (V.wf.pops (i+d) (by omega) k)
    | cons p q =>
     rw [hs] at h2
     exact (List.cons.inj h2).2
theorem JI {m : Int} {z : Op → Pixel × Int} {s : Script} (hm : Full m) (hz : SmpV m z) (V : VOps s) (hmx : bz s.bits = m) (ho : ∀ o ∈ s.ops, 0 ≤ o.opacity) (i : Nat) (hi : i ≤ s.ops.length) :
  Cs m (ga m z s.ops i)∧(ga m z s.ops i).map Lv.op=(bR s.ops i).map (aO s.ops) ++ [kG]:=by
 have:=Jw hm hz V hmx ho (i:=0) (st:=[base]) ⟨LL hm,rfl⟩ rfl i (by omega)
 rw [Nat.zero_add] at this
 exact this
end Go.Proofs.YtmfblbbemekkoaaGreatDoor
set_option maxHeartbeats 1000000
set_option maxRecDepth 16000
namespace Go.Proofs.YtmfblbbemekkoaaGreatDoor
open Go Go.SL
open Go.RowKit (wrap64)
theorem Dq (a b:Int):(if b>a then b else a)=max a b:=by split <;> omega
theorem FH (a b:Int):(if b<a then b else a)=min a b:=by split <;> omega
attribute [local go_sem] Dq FH
def MZ (l:List Rect):PV := .lst 4 l.length (bd fk l)
attribute [go_sem] MZ
end Go.Proofs.YtmfblbbemekkoaaGreatDoor
