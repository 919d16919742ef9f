/- Part of the proof: FM, FL, D3, U6, W7. -/
import Derived.Test.YtcbifofjjpfbcaaGreatDoorM12
import Derived.Test.YtcbifofjjpfbcaaGreatDoorM13
set_option linter.unusedSimpArgs false
set_option linter.unusedVariables false
set_option maxRecDepth 8000
namespace Go.Proofs.YtcbifofjjpfbcaaGreatDoor
open Go Go.SL
open Go.RowKit (wrap64)
def iF:Op:=⟨3,0,0,0,0,0,0,0,0,0,false,false⟩
def aG (s:Scene):Rect:=⟨s.x % 13 - 6,s.y % 13 - 6,s.x % 13 - 6+(1+s.w % 5),s.y % 13 - 6+(1+s.h % 4)⟩
def cT (s:Scene):Int:=1+s.tileW % (1+s.w % 5)
def cW (s:Scene):Int:=1+s.tileH % (1+s.h % 4)
def bS (s:Scene):List Image:=(s.pics.take 4).map fun p=>kM p (aG s) (dF s.bits)
def bq (s:Scene):List Image:=if (bS s).length=0 then [ky (1+s.w % 5) (1+s.h % 4) ⟨dF s.bits,0,0,dF s.bits,dF s.bits⟩] else bS s
def ob (n:Int) (c:Rect) (m:Int) (st:List Op × List Op) (r:Raw):List Op × List Op :=
 if r.kind % 8=0∧0<st.2.length then (st.1 ++ [iF],st.2.dropLast)
 else (st.1 ++ [nB r (decide (r.kind % 8<3)) n c.x0 c.y0 (gX st.2) m],if r.kind % 8<3 then st.2 ++ [nB r (decide (r.kind % 8<3)) n c.x0 c.y0 (gX st.2) m] else st.2)
def vK (s:Scene):List Op × List Op:=(s.ops.take 9).foldl (ob (bq s).length (aG s) (dF s.bits)) ([],[])
def aD (s:Scene):Script :=
 { bits:=if dF s.bits>255 then 16 else 8,canvas:=aG s,tileW:=cT s,tileH:=cW s,order:=kW s.order (aX (aG s) (cT s) (cW s) * bz (aG s) (cT s) (cW s)),images:=bq s,ops:=(vK s).1 ++ List.replicate (vK s).2.length iF }
structure SceneOk (s:Scene):Prop where
 bits:i64 s.bits
 x:i64 s.x
 y:i64 s.y
 w:i64 s.w
 h:i64 s.h
 tileW:i64 s.tileW
 tileH:i64 s.tileH
 order:s.order.length≤4611686018427387904
 pics:s.pics.length≤4611686018427387904
 ops:s.ops.length≤4611686018427387904
 pic:∀ i,i<s.pics.length→PicOk (s.pics.getD i default)
 op:∀ i,i<s.ops.length→RawOk (s.ops.getD i default)
theorem cY (s:Scene):Small (aG s):=by
 unfold aG
 exact ⟨by dsimp only;omega,by dsimp only;omega,by dsimp only;omega,by dsimp only;omega,⟨by dsimp only;omega,by dsimp only;omega⟩,⟨by dsimp only;omega,by dsimp only;omega⟩⟩
theorem mL (n:Int):dF n=255∨dF n=65535:=by unfold dF;split <;> omega
end Go.Proofs.YtcbifofjjpfbcaaGreatDoor
set_option maxRecDepth 8000
namespace Go.Proofs.YtcbifofjjpfbcaaGreatDoor
open Go Go.SL
theorem xj {l:List Int} {i j:Nat} {hi:i<l.length} {hj:j<l.length} (h:l.Nodup):l[i]=l[j]↔i=j:=by
 refine ⟨fun e => ?_,fun e=>by subst e;rfl⟩
 have hp:=List.pairwise_iff_getElem.1 h
 rcases Nat.lt_trichotomy i j with q|q|q
 ·exact absurd e (hp i j hi hj q)
 ·exact q
 ·exact absurd e.symm (hp j i hj hi q)
theorem qL {l:List Int}:∀ (k i:Nat) (rest:List Int),rest.length=k→rest.Nodup→(ik l k i rest).length=k∧(ik l k i rest).Nodup∧∀ v ∈ ik l k i rest,v ∈ rest
 | 0,i,rest,_,_=>⟨rfl,List.nodup_nil,fun v hv=>by simp [ik] at hv⟩
 | k+1,i,rest,hl,hn=>by
  have h1:=Int.emod_nonneg (An l i) (show (rest.length:Int)≠0 by omega)
  have h2:=Int.emod_lt_of_pos (An l i) (show (0:Int)<rest.length by omega)
  have h3:(An l i % rest.length).toNat<rest.length:=by omega
  obtain ⟨a,b,c⟩:=qL (l:=l) k (i+1) (rest.eraseIdx (An l i % rest.length).toNat) (by rw [List.length_eraseIdx,if_pos h3];omega) (List.Pairwise.sublist (List.eraseIdx_sublist ..) hn)
  have hg:rest.getD (An l i % rest.length).toNat 0=rest[(An l i % rest.length).toNat]:=by
   rw [List.getD_eq_getElem?_getD,List.getElem?_eq_getElem h3];rfl
  refine ⟨by simp only [ik,List.length_cons,a], ?_,fun v hv => ?_⟩
  ·simp only [ik]
   refine List.nodup_cons.2 ⟨fun hm => ?_,b⟩
   have:=c _ hm
   rw [List.mem_eraseIdx_iff_getElem] at this
   obtain ⟨j,hj,hne,he⟩:=this
   rw [hg] at he
   exact hne ((xj hn).1 he)
  ·simp only [ik] at hv
   rcases List.mem_cons.1 hv with rfl|hv
   ·rw [hg];exact List.getElem_mem _
   ·exact List.mem_of_mem_eraseIdx (c v hv)
theorem jL (n:Nat):(kB n).Nodup:=by
 unfold kB
 refine List.Pairwise.map _ (fun a b h => ?_) List.nodup_range
 intro e
 exact h (by omega)
theorem Im {x:List Int} {n:Int} {i:Nat} (hi:i<x.length) (hn:x.Nodup) (hm:∀ v ∈ x,0≤v∧v<n):ke x n i=true:=by
 have hg:x.getD i 0=x[i]:=by rw [List.getD_eq_getElem?_getD,List.getElem?_eq_getElem hi];rfl
 rw [ke,hg,decide_eq_true (hm _ (List.getElem_mem hi)),Bool.true_and,Bool.not_eq_true',List.contains_eq_mem,decide_eq_false_iff_not]
 intro h
 obtain ⟨j,hj,he⟩:=List.getElem_of_mem h
 rw [List.getElem_take] at he
 rw [List.length_take] at hj
 have:=(xj hn).1 he
 omega
theorem uF {l:List Int} {n:Int} (h0:0≤n) (h1:n≤64):dt (kW l n) n=true:=by
 have hk:∀ x:List Int,x.length=n.toNat→x.Nodup→(∀ v ∈ x,v ∈ kB n.toNat)→(List.range n.toNat).all (ke x n)=true:=fun x hl hn hm=>by
  rw [List.all_eq_true]
  intro i hi
  refine Im (by rw [hl];exact List.mem_range.1 hi) hn fun v hv => ?_
  have:=hm v hv
  simp only [kB,List.mem_map,List.mem_range] at this
  obtain ⟨a,ha,rfl⟩:=this
  omega
 unfold kW
 split
 ·rw [dt,decide_eq_true ⟨h0,by omega, .inl rfl⟩,Bool.true_and]
  exact hk _ (gL _) (jL _) fun v hv=>hv
 ·rename_i hc
  obtain ⟨a,b,c⟩:=qL (l:=l) n.toNat 0 (kB n.toNat) (gL _) (jL _)
  rw [dt,decide_eq_true ⟨h0,by omega, .inr (by omega)⟩,Bool.true_and]
  by_cases hz:(ik l n.toNat 0 (kB n.toNat)).length=0
  ·rw [cZ,if_pos hz]
   exact hk _ (gL _) (jL _) fun v hv=>hv
  ·rw [cZ,if_neg hz]
   exact hk _ a b c
theorem iE {c:Rect} (h:Small c):aU c=false:=by
 obtain ⟨h1,h2,h3,h4,h5,h6⟩:=h
 unfold aU kI
 simp
 omega
theorem BA (s:Scene):bP (aG s) (cT s) (cW s)=true:=by
 rw [bP,iE (cY s)]
 unfold cT cW aG
 simp only [Bool.not_false,Bool.true_and,decide_eq_true_eq]
 have hw0:1≤1+s.w % 5∧1+s.w % 5≤5:=by omega
 have hh0:1≤1+s.h % 4∧1+s.h % 4≤4:=by omega
 have bw:=Int.emod_nonneg s.tileW (show 1+s.w % 5≠0 by omega)
 have bw2:=Int.emod_lt_of_pos s.tileW (show 0<1+s.w % 5 by omega)
 have bh:=Int.emod_nonneg s.tileH (show 1+s.h % 4≠0 by omega)
 have bh2:=Int.emod_lt_of_pos s.tileH (show 0<1+s.h % 4 by omega)
 omega
theorem AN (s:Scene):0≤aX (aG s) (cT s) (cW s) * bz (aG s) (cT s) (cW s)∧aX (aG s) (cT s) (cW s) * bz (aG s) (cT s) (cW s)≤64:=by
 refine ⟨(fu _ _ _).2, ?_⟩
 have ht:=BA s
 rw [aX,bz,if_pos ht,if_pos ht]
 obtain ⟨h1,h2,h3,h4,h5,h6⟩:=cY s
 simp only [bP,Bool.and_eq_true,decide_eq_true_eq] at ht
 obtain ⟨_,t1,t2,t3,t4⟩:=ht
 have b1:0≤((aG s).x1 - (aG s).x0 - 1) / cT s:=Int.ediv_nonneg (by omega) (by omega)
 have b2:((aG s).x1 - (aG s).x0 - 1) / cT s≤(aG s).x1 - (aG s).x0 - 1:=Int.ediv_le_self _ (by omega)
 have c1:0≤((aG s).y1 - (aG s).y0 - 1) / cW s:=Int.ediv_nonneg (by omega) (by omega)
 have c2:((aG s).y1 - (aG s).y0 - 1) / cW s≤(aG s).y1 - (aG s).y0 - 1:=Int.ediv_le_self _ (by omega)
 have:(((aG s).x1 - (aG s).x0 - 1) / cT s+1) * (((aG s).y1 - (aG s).y0 - 1) / cW s+1)≤5 * 4:=Int.mul_le_mul (by omega) (by omega) (by omega) (by omega)
 omega
theorem oV (s:Scene):1≤(bq s).length∧(bq s).length≤4:=by
 unfold bq
 split
 ·simp
 ·have:(bS s).length≤4:=by simp [bS];omega
  omega
theorem SW {s:Scene} {t:Script} (hb:t.bits=(aD s).bits) (hc:t.canvas=aG s) (hw:t.tileW=cT s) (hh:t.tileH=cW s) (ho:t.order=(aD s).order) (hi:t.images.length≤64) (hp:t.ops.length≤4096):bD t=0:=by
 have hm:=mL s.bits
 have hsm:=cY s
 have he:=iE hsm
 have ht:=BA s
 have hl:=AN s
 obtain ⟨h1,h2,h3,h4,h5,h6⟩:=hsm
 have ha:((aG s).x1 - (aG s).x0) * ((aG s).y1 - (aG s).y0)≤5 * 4:=Int.mul_le_mul (by omega) (by omega) (by omega) (by omega)
 have hw2:bJ 1048576 [(aG s).x0,(aG s).y0]=true:=by
  simp [bJ];omega
 rw [bD,hb,hc,hw,hh,ho,ht,hw2,he,iZ,he]
 rw [if_neg (by unfold aD;dsimp only;split <;> omega),if_neg (by simp;omega),if_neg (by simp),if_neg ?_,if_neg (by omega)]
 rw [show (aD s).order=kW s.order _ from rfl,uF hl.1 hl.2]
 simp
theorem zp (s:Scene):bA (aD s).bits=dF s.bits:=by
 have hm:=mL s.bits
 unfold aD bA
 dsimp only
 rcases hm with h|h <;> rw [h] <;> rfl
def kt (b:Int) (n:Nat):List Op→List Op→Prop
 | [],_=>True
 | o :: r,l=>fC b n o l=0∧kt b n r (cI l o)
def cK (ops l:List Op):List Op:=ops.foldl cI l
theorem gF {b:Int} {n:Nat}:∀ {a c l:List Op},kt b n (a ++ c) l↔kt b n a l∧kt b n c (cK a l)
 | [],c,l=>by simp [kt,cK]
 | o :: r,c,l=>by
  simp only [List.cons_append,kt,gF (a:=r),and_assoc]
  rfl
theorem ez {a c l:List Op}:cK (a ++ c) l=cK c (cK a l):=List.foldl_append
theorem vy {b:Int} {n:Nat}:∀ {ops l:List Op} {i:Nat},kt b n ops l→cK ops l=[]→fR b n i ops l=(0,0)
 | [],l,i,_,h2=>by
  have:l=[]:=h2
  subst this
  rfl
 | o :: r,l,i,h1,h2=>by
  rw [fR,if_pos h1.1]
  exact vy h1.2 h2
theorem Ew {b:Int} {n:Nat}:∀ (k:Nat) (l:List Op),l.length=k→kt b n (List.replicate k iF) l∧cK (List.replicate k iF) l=[]
 | 0,l,hl=>⟨trivial,List.eq_nil_of_length_eq_zero hl⟩
 | k+1,l,hl=>by
  rw [List.replicate_succ]
  have hp:=Ew (b:=b) (n:=n) k l.dropLast (by rw [List.length_dropLast];omega)
  have hn:cI l iF=l.dropLast:=rfl
  refine ⟨⟨?_,by rw [hn];exact hp.1⟩, ?_⟩
  ·rw [fC,if_neg (by decide),if_neg (by decide),if_neg (fun q=>by omega)];rfl
  ·show cK _ (cI l iF)=[]
   rw [hn];exact hp.2
structure OpTame (m:Int) (o:Op):Prop where
 x : -30≤o.x∧o.x≤30
 y : -30≤o.y∧o.y≤30
 op:0≤o.opacity∧o.opacity≤m
 mx : -30≤o.maskX∧o.maskX≤30
 my : -30≤o.maskY∧o.maskY≤30
theorem Sb {s : Scene} {r : Raw} {l : List Op} (hl : l.length ≤ 9) :
  fC (aD s).bits (bq s).length (nB r (decide (r.kind % 8<3)) (bq s).length (aG s).x0 (aG s).y0 (gX l) (dF s.bits)) l=0 ∧
  OpTame (dF s.bits) (nB r (decide (r.kind % 8<3)) (bq s).length (aG s).x0 (aG s).y0 (gX l) (dF s.bits)):=by
 have hi:=oV s
 have hm:=mL s.bits
 obtain ⟨h1,h2,h3,h4,h5,h6⟩:=cY s
 have q1:=fj r.x (aG s).x0
 have q2:=fj r.y (aG s).y0
 have q3:=fj r.maskX (aG s).x0
 have q4:=fj r.maskY (aG s).y0
 have q5:=eJ (r.opacity.tdiv 2) (dF s.bits) (by omega)
 have q6:=Int.emod_nonneg (r.mask.tdiv 4) (show ((bq s).length:Int)≠0 by omega)
 have q7:=Int.emod_lt_of_pos (r.mask.tdiv 4) (show (0:Int)<(bq s).length by omega)
 have q8:=Int.emod_nonneg r.image (show ((bq s).length:Int)≠0 by omega)
 have q9:=Int.emod_lt_of_pos r.image (show (0:Int)<(bq s).length by omega)
 generalize hc:gX l=free
 have hmx:=zp s
 constructor
 ·rw [fC,hmx]
  by_cases hp:r.kind % 8<3
  ·rw [decide_eq_true hp]
   rw [if_neg (by simp [nB]),if_neg ?qa,if_neg (by simp [nB]),if_neg (by simp [nB]),if_neg ?qb,if_neg ?qc,if_neg ?qd,if_neg ?qe,if_neg ?qf,if_neg ?qg,if_neg (by omega)]
   case qa =>
    simp only [nB,fc]
    by_cases hk:r.mask % 4=0
    ·simp [hk];omega
    ·simp [hk]
   case qb =>
    simp only [nB]
    by_cases hk:r.mask % 4=0
    ·simp [hk];omega
    ·simp [hk]
   case qc =>
    simp only [nB,bJ]
    by_cases hk:r.mask % 4=0
    ·simp [hk];omega
    ·simp [hk]
   case qd =>
    simp only [nB]
    split <;> omega
   case qe =>
    simp only [nB,jj]
    split <;> simp <;> omega
   case qf =>
    simp only [nB,jj]
    split <;> simp <;> omega
   case qg =>
    simp only [nB,hc]
    intro q
    rw [q.2] at q
    simp at q
  ·rw [decide_eq_false hp]
   rw [if_neg (by simp [nB]),if_neg ?qa,if_neg (by simp [nB]),if_neg (by simp [nB]),if_neg ?qb,if_neg ?qc,if_neg ?qd,if_neg ?qe,if_neg ?qf,if_neg ?qg,if_neg (by simp [nB])]
   case qa =>
    simp only [nB,fc]
    by_cases hk:r.mask % 4=0
    ·simp [hk];omega
    ·simp [hk]
   case qb =>
    simp only [nB]
    by_cases hk:r.mask % 4=0
    ·simp [hk];omega
    ·simp [hk];omega
   case qc =>
    simp only [nB,bJ]
    by_cases hk:r.mask % 4=0
    ·simp [hk];omega
    ·simp [hk];omega
   case qd =>
    simp only [nB]
    split <;> omega
   case qe =>
    simp only [nB,jj]
    split <;> simp <;> omega
   case qf =>
    simp only [nB,jj]
    split <;> simp <;> omega
   case qg =>
    simp only [nB,hc]
    intro q
    rw [q.2] at q
    simp at q
 ·refine ⟨?_, ?_, ?_, ?_, ?_⟩ <;> simp only [nB] <;> (repeat' split) <;> omega
structure GInv (s:Scene) (k:Nat) (st:List Op × List Op):Prop where
 ok:kt (aD s).bits (bq s).length st.1 []
 op:cK st.1 []=st.2
 l1:st.1.length≤k
 l2:st.2.length≤k
 tame:∀ o ∈ st.1,OpTame (dF s.bits) o
theorem ED {m:Int} (h:0≤m):OpTame m iF:=⟨by decide,by decide,⟨by decide,h⟩,by decide,by decide⟩
theorem Fe {s:Scene} {k:Nat} {st:List Op × List Op} {r:Raw} (h:GInv s k st) (hk:k≤9):GInv s (k+1) (ob (bq s).length (aG s) (dF s.bits) st r):=by
 obtain ⟨h1,h2,h3,h4,h5⟩:=h
 have hm:=mL s.bits
 unfold ob
 split
 ·rename_i hc
  refine ⟨gF.2 ⟨h1, ?_,trivial⟩, ?_,by simp;omega,by rw [List.length_dropLast];omega,fun o ho => ?_⟩
  ·rw [h2,fC,if_neg (by decide),if_neg (by decide),if_neg (fun q=>by omega)];rfl
  ·rw [ez,h2];rfl
  ·rcases List.mem_append.1 ho with ho|ho
   ·exact h5 o ho
   ·rw [List.mem_singleton.1 ho];exact ED (by omega)
 ·have hg:=Sb (s:=s) (r:=r) (l:=st.2) (by omega)
  refine ⟨gF.2 ⟨h1,by rw [h2];exact hg.1,trivial⟩, ?_,by simp;omega, ?_,fun o ho => ?_⟩
  ·rw [ez,h2]
   show cI st.2 _=_
   by_cases hp:r.kind % 8<3
   ·rw [if_pos hp,cI,if_pos (by simp [nB,hp])]
   ·rw [if_neg hp,cI,if_neg (by simp [nB,hp]),if_neg (by simp [nB,hp])]
  ·dsimp only
   split
   ·simp;omega
   ·omega
  ·rcases List.mem_append.1 ho with ho|ho
   ·exact h5 o ho
   ·rw [List.mem_singleton.1 ho];exact hg.2
theorem wG {s:Scene}:∀ (l:List Raw) (k:Nat) (st:List Op × List Op),GInv s k st→k+l.length≤9→GInv s (k+l.length) (l.foldl (ob (bq s).length (aG s) (dF s.bits)) st)
 | [],k,st,h,_=>h
 | r :: l,k,st,h,hk=>by
  rw [List.length_cons] at hk ⊢
  have:=wG l (k+1) _ (Fe (r:=r) h (by omega)) (by omega)
  rw [show k+(l.length+1)=k+1+l.length by omega]
  exact this
theorem HE (s:Scene):GInv s 9 (vK s):=by
 have h:=wG (s:=s) (s.ops.take 9) 0 ([],[]) ⟨trivial,rfl,Nat.le_refl _,Nat.le_refl _,fun o ho=>by simp at ho⟩ (by rw [List.length_take];omega)
 have hl:0+(s.ops.take 9).length≤9:=by rw [List.length_take];omega
 exact ⟨h.1,h.2,Nat.le_trans h.3 hl,Nat.le_trans h.4 hl,h.5⟩
structure GGood (s:Scene) (ops:List Op):Prop where
 ok:kt (aD s).bits (bq s).length ops []
 op:cK ops []=[]
 len:ops.length≤18
 tame:∀ o ∈ ops,OpTame (dF s.bits) o
theorem pe (s:Scene):GGood s (aD s).ops:=by
 obtain ⟨h1,h2,h3,h4,h5⟩:=HE s
 have hm:=mL s.bits
 have hp:=Ew (b:=(aD s).bits) (n:=(bq s).length) (vK s).2.length (vK s).2 rfl
 refine ⟨gF.2 ⟨h1,by rw [h2];exact hp.1⟩, ?_, ?_,fun o ho => ?_⟩
 ·show cK ((vK s).1 ++ _) []=[]
  rw [ez,h2];exact hp.2
 ·show ((vK s).1 ++ _).length≤18
  rw [List.length_append,List.length_replicate];omega
 ·rcases List.mem_append.1 ho with ho|ho
  ·exact h5 o ho
  ·rw [(List.mem_replicate.1 ho).2];exact ED (by omega)
end Go.Proofs.YtcbifofjjpfbcaaGreatDoor
set_option maxHeartbeats 1000000
set_option maxRecDepth 16000
namespace Go.Proofs.YtcbifofjjpfbcaaGreatDoor
open Go Go.SL
open Go.RowKit (wrap64)
theorem AA (a b:Int):(if b>a then b else a)=max a b:=by split <;> omega
theorem Am (a b:Int):(if b<a then b else a)=min a b:=by split <;> omega
attribute [local go_sem] AA Am
theorem lR (r q:Rect):aF Sg 82 [ag (bc r),ag (bc q)] (fun x=>x = .b (ag (bc (eS r q)))):=by
 refine aI Tryz.func82 [.cell 4 28] ?_
 repeat' (first|refine an ?_|((first|refine aj (fun K hK => ?_)|refine ae (cN _) ?_|refine aq (fun hg=>cN _) ?_|refine ae (sy ⟨max r.x0 q.x0,max r.y0 q.y0,min r.x1 q.x1,min r.y1 q.y1⟩) ?_);and_intros;all_goals first|(refine hK _ ?_;clear hK K)|try exact aa)|(refine aH (fun hb => ?_) (fun hb => ?_);all_goals try exact ax)|(refine ai ?_;(try clear hB KB);(try clear hK K)))
 ·rw [eS,if_pos hb];rfl
 ·rw [eS,if_neg (by rw [hb.1,hb.2];simp)];rfl
theorem gr (v:Int):aF Sg 186 [I v] (fun x=>x = .b (B (iB v))):=by
 refine aI Tryz.func186 [.tmp 2] ?_
 repeat' (first|(refine aj (fun K hK => ?_);and_intros;all_goals first|(refine hK _ ?_;clear hK K)|try exact aa)|(refine ai ?_;(try clear hB KB);(try clear hK K)))
 refine dS ?_
 (try simp only [iB,Bool.and_eq_true,Bool.or_eq_true,Bool.not_eq_true',Bool.not_eq_false',decide_eq_true_eq,decide_eq_false_iff_not,ge_iff_le,gt_iff_lt,beq_iff_eq,bne_iff_ne,ne_eq,Bool.or_eq_false_iff,Bool.and_eq_false_imp,Bool.not_true,Bool.not_false])
 try omega
theorem yx (o:Int):∃ a b c,oe o=[.val (.string (yo o)),PI a,PI b,PI c]∧(decide (1≤o∧o≤12) && ((b == 1 || b == 3) && (c == 2 || c == 3)))=cQ o:=by
 by_cases h:1≤o∧o≤12
 ·have:o=1∨o=2∨o=3∨o=4∨o=5∨o=6∨o=7∨o=8∨o=9∨o=10∨o=11∨o=12:=by omega
  rcases this with rfl|rfl|rfl|rfl|rfl|rfl|rfl|rfl|rfl|rfl|rfl|rfl <;> exact ⟨_,_,_,rfl,by decide +kernel⟩
 ·obtain ⟨a,b,c,e,_⟩:=nA o
  refine ⟨a,b,c,e, ?_⟩
  rw [decide_eq_false h,Bool.false_and,cQ]
  exact (decide_eq_false (by omega)).symm
theorem yU (o:Int):aF Sg 159 [I o] (fun x=>x = .b (B (cQ o))):=by
 obtain ⟨a,b,c,he,hn⟩:=yx o
 have hf:=nj o
 rw [he] at hf
 rw [← hn]
 refine aI Tryz.func159 [.tmp 2] ?_
 repeat' (first|((first|refine aj (fun K hK => ?_)|refine ae (hf) ?_);and_intros;all_goals first|(refine hK _ ?_;clear hK K)|try exact aa)|(refine ai ?_;(try clear hB KB);(try clear hK K)))
 rw [Bool.and_assoc]
def zy (l:List Rect):PV := .lst 4 l.length (dG bc l)
attribute [go_sem] zy
theorem wR {l:List Rect} {i:Nat} (h:i<l.length):dd (l.take (i+1))=fS (dd (l.take i)) (l.getD i default):=by
 rw [List.take_add_one,List.getElem?_eq_getElem h,List.getD_eq_getElem?_getD,List.getElem?_eq_getElem h]
 exact wW _ _
theorem xF (l:List Rect) (hl:l.length≤4611686018427387904):aF Sg 120 [.c (.p (zy l))] (fun x=>x = .b (ag (bc (dd l)))):=by
 refine aI Tryz.func120 [.cell 2 28] ?_
 repeat' (first|refine an ?_|(refine aj (fun K hK => ?_);and_intros;all_goals first|(refine hK _ ?_;clear hK K)|try exact aa))
 refine aM (X:=Nat × Rect) (fun x=>bg [(2, .b (.c (.ptr 0 0))),(3, .b (.c (.ptr 1 0))),(6, .b (.c (.p (zy l)))),(7, .b (I l.length)),(8, .b (I x.1))] [(0, .fix ((bc cX).map CV.p)),(1, .fix ((bc x.2).map CV.p))] 2)
  (fun x=>x.1≤l.length∧x.2=dd (l.take x.1)) (fun x=>l.length - x.1) (0,cX) ?_ ?_ ?_
 ·exact ⟨by dsimp only;omega,rfl⟩
 ·refine aE [(1,some 1)] ?_ ?_
  and_intros
  all_goals first|exact aw|skip
 ·rintro ⟨i,h⟩ ⟨hi,hh⟩
  dsimp only at hi hh ⊢
  have e0:=wR (l:=l) (i:=i)
  cases he:aU (l.getD i default) with
  | true =>
   repeat' (first|refine ak he ?_|refine an ?_|((first|refine aj (fun K hK => ?_)|refine ae (cN (l.getD i default)) ?_);and_intros;all_goals first|(refine hK _ ?_;clear hK K)|try exact aa)|(refine aH (fun hb => ?_) (fun hb => ?_);all_goals try exact ax)|(refine ai ?_;(try clear hB KB);(try clear hK K)))
   ·rw [ah]
    refine au (i+1,h) ?_ ⟨by dsimp only;omega,by rw [e0 (by omega),fS,if_pos he,hh]⟩ (by dsimp only;omega)
    refine aE [(1,some 1)] ?_ ?_
    and_intros
    all_goals first|exact aw|skip
   ·rw [hh,show i=l.length by omega,List.take_length];rfl
  | false =>
   cases he2:aU h with
   | true =>
    repeat' (first|refine ak (And.intro he he2) ?_|refine an ?_|((first|refine aj (fun K hK => ?_)|refine ae (cN (l.getD i default)) ?_|refine ae (cN h) ?_);and_intros;all_goals first|(refine hK _ ?_;clear hK K)|try exact aa)|(refine aH (fun hb => ?_) (fun hb => ?_);all_goals try exact ax)|(refine ai ?_;(try clear hB KB);(try clear hK K)))
    ·rw [ah]
     refine au (i+1,l.getD i default) ?_ ⟨by dsimp only;omega,by rw [e0 (by omega),fS,if_neg (by rw [he];simp),← hh,if_pos he2]⟩ (by dsimp only;omega)
     refine aE [(1,some 1)] ?_ ?_
     and_intros
     all_goals first|exact aw|skip
    ·rw [hh,show i=l.length by omega,List.take_length];rfl
   | false =>
    repeat' (first|refine ak (And.intro he he2) ?_|refine an ?_|((first|refine aj (fun K hK => ?_)|refine ae (cN (l.getD i default)) ?_|refine ae (cN h) ?_);and_intros;all_goals first|(refine hK _ ?_;clear hK K)|try exact aa)|(refine aH (fun hb => ?_) (fun hb => ?_);all_goals try exact ax)|(refine ai ?_;(try clear hB KB);(try clear hK K)))
    ·rw [ah]
     refine au (i+1,⟨min h.x0 (l.getD i default).x0,min h.y0 (l.getD i default).y0,max h.x1 (l.getD i default).x1,max h.y1 (l.getD i default).y1⟩) ?_ ⟨by dsimp only;omega,by rw [e0 (by omega),fS,if_neg (by rw [he];simp),← hh,if_neg (by rw [he2];simp)]⟩ (by dsimp only;omega)
     refine aE [(1,some 1)] ?_ ?_
     and_intros
     all_goals first|exact aw|skip
    ·rw [hh,show i=l.length by omega,List.take_length];rfl
theorem mh {v:Int} (h:iB v=false) : -1099511627776≤v∧v≤1099511627776:=by
 simp only [iB,decide_eq_false_iff_not] at h;omega
theorem rE (s:Script) (i x y:Int) (hs:ScriptLen s):aF Sg 161 [ag (aL s),I i,I x,I y] (fun r=>r = .b (ag (bc (dP s i x y)))):=by
 obtain ⟨h1,h2,h3⟩:=id hs
 refine aI Tryz.func161 [.cell 8 28] ?_
 cases hfar:(iB x || iB y || iB (s.images.getD i.toNat default).w || iB (s.images.getD i.toNat default).h) with
 | true =>
  repeat' (first|refine ak hfar ?_|refine an ?_|((first|refine aj (fun K hK => ?_)|refine ae (gr x) ?_|refine aq (fun hg=>gr y) ?_|refine aq (fun hg=>gr (s.images.getD i.toNat default).w) ?_|refine aq (fun hg=>gr (s.images.getD i.toNat default).h) ?_);and_intros;all_goals first|(refine hK _ ?_;clear hK K)|try exact aa)|(refine aH (fun hb => ?_) (fun hb => ?_);all_goals try exact ax)|(refine ai ?_;(try clear hB KB);(try clear hK K)))
  ·rw [dP,if_pos (by omega)];rfl
  ·rw [dP,if_neg (by omega),if_pos hfar];rfl
 | false =>
  have hq:=hfar
  simp only [Bool.or_eq_false_iff] at hq
  have f1:=mh hq.1.1.1
  have f2:=mh hq.1.1.2
  have f3:=mh hq.1.2
  have f4:=mh hq.2
  repeat' (first|refine ak hfar ?_|refine an ?_|((first|refine aj (fun K hK => ?_)|refine ae (gr x) ?_|refine aq (fun hg=>gr y) ?_|refine aq (fun hg=>gr (s.images.getD i.toNat default).w) ?_|refine aq (fun hg=>gr (s.images.getD i.toNat default).h) ?_|refine ae (lR ⟨x,y,x+(s.images.getD i.toNat default).w,y+(s.images.getD i.toNat default).h⟩ s.canvas) ?_);and_intros;all_goals first|(refine hK _ ?_;clear hK K)|try exact aa)|(refine aH (fun hb => ?_) (fun hb => ?_);all_goals try exact ax)|(refine ai ?_;(try clear hB KB);(try clear hK K)))
  ·rw [dP,if_pos (by omega)];rfl
  ·rw [dP,if_neg (by omega),if_neg (by rw [hfar];simp)];rfl
theorem vz (s:Script) (o:Op) (hs:ScriptLen s):aF Sg 119 [ag (aL s),ag (eA o)] (fun r=>r = .b (ag (bc (bE s o)))):=by
 refine aI Tryz.func119 [.cell 4 28] ?_
 repeat' (first|refine an ?_|((first|refine aj (fun K hK => ?_)|refine ae (rE s o.image o.x o.y hs) ?_);and_intros;all_goals first|(refine hK _ ?_;clear hK K)|try exact aa)|(refine aH (fun hb => ?_) (fun hb => ?_);all_goals try exact ax)|(refine ai ?_;(try clear hB KB);(try clear hK K)))
 ·rw [bE,if_neg (by omega)];rfl
 ·rw [bE,if_pos (by omega)];rfl
theorem wb (s:Script) (o:Op) (hs:ScriptLen s) (hm:0≤o.mask∧o.mask≤1000000):aF Sg 160 [ag (aL s),ag (eA o)] (fun r=>r = .b (ag (bc (bT s o)))):=by
 obtain ⟨m1,m2⟩:=hm
 refine aI Tryz.func160 [.cell 4 28] ?_
 repeat' (first|refine an ?_|((first|refine aj (fun K hK => ?_)|refine ae (lR s.canvas s.canvas) ?_|refine ae (rE s (o.mask - 1) o.maskX o.maskY hs) ?_);and_intros;all_goals first|(refine hK _ ?_;clear hK K)|try exact aa)|(refine aH (fun hb => ?_) (fun hb => ?_);all_goals try exact ax)|(refine ai ?_;(try clear hB KB);(try clear hK K)))
 ·rw [bT,if_pos (by omega)];rfl
 ·rw [bT,if_neg (by omega)];rfl
theorem AR (s:Script) (o:Op) (r:Rect) (hs:ScriptLen s) (hm:0≤o.mask∧o.mask≤1000000):aF Sg 118 [ag (aL s),ag (eA o),ag (bc r)] (fun x=>x = .b (ag (bc (fK s o r)))):=by
 refine aI Tryz.func118 [.cell 6 28] ?_
 repeat' (first|refine an ?_|((first|refine aj (fun K hK => ?_)|refine ae (yU o.operator) ?_|refine ae (wb s o hs hm) ?_|refine ae (lR r (bT s o)) ?_);and_intros;all_goals first|(refine hK _ ?_;clear hK K)|try exact aa)|(refine aH (fun hb => ?_) (fun hb => ?_);all_goals try exact ax)|(refine ai ?_;(try clear hB KB);(try clear hK K)))
 ·rw [fK,if_pos hb];rfl
 ·rw [fK,if_neg (by simp [*]),if_pos (by omega)];rfl
 ·rw [fK,if_neg (by simp [*]),if_neg (by omega)];rfl
end Go.Proofs.YtcbifofjjpfbcaaGreatDoor
set_option maxHeartbeats 2000000
set_option maxRecDepth 16000
namespace Go.Proofs.YtcbifofjjpfbcaaGreatDoor
open Go Go.SL
open Go.RowKit (wrap64)
attribute [local go_sem] qE oB
theorem Nn {n:Int} {k:Nat} (h0:0≤n) (hk:k<64) (hm:n % 2 ^ (k+1)=0) (h:n+2 ^ k<18446744073709551616):PA .u64 n (2 ^ k)=n+2 ^ k:=by
 obtain ⟨m,rfl⟩:=Int.eq_ofNat_of_zero_le h0
 have p:((2:Int) ^ k)=((2 ^ k:Nat):Int):=by simp
 have p1:((2:Int) ^ (k+1))=((2 ^ (k+1):Nat):Int):=by simp
 rw [p] at h ⊢
 rw [p1] at hm
 have hlt:m+2 ^ k<18446744073709551616:=by omega
 have hm':m % 2 ^ (k+1)=0:=by omega
 show IntKind.u64.wrap (BitVec.ofInt 64 (m:Int) ||| BitVec.ofInt 64 ((2 ^ k:Nat):Int)).toNat=_
 rw [BitVec.toNat_or,BitVec.toNat_ofInt,BitVec.toNat_ofInt]
 have e1:((m:Int) % ((2 ^ 64:Nat):Int)).toNat=m:=by omega
 have e2:(((2 ^ k:Nat):Int) % ((2 ^ 64:Nat):Int)).toNat=2 ^ k:=by omega
 rw [e1,e2]
 have e3:m ||| 2 ^ k=m+2 ^ k:=by
  have h1:2 ^ (k+1) * (m / 2 ^ (k+1))=m:=by have:=Nat.div_add_mod m (2 ^ (k+1));omega
  have:=Nat.two_pow_add_eq_or_of_lt (b:=2 ^ k) (i:=k+1) (Nat.pow_lt_pow_right (by decide) (by omega)) (m / 2 ^ (k+1))
  rw [h1] at this
  exact this.symm
 rw [e3,oP (by omega) (by omega)]
 omega
end Go.Proofs.YtcbifofjjpfbcaaGreatDoor
set_option maxHeartbeats 8000000
set_option maxRecDepth 16000
namespace Go.Proofs.YtcbifofjjpfbcaaGreatDoor
open Go Go.SL
open Go.RowKit (wrap64)
theorem MG {y:Int} (h0:0<y) (h1:y<18446744073709551616):∃ s:Nat,(64:Int) - eK y.toNat=s∧s≤63∧9223372036854775808≤y * 2 ^ s∧y * 2 ^ s<18446744073709551616:=by
 obtain ⟨n,rfl⟩:=Int.eq_ofNat_of_zero_le (show 0≤y by omega)
 have hl:=ES (x:=(n:Int)) ⟨by omega,h1⟩
 rw [Int.toNat_natCast] at hl ⊢
 obtain ⟨b0,b1,b2⟩:=nt (n:=n) (by omega)
 generalize eK n=l at *
 refine ⟨64 - l,by omega,by omega, ?_, ?_⟩
 ·have:=Nat.mul_le_mul_right (2 ^ (64 - l)) b1
  rw [← Nat.pow_add,show l - 1+(64 - l)=63 by omega] at this
  have e:((n:Int) * 2 ^ (64 - l))=((n * 2 ^ (64 - l):Nat):Int):=by simp
  rw [e];omega
 ·have:=Nat.mul_lt_mul_of_pos_right b2 (show 0<2 ^ (64 - l) from Nat.pow_pos (by decide))
  rw [← Nat.pow_add,show l+(64 - l)=64 by omega] at this
  have e:((n:Int) * 2 ^ (64 - l))=((n * 2 ^ (64 - l):Nat):Int):=by simp
  rw [e];omega
theorem KZ {a b:Int} {s:Nat} (ha:0≤a) (hm:a % 2 ^ s=0) (hb:0≤b) (bZ:b<2 ^ s) (h:a+b<18446744073709551616):PA .u64 a b=a+b:=by
 obtain ⟨m,rfl⟩:=Int.eq_ofNat_of_zero_le ha
 obtain ⟨n,rfl⟩:=Int.eq_ofNat_of_zero_le hb
 have p:((2:Int) ^ s)=((2 ^ s:Nat):Int):=by simp
 rw [p] at hm bZ
 have hm':m % 2 ^ s=0:=by omega
 show IntKind.u64.wrap (BitVec.ofInt 64 (m:Int) ||| BitVec.ofInt 64 (n:Int)).toNat=_
 rw [BitVec.toNat_or,BitVec.toNat_ofInt,BitVec.toNat_ofInt]
 have e1:((m:Int) % ((2 ^ 64:Nat):Int)).toNat=m:=by omega
 have e2:((n:Int) % ((2 ^ 64:Nat):Int)).toNat=n:=by omega
 rw [e1,e2]
 have e3:m ||| n=m+n:=by
  have h1:2 ^ s * (m / 2 ^ s)=m:=by have:=Nat.div_add_mod m (2 ^ s);omega
  have:=Nat.two_pow_add_eq_or_of_lt (b:=n) (i:=s) (by omega) (m / 2 ^ s)
  rw [h1] at this
  exact this.symm
 rw [e3,oP (by omega) (by omega)]
 omega
theorem Jk {a:Int} (h0:0≤a) (h1:a<18446744073709551616):CE .u64 a 4294967295=a % 4294967296:=by
 obtain ⟨n,rfl⟩:=Int.eq_ofNat_of_zero_le h0
 have e:(BitVec.ofInt 64 (n:Int)).toNat=n:=by
  rw [BitVec.toNat_ofInt];omega
 show IntKind.u64.wrap (BitVec.ofInt 64 (n:Int) &&& BitVec.ofInt 64 4294967295).toNat=_
 rw [BitVec.toNat_and,e,show (BitVec.ofInt 64 4294967295).toNat=2 ^ 32 - 1 by decide,Nat.and_two_pow_sub_one_eq_mod,oP (by omega) (by omega)]
 omega
theorem QQ {hi lo : Int} {s : Nat} (hh : 0 ≤ hi) (l0 : 0 ≤ lo) (l1 : lo < 18446744073709551616) (s63 : s ≤ 63) (hb : hi * 2 ^ s < 18446744073709551616 - 2 ^ s + 1) :
  PA .u64 (hi * 2 ^ s) (lo.fdiv (2 ^ (64 - s)))=(hi * 18446744073709551616+lo) * 2 ^ s / 18446744073709551616∧lo * 2 ^ s % 18446744073709551616=(hi * 18446744073709551616+lo) * 2 ^ s % 18446744073709551616:=by
 have hk:(0:Int)<2 ^ s:=Int.pow_pos (by decide)
 have hj:(0:Int)<2 ^ (64 - s):=Int.pow_pos (by decide)
 have hkj:(2:Int) ^ (64 - s) * 2 ^ s=18446744073709551616:=by
  rw [← Int.pow_add,show 64 - s+s=64 by omega];rfl
 have h1:(hi * 18446744073709551616+lo) * 2 ^ s=hi * 2 ^ s * 18446744073709551616+lo * 2 ^ s:=by
  rw [Int.add_mul,Int.mul_right_comm]
 have h2:lo * 2 ^ s / 18446744073709551616=lo / 2 ^ (64 - s):=by
  rw [← hkj,Int.mul_ediv_mul_of_pos_left _ _ hk]
 have h3:0≤lo / 2 ^ (64 - s):=Int.ediv_nonneg l0 (by omega)
 have h4:lo / 2 ^ (64 - s)<2 ^ s:=by
  rw [Int.ediv_lt_iff_lt_mul hj,Int.mul_comm,hkj];exact l1
 rw [h1]
 constructor
 ·rw [Int.fdiv_eq_ediv_of_nonneg _ (by omega),KZ (s:=s) (az hh (by omega)) (Int.mul_emod_left _ _) h3 h4 (by omega),← h2]
  generalize lo * 2 ^ s=b
  generalize hi * 2 ^ s=a
  omega
 ·generalize lo * 2 ^ s=b
  generalize hi * 2 ^ s=a
  omega
theorem XM {a b c:Int} (h0:0≤a+b - c) (h1:a+b - c<18446744073709551616):IntKind.u64.wrap (IntKind.u64.wrap (IntKind.u64.wrap a+b) - IntKind.u64.wrap c)=a+b - c:=by
 rw [pB,pB,pB,pB];omega
theorem Kf (hi lo y : Int) (hh : 0 ≤ hi) (hy : hi < y) (hyu : y < 18446744073709551616) (hlo : Q64 lo) :
  aF Sg 248 [cq hi,cq lo,cq y] (fun r=>r = .tup [cq ((hi * 18446744073709551616+lo) / y),cq ((hi * 18446744073709551616+lo) % y)]):=by
 obtain ⟨l0,l1⟩:=hlo
 have g1:(y == 0)=false:=beq_eq_false_iff_ne.2 (by omega)
 have g2:decide (y≤hi)=false:=decide_eq_false (by omega)
 by_cases hz:hi=0
 ·subst hz
  have g3:((0:Int) == 0)=true:=rfl
  refine aI Tryz.func248 [.tmp 6, .tmp 7] ?_
  repeat' (first|refine ak (And.intro g1 (And.intro g2 g3)) ?_|refine an ?_|(refine aj (fun K hK => ?_);and_intros;all_goals first|(refine hK _ ?_;clear hK K)|try exact aa)|(refine ai ?_;(try clear hB KB);(try clear hK K)))
  have h3:0≤lo / y:=Int.ediv_nonneg l0 (by omega)
  have h4:lo / y≤lo:=Int.ediv_le_self _ l0
  rw [Int.zero_mul,Int.zero_add,wq (lo / y) ⟨h3,by omega⟩]
 ·have g3:(hi == 0)=false:=beq_eq_false_iff_ne.2 hz
  obtain ⟨s,es,s63,Y0,Y1⟩:=MG (y:=y) (by omega) hyu
  have hl:=OF y ⟨by omega,hyu⟩
  rw [es] at hl
  have hk:(0:Int)<2 ^ s:=Int.pow_pos (by decide)
  have hb:hi * 2 ^ s<18446744073709551616 - 2 ^ s+1:=by
   have:=Int.mul_le_mul_of_nonneg_right (show hi+1≤y by omega) (Int.le_of_lt hk)
   rw [Int.add_mul,Int.one_mul] at this
   omega
  have hT:=QQ hh l0 l1 s63 hb
  have hh2:0≤hi * 2 ^ s:=az hh (by omega)
  have hs1:min (s:Int).toNat 64=s:=by omega
  have hs2:min ((64:Int) - s).toNat 64=64 - s:=by omega
  have hUY:(hi * 18446744073709551616+lo) * 2 ^ s / 18446744073709551616<y * 2 ^ s:=by
   have h1:=Int.mul_le_mul_of_nonneg_right (show hi+1≤y by omega) (Int.le_of_lt hk)
   have h2:(hi * 18446744073709551616+lo) * 2 ^ s<(hi+1) * 2 ^ s * 18446744073709551616:=by
    have:=Int.mul_lt_mul_of_pos_right (show hi * 18446744073709551616+lo<(hi+1) * 18446744073709551616 by omega) hk
    rwa [Int.mul_right_comm (hi+1)] at this
   generalize (hi * 18446744073709551616+lo) * 2 ^ s=U at *
   omega
  obtain ⟨hd1,hd2⟩:=FU (a:=hi * 18446744073709551616+lo) (y:=y) (k:=2 ^ s) hk (by omega)
  have hU0:0≤(hi * 18446744073709551616+lo) * 2 ^ s:=az (by omega) (by omega)
  have hw1:IntKind.u64.wrap (lo * 2 ^ s)=(hi * 18446744073709551616+lo) * 2 ^ s % 18446744073709551616:=by
   rw [← hT.2];simp only [IntKind.wrap,IntKind.bits,IntKind.signed];simp
  rw [← hd1]
  have hrem:(hi * 18446744073709551616+lo) % y=(hi * 18446744073709551616+lo) * 2 ^ s % (y * 2 ^ s) / 2 ^ s:=by
   rw [hd2,Int.mul_ediv_cancel _ (by omega)]
  rw [hrem]
  refine aI Tryz.func248 [.tmp 6, .tmp 7] ?_
  repeat' (first|refine ak (And.intro g1 (And.intro g2 g3)) ?_|refine an ?_|((with_reducible refine cd (id:=14) (fun K hW => ?_));(try simp (maxSteps:=999999)(disch:=omega) only [go_sem]);and_intros;all_goals first|(refine hK _ ?_;clear hK K)|try exact aa)|((first|refine aj (fun K hK => ?_)|refine ae (hl) ?_);and_intros;all_goals first|(refine hK _ ?_;clear hK K)|try exact aa))
  refine hW _ (bg [(2, .b (cq (y * 2 ^ s))),(8, .b (cq s)),(9, .b (cq (y * 2 ^ s / 4294967296))),(10, .b (cq (y * 2 ^ s % 4294967296))),(11, .b (cq ((hi * 18446744073709551616+lo) * 2 ^ s / 18446744073709551616))),
   (13, .b (cq ((hi * 18446744073709551616+lo) * 2 ^ s % 18446744073709551616 / 4294967296))),(14, .b (cq ((hi * 18446744073709551616+lo) * 2 ^ s % 18446744073709551616 % 4294967296)))] [] 1) ?_ ?_
  ·have hy2:IntKind.u64.wrap (y * 2 ^ s)=y * 2 ^ s:=wq _ ⟨by omega,Y1⟩
   have hh3:IntKind.u64.wrap (hi * 2 ^ s)=hi * 2 ^ s:=wq _ ⟨hh2,by omega⟩
   refine aE [] ?_ ?_
   and_intros
   all_goals first|exact aw|skip
   ·exact .inl (by rw [hs1,hy2])
   ·exact .inl (by rw [hs1,hy2,SB])
   ·exact .inl (by rw [hs1,hy2,Jk (by omega) Y1])
   ·exact .inl (by rw [hs1,hs2,hh3,hT.1])
   ·exact .inl (by rw [hs1,hw1,SB])
   ·exact .inl (by rw [hs1,hw1,Jk (by omega) (by omega)])
  clear hW hw1 hT hrem hd1 hd2 hl
  generalize (hi * 18446744073709551616+lo) * 2 ^ s=U at *
  generalize y * 2 ^ s=Y at *
  clear hb hh2
  obtain ⟨y1,e1⟩:∃ y1,y1=Y / 4294967296:=⟨_,rfl⟩
  obtain ⟨y0,e0⟩:∃ y0,y0=Y % 4294967296:=⟨_,rfl⟩
  obtain ⟨t,et⟩:∃ t,t=U / 18446744073709551616:=⟨_,rfl⟩
  obtain ⟨d1,f1⟩:∃ d1,d1=U % 18446744073709551616 / 4294967296:=⟨_,rfl⟩
  obtain ⟨d0,f0⟩:∃ d0,d0=U % 18446744073709551616 % 4294967296:=⟨_,rfl⟩
  rw [← e1,← e0,← et,← f1,← f0]
  have eY:y1 * 4294967296+y0=Y:=by omega
  have eU:U=t * 18446744073709551616+(d1 * 4294967296+d0):=by omega
  have P1:DigP t d1 y1 y0:=⟨by omega,by omega,by omega,by omega,by omega,by omega,by omega,by omega⟩
  have I1:=wK P1
  have z1:(y1 == 0)=false:=beq_eq_false_iff_ne.2 (by omega)
  have hq:=I1.q0
  have hr:=I1.r0
  have hqb:=yp P1 I1
  have hr1:t - t / y1 * y1<4294967296:=by
   have:=Int.emod_lt_of_pos t (show 0<y1 by omega)
   have h2:=Int.mul_ediv_add_emod t y1
   rw [Int.mul_comm] at h2
   omega
  have hqy:0≤t / y1 * y1:=az hq (by omega)
  repeat' (first|((with_reducible refine cd (id:=16) (fun K hW => ?_));(try simp (maxSteps:=999999)(disch:=omega) only [go_sem]);and_intros;all_goals first|(refine hK _ ?_;clear hK K)|try exact aa)|(refine aj (fun K hK => ?_);and_intros;all_goals first|(refine hK _ ?_;clear hK K)|try exact aa))
  refine hW _ (bg [(2, .b (cq Y)),(8, .b (cq s)),(9, .b (cq y1)),(10, .b (cq y0)),(11, .b (cq t)),(13, .b (cq d1)),(14, .b (cq d0)),(15, .b (cq (t / y1))),(16, .b (cq (t - t / y1 * y1)))] [] 1) ?_ ?_
  ·refine aE [] ?_ ?_
   and_intros
   all_goals first|exact aw|skip
  clear hW
  refine ig fun KB hV => ?_
  have tl:∀ st,Le st (bg [(2, .b (cq Y)),(8, .b (cq s)),(9, .b (cq y1)),(10, .b (cq y0)),(11, .b (cq t)),(13, .b (cq d1)),(14, .b (cq d0)),(15, .b (cq ((t * 4294967296+d1) / Y)))] [] 1)→KB st:=fun st hl=>hV st _ hl ?_
  rotate_left
  ·clear hV
   have hYp:0<Y:=by omega
   obtain ⟨Q,eQ⟩:∃ Q,Q=(t * 4294967296+d1) / Y:=⟨_,rfl⟩
   obtain ⟨u,eu⟩:∃ u,u=(t * 4294967296+d1) % Y:=⟨_,rfl⟩
   rw [← eQ]
   have h1:=Int.mul_ediv_add_emod (t * 4294967296+d1) Y
   rw [← eQ,← eu,Int.mul_comm] at h1
   have u0:0≤u:=by rw [eu];exact Int.emod_nonneg _ (by omega)
   have u1:u<Y:=by rw [eu];exact Int.emod_lt_of_pos _ hYp
   have Q0:0≤Q:=by rw [eQ];exact Int.ediv_nonneg (by omega) (by omega)
   have Q1:Q<4294967296:=by rw [eQ];exact (Int.ediv_lt_iff_lt_mul hYp).2 (by omega)
   have hw:=XM (a:=t * 4294967296) (b:=d1) (c:=Q * Y) (by omega) (by omega)
   rw [show t * 4294967296+d1 - Q * Y=u by omega] at hw
   have P2:DigP u d0 y1 y0:=⟨by omega,by omega,by omega,by omega,by omega,by omega,by omega,by omega⟩
   have I2:=wK P2
   have hq2:=I2.q0
   have hr20:=I2.r0
   have hqb2:=yp P2 I2
   have hr2:u - u / y1 * y1<4294967296:=by
    have:=Int.emod_lt_of_pos u (show 0<y1 by omega)
    have h2:=Int.mul_ediv_add_emod u y1
    rw [Int.mul_comm] at h2
    omega
   have hqy2:0≤u / y1 * y1:=az hq2 (by omega)
   repeat' ((with_reducible refine cd (id:=21) (fun K hW => ?_));(try simp (maxSteps:=999999)(disch:=omega) only [go_sem]);and_intros;all_goals first|(refine hK _ ?_;clear hK K)|try exact aa)
   refine hW _ (bg [(2, .b (cq Y)),(8, .b (cq s)),(9, .b (cq y1)),(10, .b (cq y0)),(14, .b (cq d0)),(15, .b (cq Q)),(17, .b (cq u))] [] 1) ?_ ?_
   ·refine aE [] ?_ ?_
    and_intros
    all_goals first|exact aw|skip
    exact .inl (by rw [hw])
   clear hW
   repeat' (first|((with_reducible refine cd (id:=23) (fun K hW => ?_));(try simp (maxSteps:=999999)(disch:=omega) only [go_sem]);and_intros;all_goals first|(refine hK _ ?_;clear hK K)|try exact aa)|(refine aj (fun K hK => ?_);and_intros;all_goals first|(refine hK _ ?_;clear hK K)|try exact aa))
   refine hW _ (bg [(2, .b (cq Y)),(8, .b (cq s)),(9, .b (cq y1)),(10, .b (cq y0)),(14, .b (cq d0)),(15, .b (cq Q)),(17, .b (cq u)),(18, .b (cq (u / y1))),(16, .b (cq (u - u / y1 * y1)))] [] 1) ?_ ?_
   ·refine aE [] ?_ ?_
    and_intros
    all_goals first|exact aw|skip
   clear hW
   refine ig fun KB2 hV2 => ?_
   have tl2:∀ st,Le st (bg [(2, .b (cq Y)),(8, .b (cq s)),(14, .b (cq d0)),(15, .b (cq Q)),(17, .b (cq u)),(18, .b (cq ((u * 4294967296+d0) / Y)))] [] 1)→KB2 st:=fun st hl=>hV2 st _ hl ?_
   rotate_left
   ·clear hV2
    obtain ⟨D,eD⟩:∃ D,D=(u * 4294967296+d0) / Y:=⟨_,rfl⟩
    have td:=Cu (t:=t) (a:=d1) (b:=d0) hYp eQ eu eD ⟨by omega,by omega⟩
    rw [← eU] at td
    rw [← eD]
    have D0:0≤D:=by rw [eD];exact Int.ediv_nonneg (by omega) (by omega)
    have D1:D<4294967296:=by rw [eD];exact (Int.ediv_lt_iff_lt_mul hYp).2 (by omega)
    have h2:=Int.mul_ediv_add_emod (u * 4294967296+d0) Y
    rw [← eD,Int.mul_comm,td.2] at h2
    have v0:0≤U % Y:=Int.emod_nonneg _ (by omega)
    have v1:U % Y<Y:=Int.emod_lt_of_pos _ hYp
    have hw2:=XM (a:=u * 4294967296) (b:=d0) (c:=D * Y) (by omega) (by omega)
    rw [show u * 4294967296+d0 - D * Y=U % Y by omega] at hw2
    repeat' (first|(refine aj (fun K hK => ?_);and_intros;all_goals first|(refine hK _ ?_;clear hK K)|try exact aa)|(refine ai ?_;(try clear hB KB);(try clear hK K)))
    rw [hw2,td.1,hs1,Int.fdiv_eq_ediv_of_nonneg _ (by omega)]
   ·clear hV2
    refine aM (X:=Int × Int) (fun x=>bg [(2, .b (cq Y)),(8, .b (cq s)),(9, .b (cq y1)),(10, .b (cq y0)),(14, .b (cq d0)),(15, .b (cq Q)),(17, .b (cq u)),(18, .b (cq x.1)),(16, .b (cq x.2))] [] 1) (fun x=>DigI u d0 y1 y0 x.1 x.2∧x.2<4294967296) (fun x=>x.1.toNat) (u / y1,u - u / y1 * y1) ?_ ?_ ?_
    ·exact ⟨I2,hr2⟩
    ·refine aE [] ?_ ?_
     and_intros
     all_goals first|exact aw|skip
    ·rintro ⟨q,r⟩ ⟨I,rB⟩
     dsimp only at I rB ⊢
     have q0:=I.q0
     have r0:=I.r0
     have hqb:=yp P2 I
     by_cases c1:q≥4294967296
     ·have g1:decide (q≥4294967296)=true:=decide_eq_true c1
      have J:=qu P2 I (.inl c1)
      have q1:=J.q0
      by_cases c3:r+y1≥4294967296
      ·have g3:decide (r+y1≥4294967296)=true:=decide_eq_true c3
       have hq2:q - 1=(u * 4294967296+d0) / Y:=by rw [← eY];exact (nH P2 J (nG P2 J c3)).1
       repeat' (first|refine ak (And.intro g1 g3) ?_|refine an ?_|(refine aj (fun K hK => ?_);and_intros;all_goals first|(refine hK _ ?_;clear hK K)|try exact aa))
       refine tl2 _ ?_
       rw [← hq2]
       refine aE [] ?_ ?_
       and_intros
       all_goals first|exact aw|skip
      ·have g3:decide (r+y1≥4294967296)=false:=decide_eq_false c3
       repeat' (first|refine ak (And.intro g1 g3) ?_|refine an ?_|(refine aj (fun K hK => ?_);and_intros;all_goals first|(refine hK _ ?_;clear hK K)|try exact aa))
       refine au (q - 1,r+y1) ?_ ⟨J,by dsimp only;omega⟩ (by dsimp only;omega)
       refine aE [] ?_ ?_
       and_intros
       all_goals first|exact aw|skip
     ·have g1:decide (q≥4294967296)=false:=decide_eq_false c1
      have m0:0≤q * y0∧q * y0≤4294967295 * 4294967295:=⟨Int.mul_nonneg q0 (by omega),Int.mul_le_mul (by omega) (by omega) (by omega) (by omega)⟩
      by_cases c2:q * y0>4294967296 * r+d0
      ·have g2:decide (q * y0>4294967296 * r+d0)=true:=decide_eq_true c2
       have J:=qu P2 I (.inr c2)
       have q1:=J.q0
       by_cases c3:r+y1≥4294967296
       ·have g3:decide (r+y1≥4294967296)=true:=decide_eq_true c3
        have hq2:q - 1=(u * 4294967296+d0) / Y:=by rw [← eY];exact (nH P2 J (nG P2 J c3)).1
        repeat' (first|refine ak (And.intro g1 (And.intro g2 g3)) ?_|refine an ?_|(refine aj (fun K hK => ?_);and_intros;all_goals first|(refine hK _ ?_;clear hK K)|try exact aa))
        refine tl2 _ ?_
        rw [← hq2]
        refine aE [] ?_ ?_
        and_intros
        all_goals first|exact aw|skip
       ·have g3:decide (r+y1≥4294967296)=false:=decide_eq_false c3
        repeat' (first|refine ak (And.intro g1 (And.intro g2 g3)) ?_|refine an ?_|(refine aj (fun K hK => ?_);and_intros;all_goals first|(refine hK _ ?_;clear hK K)|try exact aa))
        refine au (q - 1,r+y1) ?_ ⟨J,by dsimp only;omega⟩ (by dsimp only;omega)
        refine aE [] ?_ ?_
        and_intros
        all_goals first|exact aw|skip
      ·have g2:decide (q * y0>4294967296 * r+d0)=false:=decide_eq_false c2
       have hq2:q=(u * 4294967296+d0) / Y:=by rw [← eY];exact (nH P2 I (by omega)).1
       repeat' (first|refine ak (And.intro g1 g2) ?_|refine an ?_|(refine aj (fun K hK => ?_);and_intros;all_goals first|(refine hK _ ?_;clear hK K)|try exact aa))
       refine tl2 _ ?_
       rw [← hq2]
       refine aE [] ?_ ?_
       and_intros
       all_goals first|exact aw|skip
  ·clear hV
   refine aM (X:=Int × Int) (fun x=>bg [(2, .b (cq Y)),(8, .b (cq s)),(9, .b (cq y1)),(10, .b (cq y0)),(11, .b (cq t)),(13, .b (cq d1)),(14, .b (cq d0)),(15, .b (cq x.1)),(16, .b (cq x.2))] [] 1) (fun x=>DigI t d1 y1 y0 x.1 x.2∧x.2<4294967296) (fun x=>x.1.toNat) (t / y1,t - t / y1 * y1) ?_ ?_ ?_
   ·exact ⟨I1,hr1⟩
   ·refine aE [] ?_ ?_
    and_intros
    all_goals first|exact aw|skip
   ·rintro ⟨q,r⟩ ⟨I,rB⟩
    dsimp only at I rB ⊢
    have q0:=I.q0
    have r0:=I.r0
    have hqb:=yp P1 I
    by_cases c1:q≥4294967296
    ·have g1:decide (q≥4294967296)=true:=decide_eq_true c1
     have J:=qu P1 I (.inl c1)
     have q1:=J.q0
     by_cases c3:r+y1≥4294967296
     ·have g3:decide (r+y1≥4294967296)=true:=decide_eq_true c3
      have hq2:q - 1=(t * 4294967296+d1) / Y:=by rw [← eY];exact (nH P1 J (nG P1 J c3)).1
      repeat' (first|refine ak (And.intro g1 g3) ?_|refine an ?_|(refine aj (fun K hK => ?_);and_intros;all_goals first|(refine hK _ ?_;clear hK K)|try exact aa))
      refine tl _ ?_
      rw [← hq2]
      refine aE [] ?_ ?_
      and_intros
      all_goals first|exact aw|skip
     ·have g3:decide (r+y1≥4294967296)=false:=decide_eq_false c3
      repeat' (first|refine ak (And.intro g1 g3) ?_|refine an ?_|(refine aj (fun K hK => ?_);and_intros;all_goals first|(refine hK _ ?_;clear hK K)|try exact aa))
      refine au (q - 1,r+y1) ?_ ⟨J,by dsimp only;omega⟩ (by dsimp only;omega)
      refine aE [] ?_ ?_
      and_intros
      all_goals first|exact aw|skip
    ·have g1:decide (q≥4294967296)=false:=decide_eq_false c1
     have m0:0≤q * y0∧q * y0≤4294967295 * 4294967295:=⟨Int.mul_nonneg q0 (by omega),Int.mul_le_mul (by omega) (by omega) (by omega) (by omega)⟩
     by_cases c2:q * y0>4294967296 * r+d1
     ·have g2:decide (q * y0>4294967296 * r+d1)=true:=decide_eq_true c2
      have J:=qu P1 I (.inr c2)
      have q1:=J.q0
      by_cases c3:r+y1≥4294967296
      ·have g3:decide (r+y1≥4294967296)=true:=decide_eq_true c3
       have hq2:q - 1=(t * 4294967296+d1) / Y:=by rw [← eY];exact (nH P1 J (nG P1 J c3)).1
       repeat' (first|refine ak (And.intro g1 (And.intro g2 g3)) ?_|refine an ?_|(refine aj (fun K hK => ?_);and_intros;all_goals first|(refine hK _ ?_;clear hK K)|try exact aa))
       refine tl _ ?_
       rw [← hq2]
       refine aE [] ?_ ?_
       and_intros
       all_goals first|exact aw|skip
      ·have g3:decide (r+y1≥4294967296)=false:=decide_eq_false c3
       repeat' (first|refine ak (And.intro g1 (And.intro g2 g3)) ?_|refine an ?_|(refine aj (fun K hK => ?_);and_intros;all_goals first|(refine hK _ ?_;clear hK K)|try exact aa))
       refine au (q - 1,r+y1) ?_ ⟨J,by dsimp only;omega⟩ (by dsimp only;omega)
       refine aE [] ?_ ?_
       and_intros
       all_goals first|exact aw|skip
     ·have g2:decide (q * y0>4294967296 * r+d1)=false:=decide_eq_false c2
      have hq2:q=(t * 4294967296+d1) / Y:=by rw [← eY];exact (nH P1 I (by omega)).1
      repeat' (first|refine ak (And.intro g1 g2) ?_|refine an ?_|(refine aj (fun K hK => ?_);and_intros;all_goals first|(refine hK _ ?_;clear hK K)|try exact aa))
      refine tl _ ?_
      rw [← hq2]
      refine aE [] ?_ ?_
      and_intros
      all_goals first|exact aw|skip
end Go.Proofs.YtcbifofjjpfbcaaGreatDoor
