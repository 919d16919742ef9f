/- Part of the proof: FM, FL, FO, D4, D3, D5, E1, EM, EB, U2, U5, U6, U9, SlZa, SlZb, SlZc, W5, W6, WB, WC, SlRd, SlRe, Y1. -/
import Derived.RangeFuncKeeps
import Derived.RangeFuncLeaves
import Derived.RangeFuncCalls
import Derived.LoopNIn
import Derived.OrdersIn
import Derived.TacticsIn
import Derived.RangeFuncWrites
import Derived.Shelf.Abstract
import Derived.WalkKit
import Derived.OwnWalkIn
import Derived.TacticsInMore
import Derived.LoopIn
import Derived.Test.YtdjmpacladhijaaGreatDoorM10
set_option linter.unusedSimpArgs false
set_option linter.unusedVariables false
set_option maxRecDepth 16000
set_option maxHeartbeats 2000000
namespace Go.Proofs.YtdjmpacladhijaaGreatDoor
open Go Go.SL
open Go.RowKit (wrap64)
def kV:Op:=⟨3,0,0,0,0,0,0,0,0,0,false,false⟩
def aG (s:Scene):Rect:=⟨s.x % 13 - 6,s.y % 13 - 6,s.x % 13 - 6+(1+s.w % 5),s.y % 13 - 6+(1+s.h % 4)⟩
def eF (s:Scene):Int:=1+s.tileW % (1+s.w % 5)
def eB (s:Scene):Int:=1+s.tileH % (1+s.h % 4)
def cL (s:Scene):List Image:=(s.pics.take 4).map fun p=>jR p (aG s) (eZ s.bits)
def aT (s:Scene):List Image:=if (cL s).length=0 then [jq (1+s.w % 5) (1+s.h % 4) ⟨eZ s.bits,0,0,eZ s.bits,eZ s.bits⟩] else cL s
def tI (n:Int) (c:Rect) (m:Int) (st:List Op × List Op) (r:Raw):List Op × List Op :=
 if r.kind % 8=0∧0<st.2.length then (st.1 ++ [kV],st.2.dropLast)
 else (st.1 ++ [tM r (decide (r.kind % 8<3)) n c.x0 c.y0 (eS st.2) m],if r.kind % 8<3 then st.2 ++ [tM r (decide (r.kind % 8<3)) n c.x0 c.y0 (eS st.2) m] else st.2)
def BS (s:Scene):List Op × List Op:=(s.ops.take 9).foldl (tI (aT s).length (aG s) (eZ s.bits)) ([],[])
def aI (s:Scene):Script :=
 { bits:=if eZ s.bits>255 then 16 else 8,canvas:=aG s,tileW:=eF s,tileH:=eB s,order:=se s.order (bA (aG s) (eF s) (eB s) * cF (aG s) (eF s) (eB s)),images:=aT s,ops:=(BS s).1 ++ List.replicate (BS s).2.length kV }
structure SceneOk (s:Scene):Prop where
 bits:i64 s.bits
 x:i64 s.x
 y:i64 s.y
 w:i64 s.w
 h:i64 s.h
 tileW:i64 s.tileW
 tileH:i64 s.tileH
 order:s.order.length≤4611686018427387904
 pics:s.pics.length≤4611686018427387904
 ops:s.ops.length≤4611686018427387904
 pic:∀ i,i<s.pics.length→PicOk (s.pics.getD i default)
 op:∀ i,i<s.ops.length→RawOk (s.ops.getD i default)
theorem cI (s:Scene):Small (aG s):=by
 unfold aG;exact ⟨by dsimp only;omega,by dsimp only;omega,by dsimp only;omega,by dsimp only;omega,⟨by dsimp only;omega,by dsimp only;omega⟩,⟨by dsimp only;omega,by dsimp only;omega⟩⟩
theorem Gk (s:Scene) : -10≤(aG s).x0∧(aG s).x1≤20 ∧ -10≤(aG s).y0∧(aG s).y1≤20:=by
 unfold aG;dsimp only;omega
theorem la (n:Int):eZ n=255∨eZ n=65535:=by unfold eZ;split <;> omega
theorem DL {l:List Int} {i j:Nat} {hi:i<l.length} {hj:j<l.length} (h:l.Nodup):l[i]=l[j]↔i=j:=by
 refine ⟨fun e => ?_,fun e=>by grind⟩;have hp:=List.pairwise_iff_getElem.1 h;grind
theorem wU {l:List Int}:∀ (k i:Nat) (rest:List Int),rest.length=k→rest.Nodup→(kP l k i rest).length=k∧(kP l k i rest).Nodup∧∀ v ∈ kP l k i rest,v ∈ rest
 | 0,i,rest,_,_=>⟨rfl,List.nodup_nil,fun v hv=>by grind [kP]⟩
 | k+1,i,rest,hl,hn=>by
  have h1:=Int.emod_nonneg (GE l i) (show (rest.length:Int)≠0 by omega);have h2:=Int.emod_lt_of_pos (GE l i) (show (0:Int)<rest.length by omega);have h3:(GE l i % rest.length).toNat<rest.length:=by omega
  obtain ⟨a,b,c⟩:=wU (l:=l) k (i+1) (rest.eraseIdx (GE l i % rest.length).toNat) (by grind) (List.Pairwise.sublist (List.eraseIdx_sublist ..) hn);have hg:rest.getD (GE l i % rest.length).toNat 0=rest[(GE l i % rest.length).toNat]:=by rw [List.getD_eq_getElem?_getD,List.getElem?_eq_getElem h3];rfl
  refine ⟨by grind [kP], ?_,fun v hv => ?_⟩
  ·simp only [kP];refine List.nodup_cons.2 ⟨fun hm => ?_,b⟩;have:=c _ hm;rw [List.mem_eraseIdx_iff_getElem] at this;grind [DL]
  ·simp only [kP] at hv;rcases List.mem_cons.1 hv with rfl|hv
   ·grind
   ·exact List.mem_of_mem_eraseIdx (c v hv)
theorem qB (n:Nat):(nO n).Nodup:=by
 unfold nO;refine List.Pairwise.map _ (fun a b h => ?_) List.nodup_range;omega
theorem UO {x:List Int} {n:Int} {i:Nat} (hi:i<x.length) (hn:x.Nodup) (hm:∀ v ∈ x,0≤v∧v<n):oz x n i=true:=by
 have hg:x.getD i 0=x[i]:=by rw [List.getD_eq_getElem?_getD,List.getElem?_eq_getElem hi];rfl
 rw [oz,hg,decide_eq_true (hm _ (List.getElem_mem hi)),Bool.true_and,Bool.not_eq_true',List.contains_eq_mem,decide_eq_false_iff_not];intro h;obtain ⟨j,hj,he⟩:=List.getElem_of_mem h;grind [DL]
theorem QS {l:List Int} {n:Int} (h0:0≤n) (h1:n≤64):gj (se l n) n=true:=by
 have hk:∀ x:List Int,x.length=n.toNat→x.Nodup→(∀ v ∈ x,v ∈ nO n.toNat)→(List.range n.toNat).all (oz x n)=true:=fun x hl hn hm=>by grind [oz,UO,nO]
 unfold se;split
 ·rw [gj,decide_eq_true ⟨h0,by omega, .inl rfl⟩,Bool.true_and];grind [fC,kS,qB]
 ·rename_i hc;obtain ⟨a,b,c⟩:=wU (l:=l) n.toNat 0 (nO n.toNat) (kS _) (qB _);grind [gj,kP,nO,fC,kS,qB]
theorem lK {c:Rect} (h:Small c):aM c=false:=by
 obtain ⟨h1,h2,h3,h4,h5,h6⟩:=h;unfold aM oN;grind
theorem Jz (s:Scene):cP (aG s) (eF s) (eB s)=true:=by
 rw [cP,lK (cI s)];unfold eF eB aG;simp only [Bool.not_false,Bool.true_and,decide_eq_true_eq];have hw0:1≤1+s.w % 5∧1+s.w % 5≤5:=by omega
 have hh0:1≤1+s.h % 4∧1+s.h % 4≤4:=by omega
 have bw:=Int.emod_nonneg s.tileW (show 1+s.w % 5≠0 by omega);have bw2:=Int.emod_lt_of_pos s.tileW (show 0<1+s.w % 5 by omega);have bh:=Int.emod_nonneg s.tileH (show 1+s.h % 4≠0 by omega);have bh2:=Int.emod_lt_of_pos s.tileH (show 0<1+s.h % 4 by omega);omega
theorem Au (s:Scene):0≤bA (aG s) (eF s) (eB s) * cF (aG s) (eF s) (eB s)∧bA (aG s) (eF s) (eB s) * cF (aG s) (eF s) (eB s)≤64:=by
 refine ⟨(nu _ _ _).2, ?_⟩;have ht:=Jz s;rw [bA,cF,if_pos ht,if_pos ht];obtain ⟨h1,h2,h3,h4,h5,h6⟩:=cI s;simp only [cP,Bool.and_eq_true,decide_eq_true_eq] at ht;obtain ⟨_,t1,t2,t3,t4⟩:=ht;have b1:0≤((aG s).x1 - (aG s).x0 - 1) / eF s:=Int.ediv_nonneg (by omega) (by omega);have b2:((aG s).x1 - (aG s).x0 - 1) / eF s≤(aG s).x1 - (aG s).x0 - 1:=Int.ediv_le_self _ (by omega);have c1:0≤((aG s).y1 - (aG s).y0 - 1) / eB s:=Int.ediv_nonneg (by omega) (by omega);have c2:((aG s).y1 - (aG s).y0 - 1) / eB s≤(aG s).y1 - (aG s).y0 - 1:=Int.ediv_le_self _ (by omega);have:(((aG s).x1 - (aG s).x0 - 1) / eF s+1) * (((aG s).y1 - (aG s).y0 - 1) / eB s+1)≤5 * 4:=Int.mul_le_mul (by omega) (by omega) (by omega) (by omega);omega
theorem gK (s:Scene):1≤(aT s).length∧(aT s).length≤4:=by grind [aT,cL,jR]
theorem Ul {s:Scene} {t:Script} (hb:t.bits=(aI s).bits) (hc:t.canvas=aG s) (hw:t.tileW=eF s) (hh:t.tileH=eB s) (ho:t.order=(aI s).order) (hi:t.images.length≤64) (hp:t.ops.length≤4096):bJ t=0:=by
 have hm:=la s.bits;have hsm:=cI s;have he:=lK hsm;have ht:=Jz s;have hl:=Au s;obtain ⟨h1,h2,h3,h4,h5,h6⟩:=hsm;have ha:((aG s).x1 - (aG s).x0) * ((aG s).y1 - (aG s).y0)≤5 * 4:=Int.mul_le_mul (by omega) (by omega) (by omega) (by omega);have hw2:bu 1048576 [(aG s).x0,(aG s).y0]=true:=by simp [bu];omega
 rw [bJ,hb,hc,hw,hh,ho,ht,hw2,he,eM,he];grind [aI,se,QS]
theorem sX (s:Scene):aN (aI s).bits=eZ s.bits:=by grind [eZ,la,aN,aI]
def iB (b:Int) (n:Nat):List Op→List Op→Prop
 | [],_=>True
 | o :: r,l=>dM b n o l=0∧iB b n r (bn l o)
def bl (ops l:List Op):List Op:=ops.foldl bn l
theorem cO {b:Int} {n:Nat}:∀ {a c l:List Op},iB b n (a ++ c) l↔iB b n a l∧iB b n c (bl a l)
 | [],c,l=>by simp [iB,bl]
 | o :: r,c,l=>by
  simp only [List.cons_append,iB,cO (a:=r),and_assoc];rfl
theorem cG {a c l:List Op}:bl (a ++ c) l=bl c (bl a l):=List.foldl_append
theorem zJ {b:Int} {n:Nat}:∀ {ops l:List Op} {i:Nat},iB b n ops l→bl ops l=[]→ij b n i ops l=(0,0)
 | [],l,i,_,h2=>by grind [iB,bl,ij]
 | o :: r,l,i,h1,h2=>by
  rw [ij,if_pos h1.1];exact zJ h1.2 h2
theorem MT {b:Int} {n:Nat}:∀ (k:Nat) (l:List Op),l.length=k→iB b n (List.replicate k kV) l∧bl (List.replicate k kV) l=[]
 | 0,l,hl=>⟨trivial,List.eq_nil_of_length_eq_zero hl⟩
 | k+1,l,hl=>by
  rw [List.replicate_succ];have hp:=MT (b:=b) (n:=n) k l.dropLast (by grind);have hn:bn l kV=l.dropLast:=rfl;refine ⟨⟨?_,by grind⟩, ?_⟩
  ·rw [dM,if_neg (by decide),if_neg (by decide),if_neg (fun q=>by omega)];rfl
  grind [bl,kV,bn]
structure OpTame (m:Int) (o:Op):Prop where
 x : -30≤o.x∧o.x≤30
 y : -30≤o.y∧o.y≤30
 op:0≤o.opacity∧o.opacity≤m
 mx : -30≤o.maskX∧o.maskX≤30
 my : -30≤o.maskY∧o.maskY≤30
theorem a2N {s : Scene} {r : Raw} {l : List Op} (hl : l.length ≤ 9) :
  dM (aI s).bits (aT s).length (tM r (decide (r.kind % 8<3)) (aT s).length (aG s).x0 (aG s).y0 (eS l) (eZ s.bits)) l=0 ∧
  OpTame (eZ s.bits) (tM r (decide (r.kind % 8<3)) (aT s).length (aG s).x0 (aG s).y0 (eS l) (eZ s.bits)):=by
 have hi:=gK s;have hm:=la s.bits;obtain ⟨h1,h2,h3,h4,h5,h6⟩:=cI s;obtain ⟨n1,n2,n3,n4⟩:=Gk s;have q1:=iU r.x (aG s).x0;have q2:=iU r.y (aG s).y0;have q3:=iU r.maskX (aG s).x0;have q4:=iU r.maskY (aG s).y0;have q5:=iu (r.opacity.tdiv 2) (eZ s.bits) (by omega);have q6:=Int.emod_nonneg (r.mask.tdiv 4) (show ((aT s).length:Int)≠0 by omega);have q7:=Int.emod_lt_of_pos (r.mask.tdiv 4) (show (0:Int)<(aT s).length by omega);have q8:=Int.emod_nonneg r.image (show ((aT s).length:Int)≠0 by omega);have q9:=Int.emod_lt_of_pos r.image (show (0:Int)<(aT s).length by omega);generalize hc:eS l=free;have hmx:=sX s;constructor
 ·rw [dM,hmx];by_cases hp:r.kind % 8<3
  ·rw [decide_eq_true hp];rw [if_neg (by simp [tM]),if_neg ?qa,if_neg (by simp [tM]),if_neg (by simp [tM]),if_neg ?qb,if_neg ?qc,if_neg ?qd,if_neg ?qe,if_neg ?qf,if_neg ?qg,if_neg (by omega)]
   case qa =>
    simp only [tM,cZ];by_cases hk:r.mask % 4=0
    ·simp [hk];omega
    ·simp [hk]
   case qb =>
    simp only [tM];by_cases hk:r.mask % 4=0
    ·simp [hk];omega
    ·simp [hk]
   case qc =>
    simp only [tM,bu];by_cases hk:r.mask % 4=0
    ·simp [hk];omega
    ·simp [hk]
   case qd =>
    simp only [tM];split <;> omega
   case qe =>
    simp only [tM,jn];split <;> simp <;> omega
   case qf =>
    simp only [tM,jn];split <;> simp <;> omega
   case qg =>
    simp only [tM,hc];intro q;rw [q.2] at q;simp at q
  ·rw [decide_eq_false hp];rw [if_neg (by simp [tM]),if_neg ?qa,if_neg (by simp [tM]),if_neg (by simp [tM]),if_neg ?qb,if_neg ?qc,if_neg ?qd,if_neg ?qe,if_neg ?qf,if_neg ?qg,if_neg (by simp [tM])]
   case qa =>
    simp only [tM,cZ];by_cases hk:r.mask % 4=0
    ·simp [hk];omega
    ·simp [hk]
   case qb =>
    simp only [tM];by_cases hk:r.mask % 4=0
    ·simp [hk];omega
    ·simp [hk];omega
   case qc =>
    simp only [tM,bu];by_cases hk:r.mask % 4=0
    ·simp [hk];omega
    ·simp [hk];omega
   case qd =>
    simp only [tM];split <;> omega
   case qe =>
    simp only [tM,jn];split <;> simp <;> omega
   case qf =>
    simp only [tM,jn];split <;> simp <;> omega
   case qg =>
    simp only [tM,hc];intro q;rw [q.2] at q;simp at q
 ·refine ⟨?_, ?_, ?_, ?_, ?_⟩ <;> simp only [tM] <;> (repeat' split) <;> omega
structure GInv (s:Scene) (k:Nat) (st:List Op × List Op):Prop where
 ok:iB (aI s).bits (aT s).length st.1 []
 op:bl st.1 []=st.2
 l1:st.1.length≤k
 l2:st.2.length≤k
 tame:∀ o ∈ st.1,OpTame (eZ s.bits) o
theorem MD {m:Int} (h:0≤m):OpTame m kV:=⟨by decide,by decide,⟨by decide,h⟩,by decide,by decide⟩
theorem NG {s:Scene} {k:Nat} {st:List Op × List Op} {r:Raw} (h:GInv s k st) (hk:k≤9):GInv s (k+1) (tI (aT s).length (aG s) (eZ s.bits) st r):=by
 obtain ⟨h1,h2,h3,h4,h5⟩:=h;have hm:=la s.bits;unfold tI;split
 ·rename_i hc;refine ⟨cO.2 ⟨h1, ?_,trivial⟩, ?_,by simp;omega,by grind,fun o ho => ?_⟩
  ·rw [h2,dM,if_neg (by decide),if_neg (by decide),if_neg (fun q=>by omega)];rfl
  ·rw [cG,h2];rfl
  grind [MD]
 ·have hg:=a2N (s:=s) (r:=r) (l:=st.2) (by omega);refine ⟨cO.2 ⟨h1,by grind,trivial⟩, ?_,by simp;omega, ?_,fun o ho => ?_⟩
  ·simp_all [bl,tM,cG,bn]
  ·grind
  grind
theorem Dj {s:Scene}:∀ (l:List Raw) (k:Nat) (st:List Op × List Op),GInv s k st→k+l.length≤9→GInv s (k+l.length) (l.foldl (tI (aT s).length (aG s) (eZ s.bits)) st)
 | [],k,st,h,_=>h
 | r :: l,k,st,h,hk=>by
  rw [List.length_cons] at hk ⊢;have:=Dj l (k+1) _ (NG (r:=r) h (by omega)) (by omega);grind
theorem RT (s:Scene):GInv s 9 (BS s):=by
 have h:=Dj (s:=s) (s.ops.take 9) 0 ([],[]) ⟨trivial,rfl,Nat.le_refl _,Nat.le_refl _,fun o ho=>by simp at ho⟩ (by grind);have hl:0+(s.ops.take 9).length≤9:=by rw [List.length_take];omega
 exact ⟨h.1,h.2,Nat.le_trans h.3 hl,Nat.le_trans h.4 hl,h.5⟩
structure GGood (s:Scene) (ops:List Op):Prop where
 ok:iB (aI s).bits (aT s).length ops []
 op:bl ops []=[]
 len:ops.length≤18
 tame:∀ o ∈ ops,OpTame (eZ s.bits) o
theorem kF (s:Scene):GGood s (aI s).ops:=by
 obtain ⟨h1,h2,h3,h4,h5⟩:=RT s;have hm:=la s.bits;have hp:=MT (b:=(aI s).bits) (n:=(aT s).length) (BS s).2.length (BS s).2 rfl;refine ⟨cO.2 ⟨h1,by grind⟩, ?_, ?_,fun o ho => ?_⟩
 ·show bl ((BS s).1 ++ _) []=[]
  rw [cG,h2];grind
 ·grind [aI,BS,kV]
 ·rcases List.mem_append.1 ho with ho|ho
  ·grind
  grind [MD]
theorem cu {b : Int} {n : Nat} {o : Op} {l : List Op} : dM b n o l = 0 ↔ (1 ≤ o.kind ∧ o.kind ≤ 3) ∧ cZ o = true ∧ (o.kind = 3 → 0 < l.length) ∧
  (o.kind≠3→¬ (o.kind=1∧(o.image<0∨n≤o.image)∨o.mask<0∨n<o.mask)∧bu 1048576 [o.x,o.y,o.maskX,o.maskY]=true∧o.opacity≤aN b∧jn o.operator=true∧jn o.mode=true∧(o.operator≠4→eS l=true)∧(o.kind=2→l.length<64)):=by
 unfold dM;by_cases h1:¬ (1≤o.kind∧o.kind≤3)
 ·omega
 rw [if_neg h1];rw [Decidable.not_not] at h1;by_cases h2:cZ o=false
 ·grind
 rw [if_neg h2];rw [Bool.not_eq_false] at h2;by_cases h3:o.kind=3
 ·grind
 rw [if_neg (fun q=>h3 q.1),if_neg h3];by_cases h5:o.kind=1∧(o.image<0∨n≤o.image)∨o.mask<0∨n<o.mask
 ·omega
 rw [if_neg h5];grind
theorem BX (s:Scene):(aI s).order.length≤64:=by
 have ht:=Au s;show (se s.order _).length≤64;grind [se,kP,nO,wU,kS,qB]
theorem a4H (s:Scene) {t:Script} (ho:t.order=(aI s).order) (hi:t.images.length≤64) (hp:t.ops.length≤4096):ScriptLen t :=
 ⟨by grind [BX],by omega,by omega⟩
theorem yj (s:Scene):(aI s).images.length≤64:=by grind [aT,gK,aI]
theorem Ig (s:Scene):(aI s).ops.length≤18:=(kF s).len
theorem kj (s:Scene):ScriptLen (aI s):=a4H s rfl (yj s) (Nat.le_trans (Ig s) (by decide))
theorem Bq {b:Int} {n:Nat}:∀ {ops l:List Op} {i:Nat},(ij b n i ops l).1=0→iB b n ops l∧bl ops l=[]
 | [],l,i,h=>by
  refine ⟨trivial, ?_⟩;rw [ij] at h;split at h
  ·cases h
  ·exact (List.eq_nil_of_length_eq_zero (by omega):l=[])
 | o :: r,l,i,h=>by
  rw [ij] at h;split at h
  ·rename_i h0;obtain ⟨h1,h2⟩:=Bq h;exact ⟨⟨h0,h1⟩,h2⟩
  omega
theorem RC {b:Int} {n:Nat} {ops:List Op} (h:iB b n ops []) {i:Nat} (hi:i<ops.length):dM b n (ah ops i) (bl (ops.take i) [])=0:=by
 have e:ops=ops.take i ++ ops.drop i:=(List.take_append_drop i ops).symm;rw [e,cO,List.drop_eq_getElem_cons hi] at h;have:ah ops i=ops[i]:=by rw [ah,List.getD_eq_getElem?_getD,List.getElem?_eq_getElem hi];rfl
 rw [this];exact h.2.1
theorem iI {ops:List Op}:∀ (i:Nat),i≤ops.length→bl (ops.take i) []=(bE ops i).reverse.map (ah ops)
 | 0,_=>rfl
 | i+1,hi=>by
  have ih:=iI (ops:=ops) i (by omega);have e:ah ops i=ops[i]:=by rw [ah,List.getD_eq_getElem?_getD,List.getElem?_eq_getElem (by omega)];rfl
  rw [List.take_add_one,List.getElem?_eq_getElem (by omega),cG,ih];show bn _ ops[i]=_;grind [bn,bE]
structure VOps (s:Script):Prop where
 wf:Wf s.ops
 ok:∀ i,i<s.ops.length→dM s.bits s.images.length (ah s.ops i) ((bE s.ops i).reverse.map (ah s.ops))=0
 imgs:s.images.length≤64
 cnt:s.ops.length≤4096
 frame:bJ s=0
theorem jK {s:Script} (h:(gu s).1=0):VOps s:=by
 rw [gu] at h;split at h
 ·rename_i hf;obtain ⟨h1,h2⟩:=Bq h;have hl:=xb hf;have ok:∀ i,i<s.ops.length→dM s.bits s.images.length (ah s.ops i) ((bE s.ops i).reverse.map (ah s.ops))=0:=fun i hi=>by rw [← iI i (by omega)];grind [RC]
  refine ⟨⟨fun i hi => ?_,fun i hi hk he => ?_, ?_⟩,ok,hl.1,hl.2,hf⟩
  ·grind [dM,cu]
  ·grind [dM,cu]
  ·have:=iI (ops:=s.ops) s.ops.length (Nat.le_refl _);simp_all
 omega
theorem Hc {a b:List Op} (hl:a.length=b.length) (h:∀ k,k<a.length→ah a k=ah b k):a=b:=by
 refine List.ext_getElem hl fun i h1 h2 => ?_;grind [ah]
section
theorem HQ (a b:Int):(if b>a then b else a)=max a b:=by omega
theorem Jh (a b:Int):(if b<a then b else a)=min a b:=by omega
attribute [local go_sem] HQ Jh
theorem kY (r q:Rect):aB Sg 61 [ag (aS r),ag (aS q)] (fun x=>x = .b (ag (aS (ed r q)))):=by
 refine az Tryz.func61 [.cell 4 35] ?_;repeat' (first|refine bL ?_|((first|refine an (fun K hK => ?_)|refine aa (cq _) ?_|refine aA (fun hg=>cq _) ?_|refine aa (rX ⟨max r.x0 q.x0,max r.y0 q.y0,min r.x1 q.x1,min r.y1 q.y1⟩) ?_);and_intros;all_goals first|(refine hK _ ?_;clear hK K)|try exact ai)|(refine aH (fun hb => ?_) (fun hb => ?_);all_goals try exact ax)|(refine bF ?_;(try clear hB KB);(try clear hK K)))
 ·rw [ed,if_pos hb];rfl
 grind [ed]
theorem ke (v:Int):aB Sg 208 [I v] (fun x=>x = .b (B (si v))):=by
 refine az Tryz.func208 [.tmp 2] ?_;repeat' (first|(refine an (fun K hK => ?_);and_intros;all_goals first|(refine hK _ ?_;clear hK K)|try exact ai)|(refine bF ?_;(try clear hB KB);(try clear hK K)))
 refine ga ?_
 (try simp only [si,Bool.and_eq_true,Bool.or_eq_true,Bool.not_eq_true',Bool.not_eq_false',decide_eq_true_eq,decide_eq_false_iff_not,ge_iff_le,gt_iff_lt,beq_iff_eq,bne_iff_ne,ne_eq,Bool.or_eq_false_iff,Bool.and_eq_false_imp,Bool.not_true,Bool.not_false])
 try omega
theorem EV (o:Int):∃ a b c,rL o=[.val (.string (xd o)),PI a,PI b,PI c]∧(decide (1≤o∧o≤12) && ((b == 1 || b == 3) && (c == 2 || c == 3)))=fe o:=by
 by_cases h:1≤o∧o≤12
 ·have:o=1∨o=2∨o=3∨o=4∨o=5∨o=6∨o=7∨o=8∨o=9∨o=10∨o=11∨o=12:=by omega
  rcases this with rfl|rfl|rfl|rfl|rfl|rfl|rfl|rfl|rfl|rfl|rfl|rfl <;> exact ⟨_,_,_,rfl,by decide +kernel⟩
 grind [xd,fe,pM]
theorem wb (o:Int):aB Sg 164 [I o] (fun x=>x = .b (B (fe o))):=by
 obtain ⟨a,b,c,he,hn⟩:=EV o;have hf:=pJ o;rw [he] at hf;rw [← hn];refine az Tryz.func164 [.tmp 2] ?_;repeat' (first|((first|refine an (fun K hK => ?_)|refine aa (hf) ?_);and_intros;all_goals first|(refine hK _ ?_;clear hK K)|try exact ai)|(refine bF ?_;(try clear hB KB);(try clear hK K)))
 grind
def UC (l:List Rect):PV := .lst 4 l.length (aQ aS l)
attribute [go_sem] UC
theorem Nw {l:List Rect} {i:Nat} (h:i<l.length):fu (l.take (i+1))=mE (fu (l.take i)) (l.getD i default):=by
 rw [List.take_add_one,List.getElem?_eq_getElem h,List.getD_eq_getElem?_getD,List.getElem?_eq_getElem h];exact DW _ _
theorem tn (l:List Rect) (hl:l.length≤4611686018427387904):aB Sg 64 [.c (.p (UC l))] (fun x=>x = .b (ag (aS (fu l)))):=by
 refine az Tryz.func64 [.cell 2 35] ?_;repeat' (first|refine bL ?_|(refine an (fun K hK => ?_);and_intros;all_goals first|(refine hK _ ?_;clear hK K)|try exact ai))
 refine aK (X:=Nat × Rect) (fun x=>aP [(2, .b (.c (.ptr 0 0))),(3, .b (.c (.ptr 1 0))),(6, .b (.c (.p (UC l)))),(7, .b (I l.length)),(8, .b (I x.1))] [(0, .fix ((aS dz).map CV.p)),(1, .fix ((aS x.2).map CV.p))] 2)
  (fun x=>x.1≤l.length∧x.2=fu (l.take x.1)) (fun x=>l.length - x.1) (0,dz) ?_ ?_ ?_
 ·grind [dz,fu]
 ·refine ar [(1,some 1)] ?_ ?_;and_intros;all_goals first|exact ak|skip
 ·rintro ⟨i,h⟩ ⟨hi,hh⟩;dsimp only at hi hh ⊢;have e0:=Nw (l:=l) (i:=i);cases he:aM (l.getD i default) with
  | true =>
   repeat' (first|refine aj he ?_|refine bL ?_|((first|refine an (fun K hK => ?_)|refine aa (cq (l.getD i default)) ?_);and_intros;all_goals first|(refine hK _ ?_;clear hK K)|try exact ai)|(refine aH (fun hb => ?_) (fun hb => ?_);all_goals try exact ax)|(refine bF ?_;(try clear hB KB);(try clear hK K)))
   ·rw [ae];refine ao (i+1,h) ?_ ⟨by omega,by grind [mE]⟩ (by omega);refine ar [(1,some 1)] ?_ ?_;and_intros;all_goals first|exact ak|skip
   grind
  | false =>
   cases he2:aM h with
   | true =>
    repeat' (first|refine aj (And.intro he he2) ?_|refine bL ?_|((first|refine an (fun K hK => ?_)|refine aa (cq (l.getD i default)) ?_|refine aa (cq h) ?_);and_intros;all_goals first|(refine hK _ ?_;clear hK K)|try exact ai)|(refine aH (fun hb => ?_) (fun hb => ?_);all_goals try exact ax)|(refine bF ?_;(try clear hB KB);(try clear hK K)))
    ·rw [ae];refine ao (i+1,l.getD i default) ?_ ⟨by omega,by grind [mE]⟩ (by omega);refine ar [(1,some 1)] ?_ ?_;and_intros;all_goals first|exact ak|skip
    grind
   | false =>
    repeat' (first|refine aj (And.intro he he2) ?_|refine bL ?_|((first|refine an (fun K hK => ?_)|refine aa (cq (l.getD i default)) ?_|refine aa (cq h) ?_);and_intros;all_goals first|(refine hK _ ?_;clear hK K)|try exact ai)|(refine aH (fun hb => ?_) (fun hb => ?_);all_goals try exact ax)|(refine bF ?_;(try clear hB KB);(try clear hK K)))
    ·rw [ae];refine ao (i+1,⟨min h.x0 (l.getD i default).x0,min h.y0 (l.getD i default).y0,max h.x1 (l.getD i default).x1,max h.y1 (l.getD i default).y1⟩) ?_ ⟨by omega,by grind [mE]⟩ (by omega);refine ar [(1,some 1)] ?_ ?_;and_intros;all_goals first|exact ak|skip
    grind
theorem Er {v:Int} (h:si v=false) : -1099511627776≤v∧v≤1099511627776:=by grind [si]
theorem yq (s:Script) (i x y:Int) (hs:ScriptLen s):aB Sg 199 [ag (ay s),I i,I x,I y] (fun r=>r = .b (ag (aS (gE s i x y)))):=by
 obtain ⟨h1,h2,h3⟩:=id hs;refine az Tryz.func199 [.cell 8 35] ?_;cases hfar:(si x || si y || si (s.images.getD i.toNat default).w || si (s.images.getD i.toNat default).h) with
 | true =>
  repeat' (first|refine aj hfar ?_|refine bL ?_|((first|refine an (fun K hK => ?_)|refine aa (ke x) ?_|refine aA (fun hg=>ke y) ?_|refine aA (fun hg=>ke (s.images.getD i.toNat default).w) ?_|refine aA (fun hg=>ke (s.images.getD i.toNat default).h) ?_);and_intros;all_goals first|(refine hK _ ?_;clear hK K)|try exact ai)|(refine aH (fun hb => ?_) (fun hb => ?_);all_goals try exact ax)|(refine bF ?_;(try clear hB KB);(try clear hK K)))
  ·rw [gE,if_pos (by omega)];rfl
  ·rw [gE,if_neg (by omega),if_pos hfar];rfl
 | false =>
  have hq:=hfar;simp only [Bool.or_eq_false_iff] at hq;have f1:=Er hq.1.1.1;have f2:=Er hq.1.1.2;have f3:=Er hq.1.2;have f4:=Er hq.2;repeat' (first|refine aj hfar ?_|refine bL ?_|((first|refine an (fun K hK => ?_)|refine aa (ke x) ?_|refine aA (fun hg=>ke y) ?_|refine aA (fun hg=>ke (s.images.getD i.toNat default).w) ?_|refine aA (fun hg=>ke (s.images.getD i.toNat default).h) ?_|refine aa (kY ⟨x,y,x+(s.images.getD i.toNat default).w,y+(s.images.getD i.toNat default).h⟩ s.canvas) ?_);and_intros;all_goals first|(refine hK _ ?_;clear hK K)|try exact ai)|(refine aH (fun hb => ?_) (fun hb => ?_);all_goals try exact ax)|(refine bF ?_;(try clear hB KB);(try clear hK K)))
  ·rw [gE,if_pos (by omega)];rfl
  grind [gE]
theorem nE (s:Script) (o:Op) (hs:ScriptLen s):aB Sg 166 [ag (ay s),ag (cC o)] (fun r=>r = .b (ag (aS (bt s o)))):=by
 refine az Tryz.func166 [.cell 4 35] ?_;repeat' (first|refine bL ?_|((first|refine an (fun K hK => ?_)|refine aa (yq s o.image o.x o.y hs) ?_);and_intros;all_goals first|(refine hK _ ?_;clear hK K)|try exact ai)|(refine aH (fun hb => ?_) (fun hb => ?_);all_goals try exact ax)|(refine bF ?_;(try clear hB KB);(try clear hK K)))
 ·rw [bt,if_neg (by omega)];rfl
 simp_all [ag,bt]
theorem oM (s:Script) (o:Op) (hs:ScriptLen s) (hm:0≤o.mask∧o.mask≤1000000):aB Sg 198 [ag (ay s),ag (cC o)] (fun r=>r = .b (ag (aS (cV s o)))):=by
 obtain ⟨m1,m2⟩:=hm;refine az Tryz.func198 [.cell 4 35] ?_;repeat' (first|refine bL ?_|((first|refine an (fun K hK => ?_)|refine aa (kY s.canvas s.canvas) ?_|refine aa (yq s (o.mask - 1) o.maskX o.maskY hs) ?_);and_intros;all_goals first|(refine hK _ ?_;clear hK K)|try exact ai)|(refine aH (fun hb => ?_) (fun hb => ?_);all_goals try exact ax)|(refine bF ?_;(try clear hB KB);(try clear hK K)))
 ·grind [cV]
 grind [cV]
theorem IA (s:Script) (o:Op) (r:Rect) (hs:ScriptLen s) (hm:0≤o.mask∧o.mask≤1000000):aB Sg 188 [ag (ay s),ag (cC o),ag (aS r)] (fun x=>x = .b (ag (aS (lv s o r)))):=by
 refine az Tryz.func188 [.cell 6 35] ?_;repeat' (first|refine bL ?_|((first|refine an (fun K hK => ?_)|refine aa (wb o.operator) ?_|refine aa (oM s o hs hm) ?_|refine aa (kY r (cV s o)) ?_);and_intros;all_goals first|(refine hK _ ?_;clear hK K)|try exact ai)|(refine aH (fun hb => ?_) (fun hb => ?_);all_goals try exact ax)|(refine bF ?_;(try clear hB KB);(try clear hK K)))
 ·grind [lv]
 ·rw [lv,if_neg (by simp [*]),if_pos (by omega)];rfl
 grind [lv]
end
section
def fL (n:Nat) (f:Nat→Nat):PV := .lst 1 n (fun a _=>PI (f a))
attribute [go_sem] fL
theorem jV {n:Nat}:(((n+1:Nat):Int) - 1)=(n:Int):=by omega
attribute [local go_sem] jV Int.toNat_natCast
def Lb (l junk:List Nat) (a:Nat):Nat:=(l.reverse ++ junk).getD a 0
theorem lC {p:Nat} {t junk:List Nat}:Lb (p :: t) junk t.length=p:=by grind [Lb]
theorem Eo {p:Nat} {t junk:List Nat}:Lb (p :: t) junk=Lb t (p :: junk):=by grind [Lb]
theorem FH {l:List Nat} {i a:Nat} {junk:List Nat} (h:a<l.length):Lb (i :: l) [] a=Lb l junk a:=by grind [Lb]
theorem sO (ops:List Op):∀ i,(bE ops i).length≤i
 | 0=>Nat.le_refl _
 | i+1=>by
  have:=sO ops i;grind [bE]
attribute [local go_sem] lC
end
section
def cS (r q:Rect):Bool:=aM q || !aM r && decide (r.x0≤q.x0) && decide (r.y0≤q.y0) && decide (q.x1≤r.x1) && decide (q.y1≤r.y1)
theorem lP (r q:Rect):aB Sg 43 [ag (aS r),ag (aS q)] (fun x=>x = .b (B (cS r q))):=by
 have h1:=cq q;have h2:=cq r;refine az Tryz.func43 [.tmp 4] ?_;repeat' (first|refine an (fun K hK => ?_)|refine aa (h1) ?_|refine aA (fun hg=>h2) ?_|refine aw ?_|(refine aq hK ?_;try clear hK K))
 rfl
attribute [local go_sem] jV Int.toNat_natCast lC
theorem qT (s:Script) (V:VOps s):aB Sg 100 [.c (.p (kU s.ops))] (fun x=>x = .tup [.c (.p (fL s.ops.length (aE s.ops))),I 0]):=by
 have hn:=V.cnt;have W:=V.wf;refine az Tryz.func100 [.tmp 2, .tmp 3] ?_;repeat' (refine aC ?_)
 refine aK (X:=Nat × List Nat) (fun x=>aP [(2, .b (.c (.p (.val (.slice none 0 0))))),(3, .b (I 0)),(4, .b (.c (.own 0 s.ops.length))),(5, .b (.c (.own 1 (bE s.ops x.1).length))),(11, .b (.c (.p (kU s.ops)))),(12, .b (I s.ops.length)),(13, .b (I x.1))]
  [(0, .arr 3 1 s.ops.length (fun a _=>PI (Fk s.ops x.1 a))),(1, .arr 3 1 ((bE s.ops x.1).length+x.2.length) (fun a _=>PI (Lb (bE s.ops x.1) x.2 a)))] 2)
  (fun x=>x.1≤s.ops.length) (fun x=>s.ops.length - x.1) (0,[]) ?_ ?_ ?_
 ·omega
 ·refine ar [(1,none)] ?_ ?_;and_intros;all_goals try exact ak
  refine .inr fun a ha j hj => ?_;have h2:j=0:=by omega
  subst h2;exact fun _ _ _ h=>h
 ·rintro ⟨i,junk⟩ hi;dsimp only at hi ⊢;have hsl:=sO s.ops i;rcases Nat.lt_or_ge i s.ops.length with hlt|hge
  ·rcases W.kinds i hlt with hk|hk|hk
   ·have hk2:(s.ops.getD i default).kind=1:=hk
    repeat' (first|refine aC ?_|(refine aH (fun hb => ?_) (fun hb => ?_) <;> try exact ax))
    rw [ae];refine ao (i+1,junk) ?_ (by omega) (by omega);dsimp only;rw [ec hk];refine ar [(1,some 1)] ?_ ?_;and_intros;all_goals try exact ak
    refine .inr fun a ha j hj => ?_;have h2:j=0:=by omega
    subst h2;by_cases e:a=i
    ·rw [if_pos e,if_pos (by omega),e,Fk,if_neg (by omega),fZ];exact fun _ _ _ h=>h
    ·rw [if_neg e,Fk,if_neg (by omega),jU _ _ e];exact fun _ _ _ h=>h
   ·have hk2:(s.ops.getD i default).kind=2:=hk
    repeat' (first|refine aC ?_|(refine aH (fun hb => ?_) (fun hb => ?_) <;> try exact ax))
    rw [ae];refine ao (i+1,[]) ?_ (by omega) (by omega);dsimp only;rw [dv hk];refine ar [(1,some 4)] ?_ ?_;and_intros;all_goals try exact ak
    ·refine .inr fun a ha j hj => ?_;have h2:j=0:=by omega
     subst h2;by_cases e:a=i
     ·rw [if_pos e,if_pos (by omega),e,Fk,if_neg (by omega),fZ];exact fun _ _ _ h=>h
     ·rw [if_neg e,Fk,if_neg (by omega),jU _ _ e];exact fun _ _ _ h=>h
    refine .inr fun a ha j hj => ?_;have h2:j=0:=by omega
    subst h2;unfold dV;by_cases h:a<(bE s.ops i).length
    ·rw [if_pos h,FH h];exact fun _ _ _ h=>h
    ·have ea:a=(bE s.ops i).length:=by omega
     rw [if_neg h,ea,lC,Nat.sub_self];exact fun _ _ _ h=>h
   ·have hk2:(s.ops.getD i default).kind=3:=hk;cases hs:bE s.ops i with
    | nil=>exact absurd hs (W.pops i hlt hk)
    | cons p t =>
     have hp:p<i:=ej (ops:=s.ops) (by grind);have htl:t.length≤4096:=by rw [hs] at hsl;simp at hsl;omega
     repeat' (first|refine aC ?_|(refine aH (fun hb => ?_) (fun hb => ?_) <;> try exact ax))
     rw [ae];refine ao (i+1,p :: junk) ?_ (by omega) (by omega);dsimp only;rw [eI hk,hs];refine ar [(1,some 1)] ?_ ?_;and_intros;all_goals try exact ak
     ·refine .inr fun a ha j hj => ?_;have h2:j=0:=by omega
      subst h2;rw [Fk,if_pos hk,hs];dsimp only [List.headD];by_cases e:a=p
      ·rw [if_pos e,e,fZ];exact fun _ _ _ h=>h
      ·rw [if_neg e,jU _ _ e];by_cases e2:a=i
       ·rw [if_pos e2,e2,fZ];exact fun _ _ _ h=>h
       ·rw [if_neg e2,jU _ _ e2];exact fun _ _ _ h=>h
     ·grind
     grind [Lb,Eo]
  ·have hi2:i=s.ops.length:=by omega
   subst hi2;rw [W.fin]
   repeat' (first|refine aC ?_|(refine aH (fun hb => ?_) (fun hb => ?_) <;> try exact ax))
   rfl
end
def gn (ops:List Op) (i:Nat):Int:=match bE ops i with|[] => -1|p :: _=>p
def mf (ops:List Op) (i:Nat):Int:=if (ah ops i).kind=3 then gn ops (i+1) else gn ops i
theorem lH {ops:List Op}:∀ {i:Nat} {l t:List Nat} {p:Nat},bE ops i=l ++ p :: t→bE ops p=t
 | 0,l,t,p,h=>by simp_all [bE]
 | i+1,l,t,p,h=>by
  rw [bE] at h;split at h
  ·cases l with
   | nil=>grind
   | cons a l=>simp only [List.cons_append,List.cons.injEq] at h;exact lH h.2
  split at h
  ·cases hs:bE ops i with
   | nil=>simp_all
   | cons q r=>rw [hs] at h;exact lH (l:=q :: l) (by rw [hs];grind)
  ·exact lH h
theorem iJ {ops:List Op} {i:Nat} (h:bE ops i=[]):gn ops i = -1:=by rw [gn,h]
theorem ee {ops:List Op} {i p:Nat} {t:List Nat} (h:bE ops i=p :: t):gn ops i=p:=by rw [gn,h]
theorem nq {ops:List Op} (W:Wf ops) {i:Nat} (hi:i<ops.length) (hk:(ah ops i).kind≠3):bE ops (aE ops i+1)=bE ops i:=by
 rcases W.kinds i hi with h|h|h
 ·rw [gy W hi h,ec h]
 ·have hm:i ∈ bE ops (i+1):=by rw [dv h];exact List.mem_cons_self ..
  obtain ⟨j,t,h1,h2,h3,h4⟩:=wN W (p:=i) (ops.length - (i+1)) (i+1) (by omega) hm;rw [lN W h2 h3 h4,eI h3,h4];exact (lH (l:=[]) h4).symm
 omega
theorem jl {ops:List Op} (W:Wf ops) {i:Nat} (hi:i<ops.length):i≤aE ops i:=by
 rcases W.kinds i hi with h|h|h
 ·grind [gy]
 ·grind [fO]
 grind [CM]
def AI (s:Script) (i:Nat):Bool:=decide (mf s.ops i<0) || (ah s.ops (mf s.ops i).toNat).isolated
def JC (s:Script) (i:Nat):Bool := !decide (mf s.ops i<0) && (ah s.ops (mf s.ops i).toNat).knockout
def cH (s:Script) (k:Int):Image:=s.images.getD k.toNat default
section
def sy:Bx := .fix [.p (PI 0), .p (PI 0), .p (PI 0), .p (PI 0), .p (PI 0), .p (PI 0), .p (PI 0), .p (.val (.slice none 0 0)), .p (.val (.slice none 0 0)), .p (.val (.slice none 0 0))]
attribute [local go_sem] Int.toNat_natCast sy
def yA (s:Script):List (Option PV):=[some (PI s.bits),some (PI s.canvas.x0),some (PI s.canvas.y0),some (PI s.canvas.x1),some (PI s.canvas.y1),some (PI s.tileW),some (PI s.tileH),some (dq s.order),none,some (kU s.ops)]
attribute [local go_sem] yA
end
section
theorem PixV.u {p:Pixel} {m:Int} (hm:Full m) (h:PixV p m):p.c0≤65535∧p.c1≤65535∧p.c2≤65535∧p.a≤65535∧p.f≤65535:=by
 have:=hm.le;have:=h.l0;have:=h.l1;have:=h.l2;have:=h.af;have:=h.fm;omega
theorem lA {p:Pixel} {m:Int} (h:PixV p m):oD p m=true:=decide_eq_true ⟨h.l0,h.l1,h.l2,h.af,h.fm⟩
def dA (x:Acc):List PV:=[PU x.c0,PU x.c1,PU x.c2,PU x.a,PU x.own,PU x.f]
attribute [local go_sem] dA
theorem Ea {i:Int} (h:0≤i∧i≤3):i=0∨i=1∨i=2∨i=3:=by omega
end
section
def mh (x:Ex):List PV:=[.val (.int .u64 (x.p / 18446744073709551616)), .val (.int .u64 (x.p % 18446744073709551616)), .val (.int .u64 x.q), .val (.int .u64 x.r), .val (.int .u64 x.d)]
attribute [local go_sem] qE mh
structure ExS (x:Ex):Prop where
 p0:0≤x.p
 p1:x.p<79228162514264337593543950336
 q0:0≤x.q
 q1:x.q<140737488355328
 r0:0≤x.r
 r1:x.r<8589934592
 d0:0≤x.d
 d1:x.d<18446744073709551616
theorem xa {x:Ex} (h:ExS x):0≤x.q * x.q∧x.q * x.q<340282366920938463463374607431768211456∧0≤x.q * x.q * x.r∧x.q * x.q * x.r<340282366920938463463374607431768211456:=by
 obtain ⟨p0,p1,q0,q1,r0,r1,d0,d1⟩:=h;have h1:0≤x.q * x.q:=au q0 q0;have h2:x.q * x.q≤140737488355327 * 140737488355327:=aD (by omega) (by omega) q0 (by omega);have h3:x.q * x.q * x.r≤140737488355327 * 140737488355327 * 8589934591:=aD h2 (by omega) r0 (by omega);exact ⟨h1,by omega,au h1 r0,by omega⟩
def pD (x:Ex) (n:Int):Int:=if n / 18446744073709551616>0 then -1 else kT (x.q * x.q * x.r) (n % 18446744073709551616 * (n % 18446744073709551616))
theorem Fe {x:Ex} {n:Int} (h:ExS x) (hn:0≤n):(0≤pD x n)↔n * n≤x.q * x.q * x.r:=by
 have hs:=xa h;unfold pD;split
 ·rename_i q;have:18446744073709551616 * 18446744073709551616≤n * n:=aD (by omega) (by omega) (by omega) (by omega);omega
 ·rename_i q;rw [show n % 18446744073709551616=n by omega];unfold kT;split
  ·omega
  ·split <;> omega
end
section
attribute [local go_sem] qE mh
theorem MO {n:Int} {k:Nat} (h0:0≤n) (hk:k<64) (hm:n % 2 ^ (k+1)=0) (h:n+2 ^ k<18446744073709551616):QT .u64 n (2 ^ k)=n+2 ^ k:=by
 obtain ⟨m,rfl⟩:=Int.eq_ofNat_of_zero_le h0;have p:((2:Int) ^ k)=((2 ^ k:Nat):Int):=by simp
 have p1:((2:Int) ^ (k+1))=((2 ^ (k+1):Nat):Int):=by simp
 rw [p] at h ⊢;rw [p1] at hm;have hlt:m+2 ^ k<18446744073709551616:=by omega
 have hm':m % 2 ^ (k+1)=0:=by omega
 show IntKind.u64.wrap (BitVec.ofInt 64 (m:Int) ||| BitVec.ofInt 64 ((2 ^ k:Nat):Int)).toNat=_;rw [BitVec.toNat_or,BitVec.toNat_ofInt,BitVec.toNat_ofInt];have e1:((m:Int) % ((2 ^ 64:Nat):Int)).toNat=m:=by omega
 have e2:(((2 ^ k:Nat):Int) % ((2 ^ 64:Nat):Int)).toNat=2 ^ k:=by omega
 rw [e1,e2];have e3:m ||| 2 ^ k=m+2 ^ k:=by
  have h1:2 ^ (k+1) * (m / 2 ^ (k+1))=m:=by have:=Nat.div_add_mod m (2 ^ (k+1));omega
  have:=Nat.two_pow_add_eq_or_of_lt (b:=2 ^ k) (i:=k+1) (Nat.pow_lt_pow_right (by decide) (by omega)) (m / 2 ^ (k+1));rw [h1] at this;exact this.symm
 rw [e3,rI (by omega) (by omega)];omega
end
section
attribute [local go_sem] dA
theorem PixV.pre {p:Pixel} {m:Int} (h:PixV p m):Pre p.c0 p.a m∧Pre p.c1 p.a m∧Pre p.c2 p.a m:=⟨⟨h.n0,h.l0,h.am⟩,⟨h.n1,h.l1,h.am⟩,⟨h.n2,h.l2,h.am⟩⟩
theorem AccV.pre {x:Acc} {b:Pixel} {m:Int} (h:AccV x b m):Pre x.c0 x.a m∧Pre x.c1 x.a m∧Pre x.c2 x.a m:=⟨⟨h.n0,h.l0,h.am⟩,⟨h.n1,h.l1,h.am⟩,⟨h.n2,h.l2,h.am⟩⟩
end
end Go.Proofs.YtdjmpacladhijaaGreatDoor
namespace Go.SL
open Go
section
def rG (n0:Nat) (r:List (Nat × Option Nat)) (i:Nat):Option Nat:=if i<n0 then some i else tE r i
theorem oq {n0 i:Nat} {r:List (Nat × Option Nat)} (h:i<n0):rG n0 r i=some i:=if_pos h
theorem mY {n0 i:Nat} {r:List (Nat × Option Nat)} (h:n0≤i):rG n0 r i=tE r i:=if_neg (by omega)
def wD (l:List (Nat × SV)) (B:Nat→Option Bx) (nx:Nat) (kf:Nat→SV):St:=⟨ma l,B,nx,kf⟩
section
variable {l:List (Nat × SV)} {B:Nat→Option Bx} {nx:Nat} {kf:Nat→SV}
theorem a4r {s:Nat}:(wD l B nx kf).fr s=ma l s:=rfl
theorem a2c:(wD l B nx kf).bx=B:=rfl
theorem a3q:(wD l B nx kf).nx=nx:=rfl
theorem a2t:(wD l B nx kf).kf=kf:=rfl
end
attribute [go_sem] a4r a2c a3q a2t oq mY
theorem KV {r : Nat → Option Nat} {bx B : Nat → Option Bx} {id n sz e m : Nat} {f f' : Nat → Nat → PV} (hb : bx id = some (.arr e sz m f)) (hn : n ≤ m) (h : ∀ i, i < n → ∀ j, j < sz → PV.le (f i j) (f' i j)) (hr : ∀ id', B id' ≠ none → r id' ≠ some id) :
  Gt r bx B (.own id n) (.p (.lst sz n f')):=⟨e,m,f,hb,rfl,hn,h,hr⟩
theorem Kf {r:Nat→Option Nat} {bx B:Nat→Option Bx} {n:Nat} (hr:∀ id,id<n→r id=some id):∀ {x:Bx},x.lt n→QY r bx B x x
 | .fix l,h=>BQ hr h
 | .arr ..,_=>⟨rfl,rfl,rfl, .inl rfl⟩
theorem a9n {st : St} {l : List (Nat × SV)} {B : Nat → Option Bx} {nx : Nat} {kf : Nat → SV} (n0 : Nat) (r : List (Nat × Option Nat)) (ns : List Nat) (hkf : st.kf = kf) (hkl : ∀ s, (kf s).lt n0) (hn0 : n0 ≤ nx) (h0 : 0 < n0)
  (hfr:qV (rG n0 r) st B nx l) (hns:∀ i,B i≠none→n0≤i→i ∈ ns) (hge:∀ i ∈ ns,∀ k,tE r i=some k→n0≤k) (hinj:IX (tE r) ns=true)
  (hb:∀ i x,B i=some x→(i<n0∧st.bx i=some x∧x.lt n0)∨(iE (rG n0 r) st.bx B i x∧i<nx∧x.lt nx)):Le st (wD l B nx kf):=by
 have hid:∀ i,i<n0→rG n0 r i=some i:=fun i h=>oq h;refine ⟨⟨rG n0 r,hid 0 h0,fun _=>by grind [wD],fun i j k hi hj h1 h2 => ?_,fun s => ?_,fun i x hx => ?_,fun s => ?_⟩,fun s => ?_,fun i x hx => ?_,fun s=>SV.lt_mono hn0 (hkl s)⟩
 ·rcases Nat.lt_or_ge i n0 with q1|q1 <;> rcases Nat.lt_or_ge j n0 with q2|q2
  ·grind
  ·rw [oq q1] at h1;rw [mY q2] at h2;have:=hge j (hns j hj q2) k h2;grind
  ·rw [mY q1] at h1;rw [oq q2] at h2;have:=hge i (hns i hi q1) k h1;grind
  ·rw [mY q1] at h1;rw [mY q2] at h2;exact sL hinj i j k (hns i hi q1) (hns j hj q2) h1 h2
 ·show Ck _ _ _ _ (ma l s);rcases lS (s:=s) (l:=l) with h|h
  ·grind [Ck,vK]
  ·exact (lV hfr h).1
 ·rcases hb i x hx with ⟨h1,h2,h3⟩|h
  ·grind [iE,QY,Kf]
  ·exact h.1
 ·show Ck _ _ _ (st.kf s) (kf s);rw [hkf];grind [Lc]
 ·show SV.lt nx (ma l s);rcases lS (s:=s) (l:=l) with h|h
  ·rw [h];trivial
  ·exact (lV hfr h).2
 ·rcases hb i x hx with ⟨h1,h2,h3⟩|h
  ·grind [wD,Bx.lt,Bx.lt_mono]
  ·exact h.2
section
variable {S:Env}
theorem vM {f : FuncId} {fn : Func} {c : Code} {rs : List ResultVar} {args : List BV} {X : SV} {bx bx' : Nat → Option Bx} {nx nx' : Nat} (hf : S.P.funcs[f]? = some fn) (hb : fn.body = some c) (hrs : fn.results.toList = rs)
  (hname : (fn.name == "runtime.NumGoroutine") = false) (hm : S.P.follows .mixedOrders = true) (hN : cX fn.ntmps c = true) (hlen : args.length ≤ fn.ntmps) (hl : ∀ x ∈ args, BV.lt nx x)
  (h:∀ kf:Nat→SV,(∀ s,(kf s).lt nx)→(∀ i y,bx i=some y→i<nx∧y.lt nx)→cw S c (Mf S rs X bx' nx' kf) (ID args bx nx kf)):lj S bx nx f args X bx' nx':=by
 refine ⟨⟨fn,hf,hname,by grind⟩,fun E st ρ a w vs hbx hnx g hsz hden => ?_⟩;have hwf:∀ i y,bx i=some y→i<nx∧y.lt nx:=fun i y hi=>by
  subst hbx;subst hnx;exact g.wfb i y hi
 exact (YW hf hb hrs hname hm hN hlen hl fun kf hk=>h kf hk hwf).2 E st ρ a w vs hbx hnx g hsz hden
end
end
def HN (n0:Nat) (base:Nat→Option Bx) (L:List (Nat × Bx)) (i:Nat):Option Bx:=if i<n0 then base i else iP L i
theorem a3C {n0 i:Nat} {base:Nat→Option Bx} {L:List (Nat × Bx)} (h:i<n0):HN n0 base L i=base i:=if_pos h
theorem a2e {n0 k:Nat} {base:Nat→Option Bx} {L:List (Nat × Bx)}:HN n0 base L (n0+k)=iP L (n0+k):=if_neg (by omega)
theorem a5R {n0:Nat} {base:Nat→Option Bx} {L:List (Nat × Bx)}:HN n0 base L n0=iP L n0:=if_neg (by omega)
attribute [go_sem] a3C a2e a5R
def a3x (n0:Nat) (r:List (Nat × Option Nat)) (st:St) (base:Nat→Option Bx) (L:List (Nat × Bx)):Prop :=
 ∀ i x,i<n0→base i=some x→x.lt n0∧(st.bx i=some x∨iE (rG n0 r) st.bx (HN n0 base L) i x)
theorem Il {st : St} {l : List (Nat × SV)} {B : Nat → Option Bx} {nx : Nat} {kf : Nat → SV} (n0 : Nat) (r : List (Nat × Option Nat)) (ns : List Nat) (hkf : st.kf = kf) (hkl : ∀ s, (kf s).lt n0) (hn0 : n0 ≤ nx) (h0 : 0 < n0)
  (hfr:qV (rG n0 r) st B nx l) (hns:∀ i,B i≠none→n0≤i→i ∈ ns) (hge:∀ i ∈ ns,∀ k,tE r i=some k→n0≤k) (hinj:∀ i j k,i ∈ ns→j ∈ ns→tE r i=some k→tE r j=some k→i=j)
  (hb:∀ i x,B i=some x→(i<n0∧st.bx i=some x∧x.lt n0)∨(iE (rG n0 r) st.bx B i x∧i<nx∧x.lt nx)):Le st (wD l B nx kf):=by
 have hid:∀ i,i<n0→rG n0 r i=some i:=fun i h=>oq h;refine ⟨⟨rG n0 r,hid 0 h0,fun _=>by grind [wD],fun i j k hi hj h1 h2 => ?_,fun s => ?_,fun i x hx => ?_,fun s => ?_⟩,fun s => ?_,fun i x hx => ?_,fun s=>SV.lt_mono hn0 (hkl s)⟩
 ·rcases Nat.lt_or_ge i n0 with q1|q1 <;> rcases Nat.lt_or_ge j n0 with q2|q2
  ·grind
  ·rw [oq q1] at h1;rw [mY q2] at h2;have:=hge j (hns j hj q2) k h2;grind
  ·rw [mY q1] at h1;rw [oq q2] at h2;have:=hge i (hns i hi q1) k h1;grind
  ·rw [mY q1] at h1;rw [mY q2] at h2;exact hinj i j k (hns i hi q1) (hns j hj q2) h1 h2
 ·show Ck _ _ _ _ (ma l s);rcases lS (s:=s) (l:=l) with h|h
  ·grind [Ck,vK]
  ·exact (lV hfr h).1
 ·rcases hb i x hx with ⟨h1,h2,h3⟩|h
  ·grind [iE,QY,Kf]
  ·exact h.1
 ·show Ck _ _ _ (st.kf s) (kf s);rw [hkf];grind [Lc]
 ·show SV.lt nx (ma l s);rcases lS (s:=s) (l:=l) with h|h
  ·rw [h];trivial
  ·exact (lV hfr h).2
 ·rcases hb i x hx with ⟨h1,h2,h3⟩|h
  ·grind [wD,Bx.lt,Bx.lt_mono]
  ·exact h.2
def rD (n0:Nat) (ids:List (Nat × Nat)):List (Nat × Option Nat):=ids.map fun p=>(n0+p.1,some (n0+p.2))
theorem a2n {n0:Nat}:rD n0 []=[]:=rfl
theorem Mq {n0 a b:Nat} {l:List (Nat × Nat)}:rD n0 ((a,b) :: l)=(n0+a,some (n0+b)) :: rD n0 l:=rfl
attribute [go_sem] a2n Mq
theorem Me {n0 i k:Nat}:∀ {ids:List (Nat × Nat)},i ∈ ids.map (fun p=>n0+p.1)→tE (rD n0 ids) i=some k→∃ p ∈ ids,i=n0+p.1∧k=n0+p.2
 | [],hm,h=>by cases hm
 | (a,b) :: l,hm,h=>by
  rw [Mq,fh] at h;split at h
  ·simp_all
  ·rename_i e;rcases List.mem_cons.1 hm with q|q
   ·grind
   ·obtain ⟨p,hp,h1,h2⟩:=Me q h;grind
theorem CJ {st : St} {l : List (Nat × SV)} {L : List (Nat × Bx)} {base : Nat → Option Bx} {n0 nx : Nat} {kf : Nat → SV} (ids : List (Nat × Nat)) (hkf : st.kf = kf) (hkl : ∀ s, (kf s).lt n0) (hn0 : n0 ≤ nx) (h0 : 0 < n0)
  (hbase:a3x n0 (rD n0 ids) st base L) (hfr:qV (rG n0 (rD n0 ids)) st (HN n0 base L) nx l) (hL:Cm (rG n0 (rD n0 ids)) st (HN n0 base L) nx L)
  (hcov:L.map (·.1)=ids.map (fun p=>n0+p.1):=by rfl) (hinj:(ids.all fun p=>ids.all fun q=>p.2 != q.2 || p.1 == q.1)=true:=by rfl):Le st (wD l (HN n0 base L) nx kf):=by
 refine Il n0 (rD n0 ids) (L.map (·.1)) hkf hkl hn0 h0 hfr (fun i hi hn => ?_) (fun i hm k h => ?_) (fun i j k hm hm2 h1 h2 => ?_) (fun i x hx => ?_)
 ·unfold HN at hi;rw [if_neg (by omega)] at hi;cases h:iP L i with
  | none=>grind
  | some x=>exact List.mem_map.2 ⟨(i,x),jJ h,rfl⟩
 ·grind [Me]
 ·grind [Me]
 ·unfold HN at hx;split at hx
  ·rename_i hi;obtain ⟨h1,h2⟩:=hbase i x hi hx;grind [Bx.lt,Bx.lt_mono]
  ·exact .inr (su hL (jJ hx))
section
theorem Mx {n0 c:Nat} {ids:List (Nat × Nat)} {base:Nat→Option Bx} {L:List (Nat × Bx)} (hcov:L.map (·.1)=ids.map (fun p=>n0+p.1)) (hc:(ids.all fun p=>p.2 != c)=true):∀ id',HN n0 base L id'≠none→rG n0 (rD n0 ids) id'≠some (n0+c):=fun id' h e=>by
 rcases Nat.lt_or_ge id' n0 with q|q
 ·grind [rG,oq]
 ·unfold HN at h;rw [if_neg (by omega)] at h;rw [mY q] at e;cases hx:iP L id' with
  | none=>exact h hx
  | some x =>
   have hm:id' ∈ ids.map (fun p=>n0+p.1):=by rw [← hcov];exact List.mem_map.2 ⟨_,jJ hx,rfl⟩
   grind [Me]
theorem a6f {st : St} {l : List (Nat × SV)} {B : Nat → Option Bx} {nx : Nat} {kf : Nat → SV} (hkf : st.kf = kf) (hkl : ∀ s, (kf s).lt nx) (h0 : 0 < nx) (hfr : qV (rG nx []) st B nx l)
  (hb:∀ i x,B i=some x→i<nx∧x.lt nx∧iE (rG nx []) st.bx B i x):Le st (wD l B nx kf) :=
 Il nx [] [] hkf hkl (Nat.le_refl _) h0 hfr (fun i hi hn=>by
  cases hx:B i with
  | none=>grind
  | some x=>grind) (fun i h=>by cases h) (fun i j k h=>by cases h) (fun i x hx => .inr ⟨(hb i x hx).2.2,(hb i x hx).1,(hb i x hx).2.1⟩)
theorem jO {nx i:Nat} {bx B:Nat→Option Bx} {x y:Bx} (hi:i<nx) (h:bx i=some y) (hx:QY (rG nx []) bx B y x):iE (rG nx []) bx B i x:=by grind [iE,rG,oq]
theorem wz {nx:Nat} {bx B:Nat→Option Bx} {x:Bx} (h:x.lt nx):QY (rG nx []) bx B x x:=Kf (fun id hid=>oq hid) h
def Gu (b k:Nat) (cs:List CV) (n T sz N:Nat) (f:Nat→Nat→PV) (base:Nat→Option Bx):Nat→Option Bx:=aJ b (.fix (cs ++ [.own k n])) (aJ k (.arr T sz N f) base)
section
variable {b k n T sz N:Nat} {cs:List CV} {f:Nat→Nat→PV} {base:Nat→Option Bx}
theorem UW:Gu b k cs n T sz N f base b=some (.fix (cs ++ [.own k n])):=by simp [Gu,aJ]
theorem Uv (h:k≠b):Gu b k cs n T sz N f base k=some (.arr T sz N f):=by simp [Gu,aJ,h]
theorem Hf {i:Nat} (h:i≠b) (h2:i≠k):Gu b k cs n T sz N f base i=base i:=by simp [Gu,aJ,h,h2]
end
theorem a9f {st : St} {l : List (Nat × SV)} {b k n T sz N n0 nx : Nat} {cs : List CV} {f f' : Nat → Nat → PV} {base : Nat → Option Bx} {kf : Nat → SV} (hkf : st.kf = kf) (hkl : ∀ s, (kf s).lt n0) (hn0 : n0 ≤ nx) (h0 : 0 < nx) (hbn : b < nx) (hkn : k < nx) (hkb : k ≠ b)
  (hcs:∀ c ∈ cs,CV.lt 0 c) (h1:st.bx b=some (.fix (cs ++ [.own k n]))) (h2:st.bx k=some (.arr T sz N f)) (hf:f=f'∨∀ i,i<N→∀ j,j<sz→PV.le (f i j) (f' i j))
  (hoth:∀ i x,i≠b→i≠k→base i=some x→i<nx∧x.lt nx∧iE (rG nx []) st.bx (Gu b k cs n T sz N f' base) i x) (hfr:qV (rG nx []) st (Gu b k cs n T sz N f' base) nx l):Le st (wD l (Gu b k cs n T sz N f' base) nx kf):=by
 refine a6f hkf (fun s=>SV.lt_mono hn0 (hkl s)) h0 hfr (fun i x hx => ?_);by_cases e1:i=b
 ·subst e1;rw [UW] at hx;cases hx;have hl:(Bx.fix (cs ++ [.own k n])).lt nx:=fun c hc=>by
   rcases List.mem_append.1 hc with q|q
   ·exact CV.lt_mono (Nat.zero_le _) (hcs c q)
   grind [CV.lt]
  grind [iE,jO,wz]
 by_cases e2:i=k
 ·subst e2;rw [Uv hkb] at hx;cases hx;exact ⟨hkn,trivial,jO hkn h2 ⟨rfl,rfl,rfl,hf⟩⟩
 grind [Gu,Hf]
theorem EH {r:Nat→Option Nat} {bx B:Nat→Option Bx}:∀ {l l' m m':List CV},LP r bx B l l'→LP r bx B m m'→LP r bx B (l ++ m) (l' ++ m')
 | [],[],_,_,_,h=>h
 | x :: l,y :: l',_,_,⟨h1,h2⟩,h=>⟨h1,EH h2 h⟩
theorem QV {st : St} {l : List (Nat × SV)} {b q n T sz N n0 : Nat} {cs : List CV} {f f' : Nat → Nat → PV} {base : Nat → Option Bx} {kf : Nat → SV} (hkf : st.kf = kf) (hkl : ∀ s, (kf s).lt n0) (hbn : b < n0) (hqn : n0 ≤ q)
  (hcs:∀ c ∈ cs,CV.lt 0 c) (h1:st.bx b=some (.fix (cs ++ [.own q n]))) (h2:st.bx q=some (.arr T sz N f)) (hf:f=f'∨∀ i,i<N→∀ j,j<sz→PV.le (f i j) (f' i j))
  (hoth:∀ i x,i≠b→base i=some x→i<n0∧x.lt n0∧st.bx i=some x) (hfr:qV (rG n0 [(n0,some q)]) st (Gu b n0 cs n T sz N f' base) (n0+1) l):Le st (wD l (Gu b n0 cs n T sz N f' base) (n0+1) kf):=by
 have hr0:rG n0 [(n0,some q)] n0=some q:=by rw [mY (Nat.le_refl _),fh,if_pos rfl]
 refine Il n0 [(n0,some q)] [n0] hkf hkl (by omega) (by omega) hfr (fun i hi hn => ?_) (fun i hi k hk => ?_) (fun i j k hi hj _ _ => ?_) (fun i x hx => ?_)
 ·by_cases e:i=n0
  ·grind
  ·rw [Hf (by omega) e] at hi;cases hx:base i with
   | none=>grind
   | some x=>grind
 ·grind [tE,fh]
 ·grind
 ·by_cases e1:i=b
  ·subst e1;rw [UW] at hx;cases hx;refine .inr ⟨?_,by omega,fun c hc => ?_⟩
   ·unfold iE;rw [oq hbn];refine ⟨_,h1,EH (BQ (n:=n0) (fun id hid=>oq hid) fun c hc=>CV.lt_mono (Nat.zero_le _) (hcs c hc)) ⟨⟨hr0,rfl⟩,trivial⟩⟩
   ·rcases List.mem_append.1 hc with q|q
    ·exact CV.lt_mono (Nat.zero_le _) (hcs c q)
    grind [CV.lt]
  by_cases e2:i=n0
  ·subst e2;rw [Uv (by omega)] at hx;cases hx;refine .inr ⟨?_,by omega,trivial⟩;unfold iE;rw [hr0];grind [QY,rG,Gu,PV.le]
  grind [Gu,Hf]
end
end Go.SL
namespace Go.Proofs.YtdjmpacladhijaaGreatDoor
open Go Go.SL
open Go.RowKit (wrap64)
section
attribute [local go_sem] qE
theorem a4f (n:Int) (h:Q64 n):aB Sg 260 [cY n] (fun r=>r = .b (ag (qE n))):=by
 obtain ⟨h0,h1⟩:=h;refine az Tryz.func260 [.cell 2 272] ?_;repeat' (refine aC ?_)
 rw [show n / 18446744073709551616=0 by omega,show n % 18446744073709551616=n by omega];rfl
theorem mK (a b:Int) (ha:Q64 a) (hb:Q64 b):aB Sg 249 [cY a,cY b] (fun r=>r = .b (ag (qE (a * b)))):=by
 have h:=uF a b ha.l ha.u hb.l hb.u;refine az Tryz.func249 [.cell 4 272] ?_;repeat' (first|refine an (fun K hK => ?_)|refine aa (h) ?_|refine aw ?_|(refine aq hK ?_;try clear hK K))
 rfl
theorem wt (x y:Int) (hx:0≤x) (hy:0≤y) (h:x+y<340282366920938463463374607431768211456):aB Sg 248 [ag (qE x),ag (qE y)] (fun r=>r = .tup [ag (qE (x+y)),B true]):=by
 have qx:=vh (n:=x) ⟨hx,by omega⟩;have qy:=vh (n:=y) ⟨hy,by omega⟩;have h1:=zd (x % 18446744073709551616) (y % 18446744073709551616) 0 qx.2 qy.2 ⟨by decide,by decide⟩;have h2:=zd (x / 18446744073709551616) (y / 18446744073709551616) ((x % 18446744073709551616+y % 18446744073709551616+0) / 18446744073709551616) qx.1 qy.1 ⟨by omega,by omega⟩;refine az Tryz.func248 [.cell 4 272, .tmp 5] ?_
 repeat' (first|refine aw ?_|refine an (fun K hK => ?_)|refine qt (h1) ?_|refine qt (h2) ?_|(refine aH (fun hb => ?_) (fun hb => ?_) <;> try exact ax)|(refine aq hK ?_;try clear hK K))
 rw [show (x / 18446744073709551616 + y / 18446744073709551616 + (x % 18446744073709551616 + y % 18446744073709551616 + 0) / 18446744073709551616) % 18446744073709551616 = (x + y) / 18446744073709551616 by clear h1 h2; omega,
   show (x % 18446744073709551616+y % 18446744073709551616+0) % 18446744073709551616=(x+y) % 18446744073709551616 by clear h1 h2;omega]
 rfl
theorem YB (x y:Int) (hx:Q128 x) (hy:Q128 y) (h:y≤x):aB Sg 265 [ag (qE x),ag (qE y)] (fun r=>r = .tup [ag (qE (x - y)),B true]):=by
 have qx:=vh hx;have qy:=vh hy;have h1:=vk (x % 18446744073709551616) (y % 18446744073709551616) 0 qx.2 qy.2 ⟨by decide,by decide⟩;have h2:=vk (x / 18446744073709551616) (y / 18446744073709551616) (if x % 18446744073709551616<y % 18446744073709551616+0 then 1 else 0) qx.1 qy.1 ⟨by split <;> decide,by split <;> decide⟩;have hx1:=hx.u;have hy0:=hy.l;refine az Tryz.func265 [.cell 4 272, .tmp 5] ?_
 repeat' (first|refine aw ?_|refine an (fun K hK => ?_)|refine qt (h1) ?_|refine qt (h2) ?_|(refine aH (fun hb => ?_) (fun hb => ?_) <;> try exact ax)|(refine aq hK ?_;try clear hK K))
 rw [show (x / 18446744073709551616 + 18446744073709551616 - y / 18446744073709551616 - if x % 18446744073709551616 < y % 18446744073709551616 + 0 then 1 else 0) % 18446744073709551616 = (x - y) / 18446744073709551616 by clear h1 h2; split <;> omega,
   show (x % 18446744073709551616+18446744073709551616 - y % 18446744073709551616 - 0) % 18446744073709551616=(x - y) % 18446744073709551616 by clear h1 h2;omega]
 rfl
theorem ZK (x y:Int) (hx:Q128 x) (hy:Q128 y) (h:x<y):aB Sg 265 [ag (qE x),ag (qE y)] (fun r=>r = .tup [ag (qE 0),B false]):=by
 have qx:=vh hx;have qy:=vh hy;have h1:=vk (x % 18446744073709551616) (y % 18446744073709551616) 0 qx.2 qy.2 ⟨by decide,by decide⟩;have h2:=vk (x / 18446744073709551616) (y / 18446744073709551616) (if x % 18446744073709551616<y % 18446744073709551616+0 then 1 else 0) qx.1 qy.1 ⟨by split <;> decide,by split <;> decide⟩;refine az Tryz.func265 [.cell 4 272, .tmp 5] ?_
 repeat' (first|refine aw ?_|refine an (fun K hK => ?_)|refine qt (h1) ?_|refine qt (h2) ?_|(refine aH (fun hb => ?_) (fun hb => ?_) <;> try exact ax)|(refine aq hK ?_;try clear hK K))
 rfl
theorem Vc (x:Int):aB Sg 277 [cY x] (fun r=>r = .b (B false)):=by
 refine az Tryz.func277 [.tmp 2] ?_;repeat' (refine aC ?_)
 rw [bne_self_eq_false]
theorem LS (x y:Int):aB Sg 275 [cY x,cY y] (fun r=>r = .b (I (kT x y))):=by
 have h1:=Vc x;have h2:=Vc y;have ht:True:=trivial;refine az Tryz.func275 [.tmp 4] ?_
 repeat' (first|refine aj ht ?_|refine aw ?_|refine an (fun K hK => ?_)|refine aa (h1) ?_|refine aa (h2) ?_|(refine aH (fun hb => ?_) (fun hb => ?_) <;> try exact ax)|(refine aq hK ?_;try clear hK K))
 ·rw [kT,if_neg (by omega),if_pos (by omega)]
 ·rw [kT,if_neg (by omega),if_neg (by omega)]
 ·rw [kT,if_pos (by omega)]
theorem a3f (a b:Int):aB Sg 274 [.c (.p (.lst 1 2 (fun i _=>PI (if i=0 then a else b))))] (fun r=>r = .b (I (if a=0 then b else a))):=by
 have ht:True:=trivial;refine az Tryz.func274 [.tmp 2] ?_;repeat' (refine aC ?_)
 refine aK (X:=Nat) (fun i=>aP [(3, .b (I 0)),(6, .b (.c (.p (.lst 1 2 (fun i _=>PI (if i=0 then a else b)))))),(7, .b (I 2)),(8, .b (I i))] [] 1) (fun i=>i≤2∧(0<i→a=0)∧(1<i→b=0)) (fun i=>2 - i) 0 ?_ ?_ ?_
 ·exact ⟨by omega,fun h=>absurd h (by omega),fun h=>absurd h (by omega)⟩
 ·refine ar [] ?_ ?_;and_intros;all_goals try exact ak
 ·rintro i ⟨i2,ia,ib⟩;have hv:i=0∨i=1∨i=2:=by omega
  rcases hv with rfl|rfl|rfl
  ·repeat' (first|refine aC ?_|(refine aH (fun hb => ?_) (fun hb => ?_) <;> try exact ax))
   ·have hb':¬ a=0:=hb;exact congrArg (fun v=>SV.b (I v)) (if_neg hb').symm
   ·have hb':a=0:=hb;rw [ae];refine ao 1 ?_ ⟨by omega,fun _=>hb',fun h=>absurd h (by omega)⟩ (by omega);refine ar [] ?_ ?_;and_intros;all_goals try exact ak
  ·have a0:=ia (by decide)
   repeat' (first|refine aC ?_|(refine aH (fun hb => ?_) (fun hb => ?_) <;> try exact ax))
   ·exact congrArg (fun v=>SV.b (I v)) (if_pos a0).symm
   ·have hb':b=0:=hb;rw [ae];refine ao 2 ?_ ⟨by omega,fun _=>a0,fun _=>hb'⟩ (by omega);refine ar [] ?_ ?_;and_intros;all_goals try exact ak
  ·have a0:=ia (by decide);have b0:=ib (by decide)
   repeat' (first|refine aC ?_|(refine aH (fun hb => ?_) (fun hb => ?_) <;> try exact ax))
   rw [if_pos a0,b0]
theorem ZT {x y:Int}:(if kT (x / 18446744073709551616) (y / 18446744073709551616)=0 then kT (x % 18446744073709551616) (y % 18446744073709551616) else kT (x / 18446744073709551616) (y / 18446744073709551616))=kT x y:=by
 unfold kT;repeat' split
 all_goals omega
theorem Ev (x y:Int):aB Sg 267 [ag (qE x),ag (qE y)] (fun r=>r = .b (I (kT x y))):=by
 have ht:True:=trivial;have h1:=LS (x / 18446744073709551616) (y / 18446744073709551616);have h2:=LS (x % 18446744073709551616) (y % 18446744073709551616);have h3:=a3f (kT (x / 18446744073709551616) (y / 18446744073709551616)) (kT (x % 18446744073709551616) (y % 18446744073709551616));rw [ZT] at h3;refine az Tryz.func267 [.tmp 4] ?_;repeat' (first|((with_reducible refine vi (id:=1) [] ?_ (fun K hK => ?_));exact bZ;refine bV ?_)|refine an (fun K hK => ?_)|refine aa (h1) ?_|refine aa (h2) ?_|(refine aq hK ?_;try clear hK K)|(refine pz hK ?_;try clear hK K))
 refine fT ?_ ?_ ba ?_ (h3);try simp (maxSteps:=999999)(disch:=omega) only [go_sem]
 try (refine hK _ ?_;clear hK K)
 ·refine hK _ ba ?_;clear hK;repeat' (first|with_reducible exact cz|refine aC ?_)
 ·simp (maxSteps:=1000000) (disch:=omega) only [go_sem,fi,fY];refine qJ (gX fun i hi j hj => ?_);have:i=0∨i=1:=by omega
  have hj0:j=0:=by omega
  subst hj0;rcases this with rfl|rfl <;> rfl
 ·trivial
end
section
attribute [local go_sem] qE
theorem vz (x y:Int) (hx:0≤x) (hy:Q64 y) (h:x * y<340282366920938463463374607431768211456) (hx2:x<340282366920938463463374607431768211456):aB Sg 264 [ag (qE x),cY y] (fun r=>r = .tup [ag (qE (x * y)),B true]):=by
 have ⟨q1,q2⟩:=vh (n:=x) ⟨hx,hx2⟩;have h1:=uF (x / 18446744073709551616) y q1.l q1.u hy.l hy.u;have h3:=mK (x % 18446744073709551616) y q2 hy;have e:x / 18446744073709551616 * y * 18446744073709551616+x % 18446744073709551616 * y=x * y:=by
  have:=Int.mul_ediv_add_emod x 18446744073709551616;generalize x / 18446744073709551616=a at *
  generalize x % 18446744073709551616=b at *
  rw [← this,Int.add_mul,Int.mul_comm 18446744073709551616 a,Int.mul_right_comm]
 have p0:0≤x / 18446744073709551616 * y:=au q1.l hy.l;have r0:0≤x % 18446744073709551616 * y:=au q2.l hy.l;have h2:=wt (x / 18446744073709551616 * y * 18446744073709551616) (x % 18446744073709551616 * y) (by omega) r0 (by omega);rw [e] at h2;generalize x % 18446744073709551616 * y=r at *
 generalize x / 18446744073709551616 * y=p at *
 have hp:p<18446744073709551616:=by omega
 rw [show qE (p * 18446744073709551616)=[.val (.int .u64 p), .val (.int .u64 0)] by
  simp only [qE]
  rw [show p * 18446744073709551616 / 18446744073709551616=p by omega,show p * 18446744073709551616 % 18446744073709551616=0 by omega]] at h2
 rw [show p / 18446744073709551616=0 by omega,show p % 18446744073709551616=p by omega] at h1;have ht:True:=trivial;refine az Tryz.func264 [.cell 4 272, .tmp 5] ?_;repeat' (first|refine aj ht ?_|refine aw ?_|refine an (fun K hK => ?_)|refine aa (h1) ?_|refine aa (h2) ?_|refine aa (h3) ?_|(refine aq hK ?_;try clear hK K))
 rfl
def SX:Nat→Int
 | 0=>0
 | k+1=>2 ^ k
theorem HL:∀ k:Nat,((2:Int) ^ k).fdiv (2 ^ min 1 64)=SX k
 | 0=>rfl
 | k+1=>by
  rw [Int.fdiv_eq_ediv_of_nonneg _ (by decide),show ((2:Int) ^ min 1 64)=2 from rfl,Int.pow_succ,Int.mul_ediv_cancel _ (by decide)];rfl
theorem TY {x y:Int}:kT x y≤0↔x≤y:=by
 unfold kT;repeat' split
 all_goals omega
theorem Ru (a:Int) (ha:Q128 a):aB Sg 261 [ag (qE a)] (fun r=>r = .b (cY (zK (fun n=>decide (n * n≤a)) 64 0))):=by
 have ht:True:=trivial;refine az Tryz.func261 [.tmp 2] ?_;repeat' (refine aC ?_)
 refine aK (X:=Int × Nat) (fun x=>aP [(1, .b (.c (.ptr 0 0))),(3, .b (cY x.1)),(4, .b (cY (SX x.2)))] [(0, .fix ((qE a).map CV.p))] 1)
  (fun x=>x.2≤64∧0≤x.1∧x.1+2 ^ x.2≤18446744073709551616∧x.1 % 2 ^ x.2=0∧zK (fun n=>decide (n * n≤a)) x.2 x.1=zK (fun n=>decide (n * n≤a)) 64 0) (fun x=>x.2) (0,64) ?_ ?_ ?_
 ·exact ⟨by decide,by decide,by decide,by decide,rfl⟩
 ·refine ar [(0,some 0)] ?_ ?_;and_intros;all_goals try exact ak
 ·rintro ⟨n,i⟩ ⟨i64,n0,n1,hm,hs⟩;dsimp only at i64 n0 n1 hm hs ⊢;cases i with
  | zero =>
   have g0:decide (SX 0>0)=false:=rfl;repeat' (first|refine aj g0 ?_|refine aC ?_)
   rw [← hs];rfl
  | succ k =>
   have hp:(2:Int) ^ (k+1)=2 ^ k+2 ^ k:=by rw [Int.pow_succ];omega
   have hpos:(0:Int)<2 ^ k:=Int.pow_pos (by decide);rw [hp] at n1;have hor:=MO (n:=n) (k:=k) n0 (by omega) hm (by omega);have h1:=mK (n+2 ^ k) (n+2 ^ k) ⟨by omega,by omega⟩ ⟨by omega,by omega⟩;have h2:=Ev ((n+2 ^ k) * (n+2 ^ k)) a;have hm1:n % 2 ^ k=0:=by rw [← Int.emod_emod_of_dvd n (show (2:Int) ^ k ∣ 2 ^ (k+1) from ⟨2,by rw [Int.pow_succ]⟩),hm,Int.zero_emod]
   have hm2:(n+2 ^ k) % 2 ^ k=0:=by rw [Int.add_emod_right,hm1]
   have g0:decide (SX (k+1)>0)=true:=decide_eq_true hpos;have hb:SX (k+1)=2 ^ k:=rfl;rw [hb] at g0 ⊢;rw [← hor] at h1 h2;rw [show zK (fun n=>decide (n * n≤a)) (k+1) n=zK (fun n=>decide (n * n≤a)) k (if decide ((n+2 ^ k) * (n+2 ^ k)≤a)=true then n+2 ^ k else n) from rfl] at hs;by_cases hg:(n+2 ^ k) * (n+2 ^ k)≤a
   ·have g1:decide (kT (QT .u64 n (2 ^ k) * QT .u64 n (2 ^ k)) a≤0)=true:=by rw [hor];exact decide_eq_true (TY.2 hg)
    rw [decide_eq_true hg,if_pos rfl] at hs;repeat' (first|refine aj (And.intro g0 g1) ?_|refine aw ?_|refine an (fun K hK => ?_)|refine aa (h1) ?_|refine aa (h2) ?_|(refine aq hK ?_;try clear hK K))
    refine ao (n+2 ^ k,k) ?_ ⟨by dsimp only;omega,by dsimp only;omega,by dsimp only;omega,hm2,hs⟩ (by dsimp only;omega);refine ar [(0,some 0)] ?_ ?_;and_intros;all_goals try exact ak
    ·exact .inl (by rw [hor])
    ·exact .inl (by rw [HL])
   ·have g1:decide (kT (QT .u64 n (2 ^ k) * QT .u64 n (2 ^ k)) a≤0)=false:=by rw [hor];exact decide_eq_false (fun q=>hg (TY.1 q))
    rw [decide_eq_false hg,if_neg (by decide)] at hs;repeat' (first|refine aj (And.intro g0 g1) ?_|refine aw ?_|refine an (fun K hK => ?_)|refine aa (h1) ?_|refine aa (h2) ?_|(refine aq hK ?_;try clear hK K))
    refine ao (n,k) ?_ ⟨by dsimp only;omega,by dsimp only;omega,by dsimp only;omega,hm1,hs⟩ (by dsimp only;omega);refine ar [(0,some 0)] ?_ ?_;and_intros;all_goals try exact ak
    exact .inl (by rw [HL])
end
def XC (f a m:Int):Int:=if f=1 then m else if f=2 then a else if f=3 then m - a else 0
def a5b (h f g m:Int):Int:=if h=1 then f else if h=2 then g else if h=3 then cn (m * f+(m - f) * g) m else if h=4 then cn (f * g) m else 0
theorem LX {op:Int} (h:1≤op∧op≤12):∃ nm fa fb sh,rL op=[.val (.string nm),PI fa,PI fb,PI sh]∧(∀ a b m,XC fa b m=iD op a b m∧XC fb a m=jy op a b m)∧∀ f g m,a5b sh f g m=eC op f g m:=by
 have hv:op=1∨op=2∨op=3∨op=4∨op=5∨op=6∨op=7∨op=8∨op=9∨op=10∨op=11∨op=12:=by omega
 rcases hv with rfl|rfl|rfl|rfl|rfl|rfl|rfl|rfl|rfl|rfl|rfl|rfl <;> exact ⟨_,_,_,_,rfl,fun a b m=>⟨rfl,rfl⟩,fun f g m=>rfl⟩
theorem CT (f a m:Int) (ha:0≤a) (ham:a≤m) (hm:m≤65535):aB Sg 253 [I f,U a,U m] (fun r=>r = .b (U (XC f a m))):=by
 unfold XC;refine az Tryz.func253 [.tmp 6] ?_;by_cases c1:f=1
 ·have g1:(f == 1)=true:=beq_iff_eq.2 c1;rw [if_pos c1];repeat' (first|with_reducible exact cz|refine aj g1 ?_|refine aC ?_)
 have g1:(f == 1)=false:=beq_eq_false_iff_ne.2 c1;rw [if_neg c1];by_cases c2:f=2
 ·have g2:(f == 2)=true:=beq_iff_eq.2 c2;rw [if_pos c2];repeat' (first|with_reducible exact cz|refine aj (And.intro g1 g2) ?_|refine aC ?_)
 have g2:(f == 2)=false:=beq_eq_false_iff_ne.2 c2;rw [if_neg c2];by_cases c3:f=3
 ·have g3:(f == 3)=true:=beq_iff_eq.2 c3;rw [if_pos c3];repeat' (first|with_reducible exact cz|refine aj (And.intro g1 (And.intro g2 g3)) ?_|refine aC ?_)
 have g3:(f == 3)=false:=beq_eq_false_iff_ne.2 c3;rw [if_neg c3];repeat' (first|with_reducible exact cz|refine aj (And.intro g1 (And.intro g2 g3)) ?_|refine aC ?_)
theorem yF (op a b m:Int) (hm:Full m) (ho:1≤op∧op≤12) (ha:0≤a) (ham:a≤m) (hb:0≤b) (hbm:b≤m):aB Sg 234 [I op,U a,U b,U m] (fun r=>r = .tup [U (iD op a b m),U (jy op a b m),B true]):=by
 have hle:=hm.le;have d1:decide (a>m)=false:=decide_eq_false (by omega);have d2:decide (b>m)=false:=decide_eq_false (by omega);have hf:=pJ op;rw [decide_eq_true ho] at hf;obtain ⟨nm,fa,fb,sh,e,hab,_⟩:=LX ho;rw [e] at hf;have h1:=CT fa b m hb hbm hle;have h2:=CT fb a m ha ham hle;rw [(hab a b m).1] at h1;rw [(hab a b m).2] at h2;refine az Tryz.func234 [.tmp 8, .tmp 9, .tmp 10] ?_;repeat' (first|with_reducible exact cz|refine aj (And.intro d1 d2) ?_|refine aw ?_|refine an (fun K hK => ?_)|refine aa (hf) ?_|refine aa (h1) ?_|refine aa (h2) ?_|(refine aq hK ?_;try clear hK K))
theorem Fb (x p y q m:Int) (hx:0≤x∧x≤65535) (hp:0≤p∧p≤65535) (hy:0≤y∧y≤65535) (hq:0≤q∧q≤65535) (hm:0<m∧m≤65535) (hr:cn (x * p+y * q) m≤65535):aB Sg 235 [U x,U p,U y,U q,U m] (fun r=>r = .b (U (cn (x * p+y * q) m))):=by
 have e1:0≤x * p∧x * p≤65535 * 65535:=⟨au hx.1 hp.1,aD hx.2 hp.2 hp.1 (by decide)⟩
 have e2:0≤y * q∧y * q≤65535 * 65535:=⟨au hy.1 hq.1,aD hy.2 hq.2 hq.1 (by decide)⟩
 have hn:=fj (n:=x * p+y * q) hm.1 (by omega);have hw:IntKind.u16.wrap (cn (x * p+y * q) m)=cn (x * p+y * q) m:=iX hn hr;refine az Tryz.func235 [.tmp 10] ?_;repeat' (first|with_reducible exact cz|refine an (fun K hK => ?_)|refine aa (zZ (x * p+y * q) m ⟨by omega,by omega⟩ ⟨by omega,by omega⟩) ?_|refine aw ?_|(refine aq hK ?_;try clear hK K))
theorem CU (op a b m:Int) (hm:Full m) (ho:1≤op∧op≤12) (ha:0≤a) (ham:a≤m) (hb:0≤b) (hbm:b≤m):aB Sg 219 [I op,U a,U b,U m] (fun r=>r = .b (U (cK op a b m))):=by
 have hle:=hm.le;have hp:=hm.pos;have hf:=yF op a b m hm ho ha ham hb hbm;have hl:=rQ (op:=op) hm ha ham hb hbm;have ⟨a1,a2⟩:=mI (op:=op) ha ham hb hbm;have ⟨b1,b2⟩:=oJ (op:=op) ha ham hb hbm;have hs:=Fb (iD op a b m) a (jy op a b m) b m ⟨a1,by omega⟩ ⟨ha,by omega⟩ ⟨b1,by omega⟩ ⟨hb,by omega⟩ ⟨hp,hle⟩ (by unfold cK at hl;omega);unfold cK at *
 generalize iD op a b m=fa at *
 generalize jy op a b m=fb at *
 refine az Tryz.func219 [.tmp 8] ?_;repeat' (first|with_reducible exact cz|refine an (fun K hK => ?_)|refine aa (hf) ?_|refine aa (hs) ?_|refine aw ?_|(refine aq hK ?_;try clear hK K))
theorem CQ (op f g m:Int) (hm:Full m) (ho:1≤op∧op≤12) (hf:0≤f) (hfm:f≤m) (hg:0≤g) (hgm:g≤m):aB Sg 220 [I op,U f,U g,U m] (fun r=>r = .b (U (eC op f g m))):=by
 have hle:=hm.le;have hp:=hm.pos;have d1:decide (f>m)=false:=decide_eq_false (by omega);have d2:decide (g>m)=false:=decide_eq_false (by omega);have d3:(m == 0)=false:=beq_eq_false_iff_ne.2 (by omega);have hfi:=pJ op;rw [decide_eq_true ho] at hfi;obtain ⟨nm,fa,fb,sh,e,_,hsh⟩:=LX ho;rw [e] at hfi;have hs:=sv (op:=op) hm hf hfm hg hgm;rw [← hsh f g m] at hs ⊢;unfold a5b at *
 refine az Tryz.func220 [.tmp 8] ?_;by_cases c1:sh=1
 ·have g1:(sh == 1)=true:=beq_iff_eq.2 c1;rw [if_pos c1];repeat' (first|with_reducible exact cz|refine aj (And.intro d1 (And.intro d2 (And.intro d3 g1))) ?_|refine aw ?_|refine an (fun K hK => ?_)|refine aa (hfi) ?_|(refine aq hK ?_;try clear hK K))
 have g1:(sh == 1)=false:=beq_eq_false_iff_ne.2 c1;rw [if_neg c1] at hs ⊢;by_cases c2:sh=2
 ·have g2:(sh == 2)=true:=beq_iff_eq.2 c2;rw [if_pos c2];repeat' (first|with_reducible exact cz|refine aj (And.intro d1 (And.intro d2 (And.intro d3 (And.intro g1 g2)))) ?_|refine aw ?_|refine an (fun K hK => ?_)|refine aa (hfi) ?_|(refine aq hK ?_;try clear hK K))
 have g2:(sh == 2)=false:=beq_eq_false_iff_ne.2 c2;rw [if_neg c2] at hs ⊢;by_cases c3:sh=3
 ·have g3:(sh == 3)=true:=beq_iff_eq.2 c3;rw [if_pos c3] at hs ⊢;have h1:=Fb m f (m - f) g m ⟨by omega,hle⟩ ⟨hf,by omega⟩ ⟨by omega,by omega⟩ ⟨hg,by omega⟩ ⟨hp,hle⟩ (by omega);repeat' (first|with_reducible exact cz|refine aj (And.intro d1 (And.intro d2 (And.intro d3 (And.intro g1 (And.intro g2 g3))))) ?_|refine aw ?_|refine an (fun K hK => ?_)|refine aa (hfi) ?_|refine aa (h1) ?_|(refine aq hK ?_;try clear hK K))
 have g3:(sh == 3)=false:=beq_eq_false_iff_ne.2 c3;rw [if_neg c3] at hs ⊢;by_cases c4:sh=4
 ·have g4:(sh == 4)=true:=beq_iff_eq.2 c4;rw [if_pos c4] at hs ⊢;have h1:=Fb f g 0 0 m ⟨hf,by omega⟩ ⟨hg,by omega⟩ ⟨by decide,by decide⟩ ⟨by decide,by decide⟩ ⟨hp,hle⟩ (by rw [Int.mul_zero,Int.add_zero];omega);rw [Int.mul_zero,Int.add_zero] at h1;repeat' (first|with_reducible exact cz|refine aj (And.intro d1 (And.intro d2 (And.intro d3 (And.intro g1 (And.intro g2 (And.intro g3 g4)))))) ?_|refine aw ?_|refine an (fun K hK => ?_)|refine aa (hfi) ?_|refine aa (h1) ?_|(refine aq hK ?_;try clear hK K))
 have g4:(sh == 4)=false:=beq_eq_false_iff_ne.2 c4;rw [if_neg c4];repeat' (first|with_reducible exact cz|refine aj (And.intro d1 (And.intro d2 (And.intro d3 (And.intro g1 (And.intro g2 (And.intro g3 g4)))))) ?_|refine aw ?_|refine an (fun K hK => ?_)|refine aa (hfi) ?_|(refine aq hK ?_;try clear hK K))
end Go.Proofs.YtdjmpacladhijaaGreatDoor
namespace Go.SL
section
open Go
section
variable {P:Program} {n l:Nat} {Q:Exit→Act→World→Prop}
theorem Zu {row:String} {args:Array Value} {w:World} {R:Value→World→Prop} (h:Rows P row args w R):RowsIn (Fence.wide.inRound l) n P row args w R :=
 fun c cs _=>let ⟨v,w',r,s⟩:=h c cs; ⟨v,w',r,stepsIn_wide.2 s⟩
theorem Yk {o:Oper} {a:Act} {w:World} {next:Act→World→Prop} (hd:∀ c,o.op ≠ .defer c) (h:o.wp P a w next Q):o.wpIn (Fence.wide.inRound l) n P a w next Q:=by
 refine ⟨fun _ _=>trivial, ?_⟩;rw [Fence.inRound_round,Oper.semAt_some l _ _ hd];unfold Oper.wp at h;generalize (execOp a.eval o).run P w=r at *
 cases r with
 | ok x w' =>
  cases x with
  | value v=>exact h
  | skip=>exact h
  | defer d=>exact h
  | enter f args=>exact ⟨fun q=>(by cases q),CallsIn.inRound l (callsIn_wide.2 h)⟩
  | row r args=>exact ⟨fun q=>(by cases q),Zu h⟩
  | _=>exact h.elim
 | halt x w' =>
  cases x with
  | panic v=>exact h
  | _=>exact h.elim
def Gy (ops:List Oper):Bool:=ops.all fun o=>match o.op with
 | .defer _=>false
 | _=>true
theorem JY {ops:Array Oper} (h:Gy ops.toList=true) {i:Nat} {o:Oper} (ho:ops[i]?=some o) (c:Call):o.op ≠ .defer c:=fun e=>by
 have hm:o ∈ ops.toList:=by
  have:=Array.mem_of_getElem? ho;simpa using this
 have:=List.all_eq_true.1 h o hm;grind
theorem MJ {ops:Array Oper} (hd:Gy ops.toList=true) (hL:¬ LetsOut Q) {i:Nat} {K K':Act→World→Prop} {a:Act} {w:World} (hK:∀ a w,K a w→K' a w) (h:wpOp P ops Q i K a w):wpOpIn (Fence.wide.inRound l) n P ops Q i K' a w:=by
 unfold wpOp at h;unfold wpOpIn;cases ho:ops[i]? with
 | none=>grind
 | some o =>
  rw [ho] at h;dsimp only at h ⊢;split
  ·grind [Oper.wp,Yk,JY,Oper.wp_mono]
  ·rename_i hw;rw [if_neg hw] at h;exact ⟨fun _ _=>trivial,hK _ _ h⟩
theorem GK {ops:Array Oper} (hd:Gy ops.toList=true) (hL:¬ LetsOut Q):∀ (L:List Nat) (a:Act) (w:World),wpOps P ops Q L a w→wpOpsIn (Fence.wide.inRound l) n P ops Q L a w
 | [],_,_,h=>h
 | i :: r,a,w,h=>by
  rw [wpOps_cons] at h;rw [wpOpsIn_cons];exact MJ hd hL (GK hd hL r) h
theorem Gx {ops:Array Oper} (hd:Gy ops.toList=true) (hL:¬ LetsOut Q):∀ (fuel:Nat) (listed:Array Bool) (a:Act) (w:World),wpAny P .any ops Q fuel listed a w→wpAnyIn (Fence.wide.inRound l) n P .any ops Q fuel listed a w
 | 0,_,_,_,h=>h
 | fuel+1,listed,a,w,h=>⟨h.1,fun i hi=>MJ hd hL (Gx hd hL fuel _) (h.2 i hi)⟩
end
def mA:Code→Bool
 | .region _ ops _=>Gy ops.toList
 | .seq x y=>mA x && mA y
 | .cond _ x y=>mA x && mA y
 | .block _ c=>mA c
 | .loop c=>mA c
 | _=>true
section
variable {S:Env} {E:Ent}
theorem MA {Q:AExit→St→Prop}:¬ LetsOut (JQ S E Q):=fun ⟨_,_,h⟩=>h
theorem jh (hm:S.P.follows .mixedOrders=true) (l n:Nat):∀ (c:Code) {Q:AExit→St→Prop} {st:St} {ρ:iN} {a:Act} {w:World},cX E.N c=true→mA c=true→cw S c Q st→Gam S E st ρ a w→c.wpIn (Fence.wide.inRound l) n S.P (JQ S E Q) a w
 | .skip,Q,st,ρ,a,w,_,_,h,g=>wpIn_skip ⟨st,ρ,g,h⟩
 | .label _,Q,st,ρ,a,w,_,_,h,g=>wpIn_label ⟨st,ρ,g,h⟩
 | .exit id,Q,st,ρ,a,w,_,_,h,g=>wpIn_exit ⟨st,ρ,g,h⟩
 | .ret,Q,st,ρ,a,w,_,_,h,g=>wpIn_ret ⟨st,ρ,g,h⟩
 | .region id ops draw,Q,st,ρ,a,w,hN,hd,h,g=>by
  simp only [cw] at h;simp only [cX] at hN;simp only [mA] at hd;cases draw with
  | true =>
   rw [if_pos rfl] at h;exact wpIn_region_any hm (Gx hd MA _ _ _ _ (qX hN (fun _ _ h=>h) _ _ h g.drew))
  | false =>
   rw [if_neg (by simp)] at h;refine wpIn_region (GK hd MA _ _ _ ?_);have:=tT (Q:=JQ S E Q) hN (fun _ _ h=>h) ops.toList 0 (fun j=>by simp) h g;rw [List.range_eq_range'];omega
 | .seq x y,Q,st,ρ,a,w,hN,hd,h,g=>by
  simp only [cX,Bool.and_eq_true] at hN;simp only [mA,Bool.and_eq_true] at hd;refine wpIn_seq (wpIn_mono (jh hm l n x hN.1 hd.1 h g) fun e a w hq => ?_);cases e with
  | normal =>
   obtain ⟨st',ρ',g',hk⟩:=hq;rcases hk with hk|hk
   ·obtain ⟨st2,ρ2,g2,hk2⟩:=Wk.nxt hk g';exact jh hm l n y hN.2 hd.2 hk2 g2
   ·exact jh hm l n y hN.2 hd.2 hk g'
  | _=>exact hq
 | .cond c x y,Q,st,ρ,a,w,hN,hd,h,g=>by
  simp only [cX,Bool.and_eq_true] at hN;simp only [mA,Bool.and_eq_true] at hd;simp only [cw] at h;split at h
  ·rename_i t ht;have hdd:=(g.ev c).1;rw [ht] at hdd;have hc:a.eval c = .bool t:=hdd;cases t with
   | true=>exact wpIn_cond_true hc (jh hm l n x hN.1 hd.1 (h.1 rfl) g)
   | false=>exact wpIn_cond_false hc (jh hm l n y hN.2 hd.2 (h.2 rfl) g)
  grind
 | .block id c,Q,st,ρ,a,w,hN,hd,h,g=>by
  refine wpIn_block (wpIn_mono (jh hm l n c hN hd h g) fun e a w hq => ?_);cases e with
  | exit id' =>
   obtain ⟨st',ρ',g',hk⟩:=hq;simp only [oQ] at hk;simp only [Exit.inBlock];split
   ·rename_i he;rw [if_pos he] at hk;exact ⟨st',ρ',g',hk⟩
   ·rename_i he;rw [if_neg he] at hk;exact ⟨st',ρ',g',hk⟩
  | _=>exact hq
 | .loop c,Q,st,ρ,a,w,hN,hd,h,g=>by
  obtain ⟨I,n0,h0,hr⟩:=h;have key:∀ k m st ρ a w,m<k→I m st→Gam S E st ρ a w→Code.roundsIn (Fence.wide.inRound l) n S.P c (JQ S E Q) k a w:=by
   intro k
   induction k with
   | zero=>omega
   | succ k ih =>
    intro m st ρ a w hlt hI g;rw [roundsIn_succ];refine wpIn_mono (jh hm l n c hN hd (hr m st hI) g) fun e a w hq => ?_;cases e with
    | normal =>
     obtain ⟨st',ρ',g',hk⟩:=hq;obtain ⟨st2,ρ2,g2,n',hlt',hk1⟩:=Wk.nxt hk g';exact ih n' st2 ρ2 a w (by omega) hk1 g2
    | _=>exact hq
  obtain ⟨st2,ρ2,g2,h2⟩:=Wk.nxt h0 g;exact wpIn_loop_rounds (n0+1) (key _ n0 st2 ρ2 a w (Nat.lt_succ_self _) h2 g2)
 | .rangeFunc ..,Q,st,ρ,a,w,_,_,h,g=>h.elim
 | .scope _,Q,st,ρ,a,w,_,_,h,g=>h.elim
 | .goto _,Q,st,ρ,a,w,_,_,h,g=>h.elim
 | .refuse _,Q,st,ρ,a,w,_,_,h,g=>h.elim
end
end
section
open Go Go.RowKit
structure RndOk (S:Env) (N:Nat) (w:World) (f:Nat→SV) (a:Act):Prop where
 dfr:a.defers=[]
 sz:a.tmps.size=N
 lt:∀ s,(f s).lt 0
 den:∀ s,bB dd (fun b=>b<w.heap.size) w (f s) (a.tmps.getD s undef)
section
variable {S:Env}
theorem VF {N : Nat} {w W : World} {f : Nat → SV} {a : Act} (h : RndOk S N w f a) (hgl : oP S (fun b => b < w.heap.size) w) (hB : Below w.heap.size w W) :
  Gam S { w0:=W,ok0:=fun b=>b<w.heap.size,rx:=none,N:=N } ⟨f,fun _=>none,0,fun _ => .any⟩ dd a W:=by
 have hok:∀ b,b<w.heap.size→cd { w0:=W,ok0:=fun b=>b<w.heap.size,rx:=none,N:=N } (fun _=>none) dd W b:=fun b hb=>⟨Nat.lt_of_lt_of_le hb hB.size,fun _=>hb,fun _ h=>absurd rfl h⟩
 have hk:iM (fun b=>b<w.heap.size) (cd { w0:=W,ok0:=fun b=>b<w.heap.size,rx:=none,N:=N } (fun _=>none) dd W) w W:=fun b hb=>⟨hok b hb,fun _=>World.cell?_of_block (hB.block b hb)⟩
 refine ⟨⟨h.dfr,Nat.zero_le _,fun _ _ q=>(by cases q)⟩,h.sz,⟨rfl,rfl,rfl,Nat.le_refl _,fun _ _ _=>rfl,fun _ _ _ q=>(by cases q)⟩,h.lt,fun _ _ q=>(by cases q),fun _ _ q=>(by cases q),fun _ _ _ q=>(by cases q),fun _ _ _ q=>absurd rfl q,
  fun _ _ _ q=>(by cases q),fun s=>bB.mono (nx:=0) hk (fun _ _=>rfl) (h.lt s) (h.den s),fun gg n f hg => ?_,fun s=>⟨trivial,trivial⟩⟩
 obtain ⟨h1,h2⟩:=hgl gg n f hg;refine ⟨hok gg h1,fun j hj => ?_⟩;obtain ⟨x,hx,h3,hd⟩:=h2 j hj;exact ⟨x,by rw [World.cell?_of_block (hB.block gg h1)];exact hx,h3,bq.mono hk hd⟩
def a0P:AExit→St→Prop
 | .normal,_=>True
 | _,_=>False
theorem Gm {st:St}:a0P .normal st=True:=rfl
attribute [go_sem] Gm
theorem Ho {α : Type} (hm : S.P.follows .mixedOrders = true) {g : Operand} {ps : Array Tmp} {assign body : Code} {Q : Exit → Act → World → Prop} {a : Act} {w : World} {N gf NN : Nat} {lb : Array Value} {encs : α → Array Value} (hg : a.eval g = .func (.func gf) #[] lb)
  (eg:∀ args w,(callFunc gf args).run S.P w = .ok (.enter gf args) w) (hseq:SeqStopsK Fence.wide 3 S.P gf lb encs (Below w.heap.size) (fun _=>True) (fun _=>True) NN w) (hps:∀ x,(encs x).size=ps.size)
  (a1:α→Act) (f:α→Nat→SV)
  (hassign:∀ (l:Nat) (x:α) (W:World) (K:Act→World→Prop),K (a1 x) W→assign.wpIn (Fence.wide.inRound l) 2 S.P (Exit.then K (fun _ _ _=>False)) { tmps:=(ps.zip (encs x)).foldl (fun t (p,v)=>t.setIfInBounds p v) a.tmps,defers:=[] } W)
  (hr:∀ x,RndOk S N w (f x) (a1 x)) (hgl:oP S (fun b=>b<w.heap.size) w) (hN:cX N body=true) (hnd:mA body=true)
  (hcw:∀ x,cw S body a0P ⟨f x,fun _=>none,0,fun _ => .any⟩)
  (hdone:∀ (D:Nat) (W:World),w.heap.size≤D→Below w.heap.size w W→W.heap[D]?=some (.deferred (some []))→Q .normal { a with defers := { target := .collected D,args := #[] } :: a.defers } W) :
  (Code.rangeFunc g ps assign body).wp S.P Q a w:=by
 refine (wpIn_wide (n:=4)).1 ?_;refine wpIn_rangeFunc_ownG (F:=Fence.wide) (n:=4) (w0:=w) rfl (by omega) hg trivial eg hseq belowK_t (belowK_b (Nat.le_refl _)) (Below.refl _ _) hps
  (fun _ W=>Below w.heap.size w W) (fun _ _ _=>False) (fun s A B row hs hg hr=>hs.grown hg (by have:=hs.size;omega) (fun k e=>(hr k e).1)) (fun _ _ _ _ _ hs _ _=>hs) (Below.refl _ _) a1 hassign ?_ ?_ ?_
 ·intro l pre x W hI _;refine wpIn_mono (jh (S:=S) hm l 2 body hN hnd (hcw x) (VF (hr x) hgl hI)) fun e a3 W3 hq => ?_;cases e with
  | normal =>
   obtain ⟨st',ρ',g',_⟩:=hq;have hb:∀ k,k<W.heap.size→W3.heap[k]?=W.heap[k]?:=fun k hk=>g'.frm.block k hk fun _ _ q=>by cases q
   have hB:Below w.heap.size W W3:=⟨g'.frm.os,g'.frm.tape,g'.frm.output,g'.frm.size,fun k hk=>hb k (Nat.lt_of_lt_of_le hk hI.size)⟩
   exact ⟨⟨g'.frm.size,fun k o _ hk _=>by grind⟩,hB,hI.trans hB⟩
  | exit id=>obtain ⟨_,_,_,h⟩:=hq;exact h.elim
  | ret=>obtain ⟨_,_,_,h⟩:=hq;exact h.elim
  | _=>exact hq.elim
 ·grind
 grind
def a0H (s0:St):AExit→St→Prop
 | .normal,st=>Wk (fun s=>s=s0) st
 | _,_=>False
theorem FL {s0 st:St}:a0H s0 .normal st=Wk (fun s=>s=s0) st:=rfl
attribute [go_sem] FL
theorem ou {E : Ent} {st : St} {ρ : iN} {a : Act} {w : World} {x y : Code} {Q : Exit → Act → World → Prop} (hm : S.P.follows .mixedOrders = true) (s0 : St) (hx : cw S x (a0H s0) st) (hN : cX E.N x = true) (g : Gam S E st ρ a w)
  (hy:∀ ρ' a' w',Gam S E s0 ρ' a' w'→y.wp S.P Q a' w'):(Code.seq x y).wp S.P Q a w:=by
 refine wp_seq (wp_mono (fB hm x hN hx g) fun e a' w' hq => ?_);cases e with
 | normal =>
  obtain ⟨st',ρ',g',hk⟩:=hq;obtain ⟨s1,ρ1,g1,rfl⟩:=Wk.nxt hk g';exact hy ρ1 a' w' g1
 | exit id=>obtain ⟨_,_,_,h⟩:=hq;exact h.elim
 | ret=>obtain ⟨_,_,_,h⟩:=hq;exact h.elim
 | _=>exact hq.elim
theorem Di {N : Nat} {args : List BV} {ok : Nat → Prop} {w : World} {vs : Array Value} (hok : ∀ b, ok b → b < w.heap.size) (hgl : oP S ok w) (hsz : vs.size = args.length) (hden : ∀ j, di dd ok w (args.getD j .any) (vs.getD j undef)) (hlen : args.length ≤ N) (hl : ∀ x ∈ args, BV.lt 0 x) :
  Gam S { w0:=w,ok0:=ok,rx:=none,N:=N } (zy args) dd { tmps:=vs ++ Array.replicate (N - vs.size) undef,defers:=[] } w:=by
 let E:Ent := { w0:=w,ok0:=ok,rx:=none,N:=N }
 have hokA:∀ b,ok b→cd E (fun _=>none) dd w b:=fun b hb=>⟨hok b hb,fun _=>hb,fun _ h=>absurd rfl h⟩
 have hk:iM ok (cd E (fun _=>none) dd w) w w:=fun b hb=>⟨hokA b hb,fun _=>rfl⟩
 refine ⟨⟨rfl,Nat.zero_le _,fun _ _ q=>(by cases q)⟩,by simp;omega,⟨rfl,rfl,rfl,Nat.le_refl _,fun _ _ _=>rfl,fun _ _ _ h=>(by cases h)⟩,fun s => ?_,fun _ _ h=>(by cases h),fun _ _ h=>(by cases h),fun _ _ _ h=>(by cases h),fun _ _ _ h=>absurd rfl h,
  fun _ _ _ h=>(by cases h),fun s => ?_,fun gg n f hg => ?_,fun s=>⟨trivial,trivial⟩⟩
 ·simp only [zy,cN];split
  ·rename_i hs;refine hl _ ?_;grind
  ·trivial
 ·simp only [zy,cN];split
  ·rename_i hs;have e:(vs ++ Array.replicate (N - vs.size) undef).getD s undef=vs.getD s undef:=by
    have:s<vs.size:=by omega
    simp [this];rw [Array.getElem?_append_left this];simp [this]
   rw [e];exact di.mono (nx:=0) hk (fun _ _=>rfl) (hl _ (by grind)) (hden (s - 0))
  ·trivial
 ·obtain ⟨h1,h2⟩:=hgl gg n f hg;refine ⟨hokA gg h1,fun j hj => ?_⟩;obtain ⟨x,hx,h3,hd⟩:=h2 j hj;exact ⟨x,hx,h3,bq.mono hk hd⟩
theorem Qr {E:Ent} {st:St} {ρ:iN} {a:Act} {w:World} (g:Gam S E st ρ a w) {s:Nat} {x y:BV} (h:st.fr s = .b x) (hy:gq st.bx x=y) (hl:BV.lt 0 y):bB dd (fun b=>b<w.heap.size) w (.b y) (a.tmps.getD s undef):=by
 have hd:=g.slt s;rw [h] at hd;have:=pW g hd;rw [hy] at this;exact gO hl this
theorem a5G {E:Ent} {st:St} {ρ:iN} {a:Act} {w:World} (g:Gam S E st ρ a w):oP S (fun b=>b<w.heap.size) w:=fun k n f hg=>by
 obtain ⟨h1,h2⟩:=g.glb k n f hg;refine ⟨h1.1,fun j hj => ?_⟩;obtain ⟨x,hx,hx1,hdx⟩:=h2 j hj;exact ⟨x,hx,hx1,bq.mono (fun b hb=>⟨hb.1,fun _=>rfl⟩) hdx⟩
end
end
end Go.SL
namespace Go.Proofs.YtdjmpacladhijaaGreatDoor
open Go Go.RowKit Go.Shelf
attribute [local go_sem] Oper.semAt_some
def Dv (W:Nat):Value→Nat
 | .int _ k=>W - k.toNat
 | _=>0
theorem CZ (W k:Nat):Dv W (.int .i64 k)=W - k:=by simp [Dv]
def vC (W:Nat) {P:Nat × Nat→Prop} (l:List {p:Nat × Nat // P p}):Prop:=∀ i,(h:i<l.length)→l[i].1=(i % W,i / W)
theorem ND {W:Nat} {P:Nat × Nat→Prop}:vC W ([]:List {p:Nat × Nat // P p}):=fun i h=>absurd h (Nat.not_lt_zero i)
theorem JO {W j k:Nat} {P:Nat × Nat→Prop} {l:List {p:Nat × Nat // P p}} {x : {p:Nat × Nat // P p}} (h:vC W l) (hk:k<W) (hl:l.length=j * W+k) (hx:x.1=(k,j)):vC W (l ++ [x]):=fun i hi=>by
 rw [List.getElem_append];split
 ·rename_i q;exact h i q
 ·have e:i=l.length:=by rw [List.length_append,List.length_singleton] at hi;omega
  have h1:i % W=k:=by rw [e,hl,Nat.mul_comm,Nat.mul_add_mod,Nat.mod_eq_of_lt hk]
  have h2:i / W=j:=by rw [e,hl,Nat.mul_comm,Nat.mul_add_div (by omega),Nat.div_eq_of_lt hk,Nat.add_zero]
  rw [h1,h2];simpa using hx
set_option maxRecDepth 100000 in
set_option maxHeartbeats 1000000 in
theorem KD (F : Fence) (n : Nat) (h6 : F.fn 136) (hro : F.round = none) (hn : 1 ≤ n) (l Bh oh Bw ow W H : Nat) (hW : W ≤ 16777216) (hH : H ≤ 16777216) (J Jx : List {p : Nat × Nat // p.1 < W ∧ p.2 < H} → World → Prop)
  (hY:∀ pre x w,J pre w→pre.length<H * W→YieldAt F (n - 1) Tryz.prog l #[.int .i64 x.1.1, .int .i64 x.1.2] w fun e w' =>
   (e = .returned (.bool true)∧J (pre ++ [x]) w'∧w'.cell? ⟨Bw,ow,none⟩=w.cell? ⟨Bw,ow,none⟩)∨(e = .returned (.bool false)∧Jx (pre ++ [x]) w'))
  (w:World) (hch:w.cell? ⟨Bh,oh,none⟩=some (.int .i64 H)) (hcw:w.cell? ⟨Bw,ow,none⟩=some (.int .i64 W)) (h0:J [] w) :
  CallsIn F n Tryz.prog 136 #[.func (.yield l) #[] #[], .pointer (some ⟨Bh,oh,none⟩), .pointer (some ⟨Bw,ow,none⟩)] w fun e w'=>(∃ v,e = .returned v)∧((∃ ys,(ys.length=H * W∧vC W ys)∧J ys w')∨(∃ pre,True∧Jx pre w')):=by
 refine callsIn_of_wp Tryz.func136 rfl h6 ?_ hro;simp only [Tryz.ntmps136,List.size_toArray,List.length_cons,List.length_nil,Nat.reduceAdd,Nat.reduceSub,Array.replicate_succ,Array.replicate_zero,List.push_toArray,List.append_toArray,List.nil_append,List.cons_append]
 gi_wp2
 gi_loopw [7] (fun v wr=>∃ (j:Nat) (pre:List {p:Nat × Nat // p.1<W∧p.2<H}),v = .int .i64 j∧j≤H∧(pre.length=j * W∧vC W pre)∧wr.cell? ⟨Bw,ow,none⟩=some (.int .i64 W)∧J pre wr)
  (fun v wr=>Dv H v)
 case atStart =>
  exact ⟨0,[],rfl,Nat.zero_le _,⟨by simp,ND⟩,hcw,h0⟩
 case round =>
  obtain ⟨j,pre,rfl,hj,⟨hp,hO⟩,hc,hJ⟩:=hrel
  gi_wp2
  ·rename_i hjH K hK;rw [decide_eq_true hjH]
   gi_loopw [11] (fun v wr=>∃ (k:Nat) (pre:List {p:Nat × Nat // p.1<W∧p.2<H}),v = .int .i64 k∧k≤W∧(pre.length=j * W+k∧vC W pre)∧wr.cell? ⟨Bw,ow,none⟩=some (.int .i64 W)∧J pre wr)
    (fun v wr=>Dv W v)
   case atStart =>
    exact ⟨0,pre,rfl,Nat.zero_le _,⟨by omega,hO⟩,hc,hJ⟩
   case round =>
    obtain ⟨k,pre2,rfl,hk,⟨hp2,hO2⟩,hc2,hJ2⟩:=hrel;by_cases hkW:k<W
    ·have hlen:pre2.length<H * W:=by
      have:(j+1) * W≤H * W:=Nat.mul_le_mul hjH (Nat.le_refl _);rw [Nat.succ_mul] at this;omega
     obtain ⟨fn,tmps,assign,body,hy,hR⟩:=hY pre2 ⟨(k,j),hkW,hjH⟩ wr hJ2 hlen;have hO3:vC W (pre2 ++ [⟨(k,j),hkW,hjH⟩]):=JO hO2 hkW hp2 rfl;have hL3:(pre2 ++ [⟨(k,j),hkW,hjH⟩]:List {p:Nat × Nat // p.1<W∧p.2<H}).length=j * W+(k+1):=by rw [List.length_append,List.length_singleton];omega
     dsimp only at hy
     gi_wp2
     ·refine hR.mono ?_;rintro e W3 (⟨rfl,hJ3,hk3⟩|⟨rfl,hJx3⟩)
      ·have hc3:W3.cell? ⟨Bw,ow,none⟩=some (.int .i64 W):=hk3.trans hc2
       gi_wp2
       grind [Dv,CZ]
      ·gi_wp2
       refine bodyPost_ret (results_none rfl _ _ _) rfl ?_;grind
    ·gi_wp2
     grind [Dv,CZ]
  ·go_end0
   grind
theorem xT (n : Nat) (hn : 1 ≤ n) (Bh oh Bw ow W H : Nat) (hW : W ≤ 16777216) (hH : H ≤ 16777216) (w : World) (hch : w.cell? ⟨Bh, oh, none⟩ = some (.int .i64 H)) (hcw : w.cell? ⟨Bw, ow, none⟩ = some (.int .i64 W)) :
  SeqStopsK Fence.wide n Tryz.prog 136 #[.pointer (some ⟨Bh,oh,none⟩), .pointer (some ⟨Bw,ow,none⟩)] (fun x : {p:Nat × Nat // p.1<W∧p.2<H} => #[.int .i64 x.1.1, .int .i64 x.1.2]) (fun w w'=>w'.cell? ⟨Bw,ow,none⟩=w.cell? ⟨Bw,ow,none⟩) (fun ys=>ys.length=H * W∧vC W ys) (fun _=>True) (H * W) w:=fun l J Jx w1 hB _ _ hY h0 =>
 KD Fence.wide n trivial rfl hn l Bh oh Bw ow W H hW hH J Jx hY w1 ((hB.cell (p:=⟨Bh,oh,none⟩) (World.block_lt_of_cell? w _ hch)).trans hch) ((hB.cell (p:=⟨Bw,ow,none⟩) (World.block_lt_of_cell? w _ hcw)).trans hcw) h0
theorem FT (n : Nat) (hn : 1 ≤ n) (Bh oh Bw ow n₀ W H : Nat) (hW : W ≤ 16777216) (hH : H ≤ 16777216) (w : World) (hn₀ : n₀ ≤ w.heap.size) (hBh : Bh < n₀) (hBw : Bw < n₀) (hch : w.cell? ⟨Bh, oh, none⟩ = some (.int .i64 H)) (hcw : w.cell? ⟨Bw, ow, none⟩ = some (.int .i64 W)) :
  SeqStopsK Fence.wide n Tryz.prog 136 #[.pointer (some ⟨Bh,oh,none⟩), .pointer (some ⟨Bw,ow,none⟩)] (fun x : {p:Nat × Nat // p.1<W∧p.2<H} => #[.int .i64 x.1.1, .int .i64 x.1.2]) (Below n₀) (fun _=>True) (fun _=>True) (H * W) w:=fun l J Jx w1 hB hJ hJx hY h0 =>
 (xT n hn Bh oh Bw ow W H hW hH w hch hcw l J Jx w1 hB hJ hJx (fun pre x w2 h1 h2=>by
  obtain ⟨fn,tmps,assign,body,hy,hR⟩:=hY pre x w2 h1 h2;refine ⟨fn,tmps,assign,body,hy,hR.mono ?_⟩;rintro e W3 (⟨q1,q2,q3⟩|q)
  ·exact .inl ⟨q1,q2,q3.cell (p:=⟨Bw,ow,none⟩) hBw⟩
  ·exact .inr q) h0).mono fun e w' h=>⟨h.1,h.2.elim (fun ⟨ys,_,h⟩ => .inl ⟨ys,trivial,h⟩) .inr⟩
end Go.Proofs.YtdjmpacladhijaaGreatDoor
