/- Part of the proof: T5, T6, T7, T8, V1, W8, W9. -/
import Derived.Test.YtdjmpacladhijaaGreatDoorM11
import Derived.Test.YtdjmpacladhijaaGreatDoorM15
set_option linter.unusedSimpArgs false
set_option linter.unusedVariables false
set_option maxHeartbeats 2000000
set_option maxRecDepth 16000
namespace Go.Proofs.YtdjmpacladhijaaGreatDoor
open Go Go.SL
open Go.RowKit (wrap64)
structure Lv where
 op:Op
 acc:Acc
 back:Pixel
 deriving DecidableEq,Inhabited
def kD:Op:=⟨2,0,0,0,0,0,0,0,0,0,true,false⟩
def base:Lv:=⟨kD,kz,bG⟩
def aL (m:Int) (o:Op) (p:Pixel) (k:Int):Pixel:=bY (bY p (if o.mask=0 then m else k) m) o.opacity m
def nz (m:Int) (o:Op) (s:Pixel) (t:Lv):Lv := { t with acc:=bQ t.op.knockout o.operator o.mode m s t.acc t.back }
def gU (o:Op) (t:Lv):Lv:=⟨o,gL (cg o.isolated t.op.knockout t.acc t.back),cg o.isolated t.op.knockout t.acc t.back⟩
def iA (m:Int) (z:Op→Pixel × Int) (st:List Lv) (o:Op):List Lv :=
 match st with
 | []=>[]
 | t :: r =>
  if o.kind=1 then nz m o (aL m o (z o).1 (z o).2) t :: r
  else if o.kind=2 then gU o t :: t :: r
  else match r with
   | []=>[t]
   | u :: r=>nz m t.op (aL m t.op (bU t.acc t.back m) (z t.op).2) u :: r
def ep (m:Int) (z:Op→Pixel × Int) (ops:List Op) (st:List Lv):List Lv:=ops.foldl (iA m z) st
theorem fI {m:Int} {z:Op→Pixel × Int} {a b:List Op} {st:List Lv}:ep m z (a ++ b) st=ep m z b (ep m z a st):=List.foldl_append
theorem iT {m:Int} {z:Op→Pixel × Int} {o:Op} {b:List Op} {st:List Lv}:ep m z (o :: b) st=ep m z b (iA m z st o):=rfl
def Ww (m:Int) (st:List Lv):Pixel:=match st with
 | []=>bG
 | t :: _=>bU t.acc t.back m
structure SmpV (m:Int) (z:Op→Pixel × Int):Prop where
 p:∀ o,PixV (z o).1 m
 k0:∀ o,0≤(z o).2
 km:∀ o,(z o).2≤m
structure LvV (m:Int) (t:Lv):Prop where
 v:AccV t.acc t.back m
 iso:t.op.isolated=true→t.back=bG∧t.acc.own=t.acc.a
theorem a4k {m:Int} (hm:Full m):LvV m base:=⟨JV hm,fun _=>⟨rfl,rfl⟩⟩
theorem pc {m:Int} {o:Op} {p:Pixel} {k:Int} (hm:Full m) (hp:PixV p m) (hk:0≤k) (hkm:k≤m) (ho:0≤o.opacity) (hom:o.opacity≤m):PixV (aL m o p k) m:=by
 refine qv hm (qv hm hp ?_ ?_) ho hom
 ·omega
 omega
theorem MI {m:Int} {o:Op} {s:Pixel} {t:Lv} (hm:Full m) (hs:PixV s m) (ht:LvV m t) (hop:o.operator=4∨t.op.isolated=true∧t.op.knockout=false):LvV m (nz m o s t):=by
 refine ⟨RO hm hs ht.v ?_,fun hi => ?_⟩
 ·rcases hop with h|⟨h1,h2⟩
  ·omega
  ·exact .inr ⟨h2,(ht.iso h1).2⟩
 ·obtain ⟨h1,h2⟩:=ht.iso hi;grind [nz,bG,TN]
theorem QL {m:Int} {o:Op} {t:Lv} (hm:Full m) (ht:LvV m t):LvV m (gU o t):=by
 obtain ⟨h1,h2⟩:=LK (i:=o.isolated) (k:=t.op.knockout) hm ht.v;refine ⟨XH h1 h2,fun hi => ?_⟩;have hi:o.isolated=true:=hi;show cg o.isolated t.op.knockout t.acc t.back=bG∧0=(cg o.isolated t.op.knockout t.acc t.back).a;grind [cg,bG,cg.eq_1]
structure OpFit (m:Int) (t:Op) (o:Op):Prop where
 op0:0≤o.opacity
 opm:o.opacity≤m
 ctx:o.operator=4∨t.isolated=true∧t.knockout=false
def JD (m:Int):List Lv→Prop
 | []=>False
 | [t]=>LvV m t∧t.op=kD
 | t :: u :: r=>LvV m t∧OpFit m u.op t.op∧JD m (u :: r)
theorem JD.head {m:Int} {t:Lv} {r:List Lv} (h:JD m (t :: r)):LvV m t:=by
 cases r with
 | nil=>exact h.1
 | cons=>exact h.1
theorem JD.repl {m:Int} {t t':Lv} {r:List Lv} (h:JD m (t :: r)) (h1:LvV m t') (h2:t'.op=t.op):JD m (t' :: r):=by
 cases r with
 | nil=>exact ⟨h1,h2.trans h.2⟩
 | cons u r=>grind [JD]
def Us (m:Int) (st:List Lv) (o:Op):Prop :=
 match st with
 | []=>False
 | t :: r=>(o.kind=1∨o.kind=2→OpFit m t.op o)∧(o.kind=3→r≠[])
theorem NJ {m:Int} {z:Op→Pixel × Int} {st:List Lv} {o:Op} (hm:Full m) (hz:SmpV m z) (hs:JD m st) (hk:o.kind=1∨o.kind=2∨o.kind=3) (hn:Us m st o):JD m (iA m z st o):=by
 cases st with
 | nil=>exact hs.elim
 | cons t r =>
  obtain ⟨n1,n2⟩:=hn;unfold iA;dsimp only;split
  ·rename_i h;have hf:=n1 (.inl h);exact hs.repl (MI hm (pc hm (hz.p o) (hz.k0 o) (hz.km o) hf.op0 hf.opm) hs.head hf.ctx) rfl
  split
  ·grind [gU,JD,QL,JD.head]
  ·rename_i h1 h2;cases r with
   | nil=>omega
   | cons u r =>
    obtain ⟨s1,s2,s3⟩:=hs;exact s3.repl (MI hm (pc hm (pK hm s1.v) (hz.k0 _) (hz.km _) s2.op0 s2.opm) s3.head s2.ctx) rfl
theorem Rv {m : Int} {z : Op → Pixel × Int} {t : Lv} {r : List Lv} {o : Op} :
  (iA m z (t :: r) o).map Lv.op=if o.kind=1 then (t :: r).map Lv.op else if o.kind=2 then o :: (t :: r).map Lv.op else if r=[] then [t.op] else r.map Lv.op:=by
 unfold iA;dsimp only;split
 ·rfl
 split
 ·rfl
 ·cases r with
  | nil=>rfl
  | cons u r=>rfl
theorem SD {f:Nat→Op} {p:Nat} {q:List Nat}:eS ((p :: q).reverse.map f)=true↔(f p).isolated=true∧(f p).knockout=false:=by grind [eS]
def jP (m:Int) (z:Op→Pixel × Int) (ops:List Op) (i:Nat):List Lv:=ep m z (ops.take i) [base]
theorem wR {ops:List Op} {i:Nat} (hi:i<ops.length):ops.take (i+1)=ops.take i ++ [ah ops i]:=by simp_all [ah]
theorem lx {m:Int} {z:Op→Pixel × Int} {ops:List Op} {i:Nat} (hi:i<ops.length):jP m z ops (i+1)=iA m z (jP m z ops i) (ah ops i):=by
 unfold jP;rw [wR hi,fI];rfl
theorem MQ {m:Int} {s:Script} {t:Lv} {r:List Lv} (V:VOps s) (hmx:aN s.bits=m) (ho:∀ o ∈ s.ops,0≤o.opacity) {i:Nat} (hi:i<s.ops.length) (h2:(t :: r).map Lv.op=(bE s.ops i).map (ah s.ops) ++ [kD]):Us m (t :: r) (ah s.ops i):=by
 have he:=cu.1 (V.ok i hi);have hop:0≤(ah s.ops i).opacity:=ho _ (by grind [ah]);refine ⟨fun q => ?_,fun q => ?_⟩
 ·obtain ⟨_,_,_,g⟩:=he;obtain ⟨_,_,g3,_,_,g6,_⟩:=g (by omega);refine ⟨hop,by omega, ?_⟩;by_cases h4:(ah s.ops i).operator=4
  ·omega
  ·have hc:=g6 h4;cases hs:bE s.ops i with
   | nil =>
    grind [kD]
   | cons p q =>
    grind [ah,SD]
 ·rintro rfl;cases hs:bE s.ops i with
  | nil=>grind
  | cons p q =>
   grind [ah,kD,bE]
def iH (ops:List Op) (i j:Nat):List Op:=(ops.take j).drop i
theorem rP {ops:List Op} {i j:Nat} (h1:i≤j) (h2:j<ops.length):iH ops i (j+1)=iH ops i j ++ [ah ops j]:=by grind [iH,wR]
theorem Qu {m : Int} {z : Op → Pixel × Int} {s : Script} (hm : Full m) (hz : SmpV m z) (V : VOps s) (hmx : aN s.bits = m) (ho : ∀ o ∈ s.ops, 0 ≤ o.opacity) {i : Nat} {st : List Lv}
  (h1:JD m st) (h2:st.map Lv.op=(bE s.ops i).map (ah s.ops) ++ [kD]):∀ d,i+d≤s.ops.length→JD m (ep m z (iH s.ops i (i+d)) st)∧(ep m z (iH s.ops i (i+d)) st).map Lv.op=(bE s.ops (i+d)).map (ah s.ops) ++ [kD]
 | 0,_=>by
  have e:iH s.ops i (i+0)=[]:=by
   unfold iH;rw [List.drop_eq_nil_of_le];rw [List.length_take];omega
  rw [e];exact ⟨h1,h2⟩
 | d+1,hi=>by
  obtain ⟨h1,h2⟩:=Qu hm hz V hmx ho h1 h2 d (by omega);rw [show i+(d+1)=(i+d)+1 by omega,rP (by omega) (by omega),fI];generalize ep m z (iH s.ops i (i+d)) st=st at *
  show JD m (iA m z st _)∧_;have hk:=V.wf.kinds (i+d) (by omega);cases st with
  | nil=>simp_all
  | cons t r =>
   have hn:=MQ V hmx ho (show i+d<s.ops.length by omega) h2;refine ⟨NJ hm hz h1 hk hn, ?_⟩;show (iA m z (t :: r) _).map Lv.op=_;rw [Rv];rcases hk with k|k|k
   ·grind [bE,ec]
   ·grind [bE,dv]
   ·rw [if_neg (by omega),if_neg (by omega),if_neg (hn.2 k),eI k];cases hs:bE s.ops (i+d) with
    | nil=>exact absurd hs (V.wf.pops (i+d) (by omega) k)
    | cons p q =>
     grind
theorem a2M {m : Int} {z : Op → Pixel × Int} {s : Script} (hm : Full m) (hz : SmpV m z) (V : VOps s) (hmx : aN s.bits = m) (ho : ∀ o ∈ s.ops, 0 ≤ o.opacity) (i : Nat) (hi : i ≤ s.ops.length) :
  JD m (jP m z s.ops i)∧(jP m z s.ops i).map Lv.op=(bE s.ops i).map (ah s.ops) ++ [kD]:=by
 have:=Qu hm hz V hmx ho (i:=0) (st:=[base]) ⟨a4k hm,rfl⟩ rfl i (by omega);rw [Nat.zero_add] at this;exact this
section
inductive Elm:List Op→Prop
 | nil:Elm []
 | draw {o:Op} {r:List Op}:o.kind=1→Elm r→Elm (o :: r)
 | grp {o p:Op} {l r:List Op}:o.kind=2→Elm l→p.kind=3→Elm r→Elm (o :: (l ++ p :: r))
def lg (m:Int) (z:Op→Pixel × Int) (l:List Op) (ko:Bool) (a:Acc) (b:Pixel):Acc:=((ep m z l [⟨{ kD with knockout:=ko },a,b⟩]).headD base).acc
section
variable {m:Int} {z:Op→Pixel × Int}
theorem lr {o:Op} {t:Lv} {r:List Lv} (h:o.kind=1):iA m z (t :: r) o=nz m o (aL m o (z o).1 (z o).2) t :: r:=if_pos h
theorem jX {o:Op} {t:Lv} {r:List Lv} (h:o.kind=2):iA m z (t :: r) o=gU o t :: t :: r:=(if_neg (by omega)).trans (if_pos h)
theorem pH {o:Op} {t u:Lv} {r:List Lv} (h:o.kind=3):iA m z (t :: u :: r) o=nz m t.op (aL m t.op (bU t.acc t.back m) (z t.op).2) u :: r:=(if_neg (by omega)).trans (if_neg (by omega))
theorem RZ {l:List Op} (h:Elm l):∃ F:Bool→Acc→Pixel→Acc,∀ t r,ep m z l (t :: r) = { t with acc:=F t.op.knockout t.acc t.back } :: r:=by
 induction h with
 | nil=>exact ⟨fun _ a _=>a,fun _ _=>rfl⟩
 | @draw o r h _ ih =>
  obtain ⟨F,hF⟩:=ih;refine ⟨fun ko a b=>F ko (bQ ko o.operator o.mode m (aL m o (z o).1 (z o).2) a b) b,fun t r => ?_⟩;rw [iT,lr h,hF];rfl
 | @grp o p l r h1 _ h3 _ ih1 ih2 =>
  obtain ⟨F,hF⟩:=ih1;obtain ⟨G,hG⟩:=ih2;refine ⟨fun ko a b=>G ko (bQ ko o.operator o.mode m (aL m o (bU (F o.knockout (gL (cg o.isolated ko a b)) (cg o.isolated ko a b)) (cg o.isolated ko a b) m) (z o).2) a b) b,fun t r => ?_⟩;rw [iT,jX h1,fI,hF,iT,pH h3,hG];rfl
theorem tx {l:List Op} (h:Elm l) (t:Lv) (r:List Lv):ep m z l (t :: r) = { t with acc:=lg m z l t.op.knockout t.acc t.back } :: r:=by
 obtain ⟨F,hF⟩:=RZ (m:=m) (z:=z) h;grind [lg]
theorem Yt {x y:List Op} (hx:Elm x) {ko:Bool} {a:Acc} {b:Pixel}:lg m z (x ++ y) ko a b=lg m z y ko (lg m z x ko a b) b:=by grind [lg,fI,tx]
theorem Ie {o:Op} (h:o.kind=1) {ko:Bool} {a:Acc} {b:Pixel}:lg m z [o] ko a b=bQ ko o.operator o.mode m (aL m o (z o).1 (z o).2) a b:=by
 unfold lg;rw [iT,lr h];rfl
def yP (m:Int) (z:Op→Pixel × Int) (l:List Op) (ko:Bool) (B:Pixel):Pixel:=bU (lg m z l ko (gL B) B) B m
theorem MW {o p : Op} {l : List Op} (h1 : o.kind = 2) (hl : Elm l) (h3 : p.kind = 3) {ko : Bool} {a : Acc} {b : Pixel} :
  lg m z (o :: (l ++ [p])) ko a b=bQ ko o.operator o.mode m (aL m o (yP m z l o.knockout (cg o.isolated ko a b)) (z o).2) a b:=by
 conv=>lhs;unfold lg
 rw [iT,jX h1,fI,tx hl,iT,pH h3];rfl
end
section
variable {ops:List Op}
theorem oB {i:Nat}:iH ops i i=[]:=by grind [iH]
theorem vJ {i j k:Nat} (h1:i≤j) (h2:j≤k):iH ops i k=iH ops i j ++ iH ops j k:=by
 unfold iH;have e:ops.take j=(ops.take k).take j:=by rw [List.take_take,Nat.min_eq_left h2]
 rw [e];generalize ops.take k=x;rcases Nat.lt_or_ge (x.take j).length i with q|q
 rotate_left
 ·conv=>lhs;rw [← List.take_append_drop j x]
  grind
 ·rw [List.drop_eq_nil_of_le (Nat.le_of_lt q)];rw [List.length_take] at q;rw [List.drop_eq_nil_of_le (show x.length≤i by omega),List.drop_eq_nil_of_le (show x.length≤j by omega)];rfl
theorem sH {i:Nat} (h:i<ops.length):iH ops i (i+1)=[ah ops i]:=by grind [iH,wR]
theorem pQ {i j:Nat} (h1:i<j) (h2:j≤ops.length):iH ops i j=ah ops i :: iH ops (i+1) j:=by rw [vJ (show i≤i+1 by omega) (by omega),sH (by omega)];rfl
theorem nS (W : Wf ops) {i : Nat} (hi : i < ops.length) (hk : (ah ops i).kind = 2) :
  (ah ops (aE ops i)).kind=3∧bE ops (aE ops i)=i :: bE ops i∧∀ k,i+1≤k→k≤aE ops i→∃ l,bE ops k=l ++ i :: bE ops i:=by
 have he:=fO W hi hk;have hel:=cB W hi;have hse:=nq W hi (by omega);have hin:∀ k,i+1≤k→k≤aE ops i→∃ l,bE ops k=l ++ i :: bE ops i:=fun k k1 k2=>by
  have:=(rE W (show k≤ops.length by omega) (by omega)).2 ⟨hk,k2⟩;obtain ⟨l,t,e⟩:=List.append_of_mem this;grind [bE,lH]
 obtain ⟨l,e⟩:=hin (aE ops i) (by omega) (Nat.le_refl _);have hk3:(ah ops (aE ops i)).kind=3:=by
  refine (W.kinds _ hel).elim (fun q => ?_) fun q=>q.elim (fun q => ?_) id
  ·have h2:=ec (ops:=ops) q;rw [hse,e] at h2;have:=congrArg List.length h2;grind
  ·have h2:=dv (ops:=ops) q;rw [hse,e] at h2;have:=congrArg List.length h2;grind
 refine ⟨hk3, ?_,hin⟩;have h2:=eI (ops:=ops) hk3;rw [hse,e] at h2;cases l with
 | nil=>exact e
 | cons x l =>
  have:=congrArg List.length h2;grind
theorem vU (W:Wf ops):∀ (d i j:Nat),j - i≤d→i≤j→j≤ops.length→bE ops i=bE ops j→(∀ k,i≤k→k≤j→(bE ops i).length≤(bE ops k).length)→Elm (iH ops i j)
 | 0,i,j,hd,hij,_,_,_=>by
  obtain rfl:j=i:=by omega
  rw [oB];exact .nil
 | d+1,i,j,hd,hij,hj,hs,hl=>by
  rcases Nat.eq_or_lt_of_le hij with rfl|hlt
  ·rw [oB];exact .nil
  have hi:i<ops.length:=by omega
  rcases W.kinds i hi with hk|hk|hk
  ·rw [pQ (by omega) hj];have h1:=ec (ops:=ops) (i:=i) hk;exact .draw hk (vU W d (i+1) j (by omega) (by omega) hj (h1.trans hs) fun k k1 k2=>by grind)
  ·have he:=fO W hi hk;have hel:=cB W hi;have hse:=nq W hi (by omega);have h1:=dv (ops:=ops) (i:=i) hk;have nin:i ∉ bE ops i:=fun q=>by have:=ej q;omega
   have hej:aE ops i<j:=by
    refine Nat.not_le.1 fun q=>nin ?_;have:=(rE W hj (by omega)).2 ⟨hk,q⟩
    rwa [← hs] at this
   obtain ⟨hk3,hes,hin⟩:=nS W hi hk;rw [pQ (by omega) hj,vJ (show i+1≤aE ops i by omega) (by omega),pQ hej hj];refine .grp hk (vU W d (i+1) _ (by omega) (by omega) (by omega) (h1.trans hes.symm) fun k k1 k2 => ?_) hk3
    (vU W d _ j (by omega) (by omega) hj (hse.trans hs) fun k k1 k2=>by grind)
   obtain ⟨l,e⟩:=hin k k1 k2;grind
  ·exfalso;have h1:=eI (ops:=ops) hk;have h2:=hl (i+1) (by omega) (by omega);rw [h1,List.length_tail] at h2;have:=W.pops i hi hk;cases hq:bE ops i with
   | nil=>grind
   | cons x y =>
    grind
theorem KN (W:Wf ops) {i:Nat} (hi:i<ops.length) (hk:(ah ops i).kind≠3):Elm (iH ops i (aE ops i+1)):=by
 have hel:=cB W hi;have heg:=jl W hi;have hse:=nq W hi hk;refine vU W _ i _ (Nat.le_refl _) (by omega) (by omega) hse.symm fun k k1 k2 => ?_;rcases W.kinds i hi with h|h|h
 ·grind [gy,bE,ec]
 ·rcases Nat.lt_or_ge k (aE ops i+1) with q|q
  ·rcases Nat.eq_or_lt_of_le k1 with rfl|q2
   ·omega
   ·have:=(rE W (show k≤ops.length by omega) q2).2 ⟨h,by omega⟩;obtain ⟨l,t,e⟩:=List.append_of_mem this;grind [bE,lH]
  grind
 omega
theorem xl (W:Wf ops) {i:Nat} (hi:i<ops.length) (hk:(ah ops i).kind=2):Elm (iH ops (i+1) (aE ops i)):=by
 have he:=fO W hi hk;have hel:=cB W hi;have h1:=dv (ops:=ops) (i:=i) hk;obtain ⟨_,hes,hin⟩:=nS W hi hk;refine vU W _ _ _ (Nat.le_refl _) (by omega) (by omega) (h1.trans hes.symm) fun k k1 k2 => ?_;obtain ⟨l,e⟩:=hin k k1 k2;grind
theorem Fa (W:Wf ops) {i:Nat} (hi:i<ops.length) (hk:(ah ops i).kind=2):iH ops i (aE ops i+1)=ah ops i :: (iH ops (i+1) (aE ops i) ++ [ah ops (aE ops i)]):=by
 have he:=fO W hi hk;grind [aE,cB,iH,pQ,vJ,sH]
end
end
section
theorem rZ {x:Ex} (h:ExOk x) (hq:x.q * x.q * x.r=0):hx x=cn x.p x.d:=by
 have hd:0<x.d:=h.d0;obtain ⟨a1,a2⟩:=mQ (n:=x.p) hd;have sq0:∀ u:Int,u * u≤0→u=0:=fun u hu=>by
  rcases Int.lt_trichotomy u 0 with q|q|q
  ·have:=Int.mul_pos_of_neg_of_neg q q;omega
  ·exact q
  ·have:=Int.mul_pos q q;omega
 have e0:2 * x.q * (2 * x.q) * x.r=0:=by
  have:2 * x.q * (2 * x.q) * x.r=4 * (x.q * x.q * x.r):=by grind
  rw [this,hq];rfl
 refine LI h ?_ ?_
 ·grind [pa]
 ·simp only [pa,decide_eq_false_iff_not,e0];grind
section
variable {op mode m cs sl cb ab:Int}
theorem pE (hm:Full m) (hs:Pre cs sl m) (hd:Pre cb ab m) (h0:sl=0∨ab=0):(aR mode cs sl cb ab).p=0∧(aR mode cs sl cb ab).q * (aR mode cs sl cb ab).q * (aR mode cs sl cb ab).r=0:=by
 have ht:=lI (mode:=mode) hm hs hd;have e:sl * ab=0:=by rcases h0 with rfl|rfl <;> simp
 have h1:=ht.le;have h2:=ht.sq;have h3:=ht.p0;rw [e,Int.zero_mul] at h1 h2;have hp:(aR mode cs sl cb ab).p=0:=by omega
 rw [hp] at h2;refine ⟨hp,Int.le_antisymm (by omega) ?_⟩;exact au (yG _) ht.r0
theorem lJ (hm : Full m) (hs : Pre cs sl m) (hd : Pre cb ab m) (hq : (aR mode cs sl cb ab).q * (aR mode cs sl cb ab).q * (aR mode cs sl cb ab).r = 0) {k : Int}
  (hv:(dR op mode m cs sl cb ab).p=k * (m * m * (aR mode cs sl cb ab).d)):dk op mode m cs sl cb ab=k:=by
 have ho:=jG (op:=op) (mode:=mode) hm hs hd;unfold dk;rw [rZ ho ?_,hv]
 ·show cn (k * (m * m * (aR mode cs sl cb ab).d)) (m * m * (aR mode cs sl cb ab).d)=k;have:0<m * m * (aR mode cs sl cb ab).d:=ho.d0;rw [Int.mul_comm,fA this]
 grind [dR,iD,aR]
theorem zw:(dR op mode m cs sl cb ab).p=(aR mode cs sl cb ab).p * iD op sl ab m+(m - ab) * cs * iD op sl ab m * (aR mode cs sl cb ab).d+jy op sl ab m * cb * m * (aR mode cs sl cb ab).d:=rfl
theorem vm (hop:fe op=true):jy op 0 ab m=m:=by grind [jy,fe]
theorem oV (hm:Full m) (hd:Pre cb ab m) (hop:fe op=true):dk op mode m 0 0 cb ab=cb:=by
 have hs:Pre 0 0 m:=⟨Int.le_refl _,Int.le_refl _,Int.le_of_lt hm.pos⟩
 obtain ⟨t1,t2⟩:=pE (mode:=mode) hm hs hd (.inl rfl);refine lJ hm hs hd t2 ?_;grind [jy,zw,vm]
theorem CE (hm:Full m) (hop:fe op=true):cK op 0 ab m=ab:=by
 unfold cK;rw [vm hop,Int.mul_zero,Int.zero_add,fA hm.pos]
theorem tH {g:Int} (hm:Full m) (hop:fe op=true):eC op 0 g m=g:=by
 simp only [fe,decide_eq_true_eq] at hop;unfold eC;rcases hop with rfl|rfl|rfl|rfl|rfl|rfl <;> simp [fA hm.pos]
theorem oW {c:Int} (hm:Full m) (hd:Pre cb ab m) (hc:0≤c) (hcm:c≤m):dB mode m 0 0 0 c cb ab=c:=by
 have hs:Pre 0 0 m:=⟨Int.le_refl _,Int.le_refl _,Int.le_of_lt hm.pos⟩
 obtain ⟨t1,t2⟩:=pE (mode:=mode) hm hs hd (.inl rfl);have ho:=nJ (mode:=mode) hm hs hd (Int.le_refl _) (Int.le_of_lt hm.pos) hc hcm;unfold dB;rw [rZ ho t2];show cn ((aR mode 0 0 cb ab).p+((m - 0) * c+(0 - 0) * cb+(m - ab) * 0) * (aR mode 0 0 cb ab).d) (m * (aR mode 0 0 cb ab).d)=c;have hd0:0<m * (aR mode 0 0 cb ab).d:=ho.d0;rw [t1,show 0+((m - 0) * c+(0 - 0) * cb+(m - ab) * 0) * (aR mode 0 0 cb ab).d=m * (aR mode 0 0 cb ab).d * c by grind,fA hd0]
theorem Bd {acc b:Int} (hm:Full m):dU m 0 0 acc b=acc:=by grind [dU,cn,fA,Full.pos]
end
section
variable {ko:Bool} {op mode m:Int} {s:Pixel} {x:Acc} {b:Pixel}
theorem AccV.pre0 (h:AccV x b m):Pre x.c0 x.a m:=⟨h.n0,h.l0,h.am⟩
theorem AccV.pre1 (h:AccV x b m):Pre x.c1 x.a m:=⟨h.n1,h.l1,h.am⟩
theorem AccV.pre2 (h:AccV x b m):Pre x.c2 x.a m:=⟨h.n2,h.l2,h.am⟩
theorem PixV.pre0 (h:PixV s m):Pre s.c0 s.a m:=⟨h.n0,h.l0,h.am⟩
theorem PixV.pre1 (h:PixV s m):Pre s.c1 s.a m:=⟨h.n1,h.l1,h.am⟩
theorem PixV.pre2 (h:PixV s m):Pre s.c2 s.a m:=⟨h.n2,h.l2,h.am⟩
theorem EB (hm:Full m) (h:AccV x b m) (hop:fe op=true) (hk:ko=true→op=4):bQ ko op mode m bG x b=x:=by
 unfold bQ;have l0:=h.l0;have l1:=h.l1;have l2:=h.l2;have am:=h.am;split
 ·rename_i hko;have h4:=hk hko;subst h4;simp only [bG,oW hm h.bk.pre0 h.n0 (by omega),oW hm h.bk.pre1 h.n1 (by omega),oW hm h.bk.pre2 h.n2 (by omega),Bd hm,tH hm hop]
 ·simp only [bG,oV hm h.pre0 hop,oV hm h.pre1 hop,oV hm h.pre2 hop,CE hm hop,tH hm hop]
end
end
section
def jo (r:Rect) (x y:Int):Prop:=r.x0≤x∧x<r.x1∧r.y0≤y∧y<r.y1
def fy (m:Image) (x y:Int):Pixel:=if m.solid=true then m.color else ⟨m.p0.s.getD (y * m.p0.stride+x).toNat 0,m.p1.s.getD (y * m.p1.stride+x).toNat 0,m.p2.s.getD (y * m.p2.stride+x).toNat 0,m.p3.s.getD (y * m.p3.stride+x).toNat 0,m.p4.s.getD (y * m.p4.stride+x).toNat 0⟩
def fq (p:Plane):Bool:=dD p.w p.h && decide (p.w≤p.stride) && decide (p.stride≤16777216) && decide ((p.h - 1) * p.stride+p.w≤p.s.length)
def aW (m:Image) (p:Plane):Bool:=if m.solid=true then decide (p.w=0) && decide (p.h=0) && decide (p.stride=0) && decide (p.s.length=0) else fq p && decide (p.w=m.w) && decide (p.h=m.h)
def aV (m:Image):Bool:=dD m.w m.h && (aW m m.p0 && aW m m.p1 && aW m m.p2 && aW m m.p3 && aW m m.p4 && (m.solid || decide (m.color=bG)))
def dN (m:Image) (x y:Int):Pixel:=if aV m=false∨x<0∨m.w≤x∨y<0∨m.h≤y then bG else fy m x y
def gm (m:Image) (x y dx dy:Int):Pixel:=if x<dx∨y<dy∨1099511627776≤x - dx∨1099511627776≤y - dy then bG else dN m (x - dx) (y - dy)
def bg (s:Script) (x y:Int) (o:Op):Pixel × Int :=
 (if o.kind=1∧0≤o.image∧o.image<s.images.length then gm (cH s o.image) x y o.x o.y else bG,
  if 1≤o.mask∧o.mask≤s.images.length then (gm (cH s (o.mask - 1)) x y o.maskX o.maskY).a else 0)
structure ImgV (m:Image) (mx:Int):Prop where
 f:aV m=true
 p:∀ x y,0≤x→x<m.w→0≤y→y<m.h→PixV (fy m x y) mx
def sj (s:Script):Prop:=∀ i:Int,0≤i→i<s.images.length→ImgV (cH s i) (aN s.bits)
theorem Mg {m:Image} {mx x y:Int} (hm:Full mx) (h:ImgV m mx):PixV (dN m x y) mx:=by
 unfold dN;split
 ·exact uE hm
 ·exact h.p x y (by omega) (by omega) (by omega) (by omega)
theorem Nk {m:Image} {mx x y dx dy:Int} (hm:Full mx) (h:ImgV m mx):PixV (gm m x y dx dy) mx:=by grind [gm,bG,dN,Mg,uE]
theorem a7a {s:Script} {m x y:Int} (hm:Full m) (hmx:aN s.bits=m) (h:sj s):SmpV m (bg s x y):=by
 subst hmx;have key:∀ o:Op,0≤(bg s x y o).2∧(bg s x y o).2≤aN s.bits:=fun o=>by
  unfold bg;dsimp only;split
  ·have:=Nk (x:=x) (y:=y) (dx:=o.maskX) (dy:=o.maskY) hm (h (o.mask - 1) (by omega) (by omega));exact ⟨this.a0,this.am⟩
  grind [aN,Full.pos]
 refine ⟨fun o => ?_,fun o=>(key o).1,fun o=>(key o).2⟩;unfold bg;dsimp only;split
 ·exact Nk hm (h o.image (by omega) (by omega))
 grind [uE]
theorem nh {m:Image} (h:aV m=true):1≤m.w∧1≤m.h∧m.w≤16777216∧m.h≤16777216:=by
 have:dD m.w m.h=true:=by
  unfold aV at h;rw [Bool.and_eq_true] at h;exact h.1
 obtain ⟨a,b,_,_,c,d⟩:=fU this;omega
theorem rz {r q:Rect} {x y:Int} (hr:aM r=false) (hq:aM q=false):(aM (ed r q)=false∧jo (ed r q) x y)↔jo r x y∧jo q x y:=by grind [aM,ed,jo,gw,gr]
section
variable {s:Script} {x y:Int}
theorem DF {i dx dy : Int} (hc : aM s.canvas = false) (hxy : jo s.canvas x y) (h0 : 0 ≤ i) (h1 : i < s.images.length) (hf : aV (cH s i) = true) (hdx : -1048576 ≤ dx ∧ dx ≤ 1048576) (hdy : -1048576 ≤ dy ∧ dy ≤ 1048576) :
  (aM (gE s i dx dy)=false∧jo (gE s i dx dy) x y)↔(0≤x - dx∧x - dx<(cH s i).w∧0≤y - dy∧y - dy<(cH s i).h):=by
 obtain ⟨w0,h0',w1,h1'⟩:=nh hf;have e:gE s i dx dy=ed ⟨dx,dy,dx+(cH s i).w,dy+(cH s i).h⟩ s.canvas:=by
  unfold gE;rw [if_neg (by omega),if_neg]
  ·rfl
  ·unfold cH at *
   grind [si]
 grind [jo,ed,rz,gw]
theorem LV {m:Image} {dx dy:Int} (hf:aV m=true) (h:0≤x - dx∧x - dx<m.w∧0≤y - dy∧y - dy<m.h):gm m x y dx dy=fy m (x - dx) (y - dy):=by
 obtain ⟨w0,h0',w1,h1'⟩:=nh hf;grind [gm,dN]
theorem Iq {m:Image} {dx dy:Int} (h:¬ (0≤x - dx∧x - dx<m.w∧0≤y - dy∧y - dy<m.h)):gm m x y dx dy=bG:=by grind [gm,dN]
end
end
theorem jx (p:Plane):aB Sg 141 [ag (nt p)] (fun r=>r = .b (B (fq p))):=by
 have hf:=jb p.w p.h;unfold fq;by_cases h:dD p.w p.h=true∧p.w≤p.stride∧p.stride≤16777216
 ·obtain ⟨h1,h2,h3⟩:=h;obtain ⟨b1,b2,b3,b4,b5,b6⟩:=fU h1;have e1:0≤(p.h - 1) * p.stride∧(p.h - 1) * p.stride≤16777216 * 16777216:=⟨au (by omega) (by omega),aD (by omega) (by omega) (by omega) (by omega)⟩
  have g2:decide (p.stride≥p.w)=true:=decide_eq_true h2;have g3:decide (p.stride≤16777216)=true:=decide_eq_true h3;rw [h1] at hf ⊢;refine az Tryz.func141 [.tmp 2] ?_;repeat' (first|refine an (fun K hK => ?_)|refine aa (hf) ?_|refine aw ?_|(refine aq hK ?_;try clear hK K))
  rfl
 ·refine az Tryz.func141 [.tmp 2] ?_;repeat' (first|refine an (fun K hK => ?_)|refine aa (hf) ?_|refine aw ?_|(refine aq hK ?_;try clear hK K))
  grind
theorem jH {m : Image} {p : Plane} {x y : Int} (hs : m.solid = false) (h : aW m p = true) (hx : 0 ≤ x) (hxm : x < m.w) (hy : 0 ≤ y) (hym : y < m.h) :
  (0≤y * p.stride∧y * p.stride≤16777216 * 16777216)∧0≤y * p.stride+x∧y * p.stride+x<p.s.length∧x≤16777216:=by
 unfold aW fq at h;rw [hs,if_neg (by decide)] at h;simp only [Bool.and_eq_true,decide_eq_true_eq] at h;obtain ⟨⟨⟨⟨⟨hf,h1⟩,h2⟩,h3⟩,h4⟩,h5⟩:=h;obtain ⟨b1,b2,b3,b4,b5,b6⟩:=fU hf;have e1:0≤y * p.stride∧y * p.stride≤16777216 * 16777216:=⟨au hy (by omega),aD (by omega) h2 (by omega) (by omega)⟩
 have e2:y * p.stride≤(p.h - 1) * p.stride:=aD (by omega) (Int.le_refl _) (by omega) (by omega);omega
theorem Cg (m:Image) (x y:Int) (hf:aV m=true) (hx:0≤x) (hxm:x<m.w) (hy:0≤y) (hym:y<m.h):aB Sg 67 [ag (aF m),I x,I y] (fun r=>r = .b (ag (aU (fy m x y)))):=by
 unfold fy;by_cases hs:m.solid=true
 ·rw [if_pos hs];refine az Tryz.func67 [.cell 6 43] ?_;repeat' (first|refine aj hs ?_|refine aC ?_)
  rfl
 ·rw [if_neg hs];have hs':m.solid=false:=by simpa using hs
  unfold aV at hf;simp only [Bool.and_eq_true] at hf;obtain ⟨_,⟨⟨⟨⟨⟨f0,f1⟩,f2⟩,f3⟩,f4⟩,_⟩⟩:=hf;obtain ⟨a0,b0,c0,d0⟩:=jH hs' f0 hx hxm hy hym;obtain ⟨a1,b1,c1,_⟩:=jH hs' f1 hx hxm hy hym;obtain ⟨a2,b2,c2,_⟩:=jH hs' f2 hx hxm hy hym;obtain ⟨a3,b3,c3,_⟩:=jH hs' f3 hx hxm hy hym;obtain ⟨a4,b4,c4,_⟩:=jH hs' f4 hx hxm hy hym;refine az Tryz.func67 [.cell 6 43] ?_;repeat' (first|(apply oZ;(case hc=>exact du);(case ht=>(simp only [Int.toNat_natCast,Int.reduceBEq,Int.reduceBNe,Int.reduceLT,Int.reduceLE,decide_true,decide_false,ur,hs'];done)))|refine aC ?_)
  refine aK (X:=Int) (fun k=>aP [(1, .b (I x)),(2, .b (I y)),(3, .b (.c (.ptr 0 0))),(6, .b (.c (.ptr 1 0))),(7, .b (.c (.ptr 2 0))),(8, .b (I k))]
   [(0, .fix ((aF m).map CV.p)),(1, .fix ((aU bG).map CV.p)),(2, .fix [.p (PI (if 0<k then y * m.p0.stride+x else 0)), .p (PI (if 1<k then y * m.p1.stride+x else 0)), .p (PI (if 2<k then y * m.p2.stride+x else 0)), .p (PI (if 3<k then y * m.p3.stride+x else 0)), .p (PI (if 4<k then y * m.p4.stride+x else 0))])] 3) (fun k=>0≤k∧k≤5) (fun k=>(5 - k).toNat) 0 ?_ ?_ ?_
  ·omega
  ·refine ar [(1,some 1),(2,some 2)] ?_ ?_;and_intros;all_goals try exact ak
  ·intro k hk;have hkv:k=0∨k=1∨k=2∨k=3∨k=4∨k=5:=by omega
   rcases hkv with rfl|rfl|rfl|rfl|rfl|rfl
   ·repeat' (first|(apply iL;(case hc=>exact du);(case ht=>(simp only [Int.toNat_natCast,Int.reduceBEq,Int.reduceBNe,Int.reduceLT,Int.reduceLE,decide_true,decide_false,ur,hs'];done)))|refine aC ?_)
    rw [ae];refine ao 1 ?_ (by omega) (by decide);refine ar [(1,some 1),(2,some 2)] ?_ ?_;and_intros;all_goals try exact ak
   ·repeat' (first|(apply iL;(case hc=>exact du);(case ht=>(simp only [Int.toNat_natCast,Int.reduceBEq,Int.reduceBNe,Int.reduceLT,Int.reduceLE,decide_true,decide_false,ur,hs'];done)))|refine aC ?_)
    rw [ae];refine ao 2 ?_ (by omega) (by decide);refine ar [(1,some 1),(2,some 2)] ?_ ?_;and_intros;all_goals try exact ak
   ·repeat' (first|(apply iL;(case hc=>exact du);(case ht=>(simp only [Int.toNat_natCast,Int.reduceBEq,Int.reduceBNe,Int.reduceLT,Int.reduceLE,decide_true,decide_false,ur,hs'];done)))|refine aC ?_)
    rw [ae];refine ao 3 ?_ (by omega) (by decide);refine ar [(1,some 1),(2,some 2)] ?_ ?_;and_intros;all_goals try exact ak
   ·repeat' (first|(apply iL;(case hc=>exact du);(case ht=>(simp only [Int.toNat_natCast,Int.reduceBEq,Int.reduceBNe,Int.reduceLT,Int.reduceLE,decide_true,decide_false,ur,hs'];done)))|refine aC ?_)
    rw [ae];refine ao 4 ?_ (by omega) (by decide);refine ar [(1,some 1),(2,some 2)] ?_ ?_;and_intros;all_goals try exact ak
   ·repeat' (first|(apply iL;(case hc=>exact du);(case ht=>(simp only [Int.toNat_natCast,Int.reduceBEq,Int.reduceBNe,Int.reduceLT,Int.reduceLE,decide_true,decide_false,ur,hs'];done)))|refine aC ?_)
    rw [ae];refine ao 5 ?_ (by omega) (by decide);refine ar [(1,some 1),(2,some 2)] ?_ ?_;and_intros;all_goals try exact ak
   ·repeat' (first|(apply oZ;(case hc=>exact du);(case ht=>(simp only [Int.toNat_natCast,Int.reduceBEq,Int.reduceBNe,Int.reduceLT,Int.reduceLE,decide_true,decide_false,ur,hs'];done)))|refine aC ?_)
    rfl
theorem JK (m:Image) (x y:Int) (hF:aB Sg 48 [ag (aF m)] (fun r=>r = .b (B (aV m)))):aB Sg 27 [ag (aF m),I x,I y] (fun r=>r = .b (ag (aU (dN m x y)))):=by
 unfold dN;by_cases h:aV m=false∨x<0∨m.w≤x∨y<0∨m.h≤y
 ·rw [if_pos h];have g:(!aV m || decide (x<0) || decide (x≥m.w) || decide (y<0) || decide (y≥m.h))=true:=by
   simp only [Bool.or_eq_true,Bool.not_eq_true',decide_eq_true_eq];rcases h with h|h|h|h|h
   ·grind
   ·omega
   ·omega
   ·omega
   ·omega
  refine az Tryz.func27 [.cell 6 43] ?_;repeat' (first|refine aj g ?_|refine aw ?_|refine an (fun K hK => ?_)|refine aa (hF) ?_|(refine aq hK ?_;try clear hK K))
  rfl
 ·rw [if_neg h];have hf:aV m=true:=by rw [← Bool.not_eq_false];exact fun q=>h (.inl q)
  have hp:=Cg m x y hf (by omega) (by omega) (by omega) (by omega);rw [hf] at hF;have g1:decide (x<0)=false:=decide_eq_false (by omega);have g2:decide (x≥m.w)=false:=decide_eq_false (by omega);have g3:decide (y<0)=false:=decide_eq_false (by omega);have g4:decide (y≥m.h)=false:=decide_eq_false (by omega);generalize fy m x y=p at *
  refine az Tryz.func27 [.cell 6 43] ?_;repeat' (first|refine aj (And.intro g1 (And.intro g2 (And.intro g3 g4))) ?_|refine aw ?_|refine an (fun K hK => ?_)|refine aa (hF) ?_|refine aa (hp) ?_|(refine aq hK ?_;try clear hK K))
  rfl
section
attribute [local go_sem] qE
theorem Ux {x d : Int} (hx : 0 ≤ x) (hd : 0 < d) :
  x / d / 18446744073709551616=x / 18446744073709551616 / d∧x / d % 18446744073709551616=(x / 18446744073709551616 % d * 18446744073709551616+x % 18446744073709551616) / d∧x % d=(x / 18446744073709551616 % d * 18446744073709551616+x % 18446744073709551616) % d:=by
 have e1:=Int.mul_ediv_add_emod (x / 18446744073709551616) d;have e2:=Int.mul_ediv_add_emod (x / 18446744073709551616 % d * 18446744073709551616+x % 18446744073709551616) d;have a0:=Int.emod_nonneg (x / 18446744073709551616) (show d≠0 by omega);have a1:=Int.emod_lt_of_pos (x / 18446744073709551616) hd;have b0:=Int.emod_nonneg (x / 18446744073709551616 % d * 18446744073709551616+x % 18446744073709551616) (show d≠0 by omega);have b1:=Int.emod_lt_of_pos (x / 18446744073709551616 % d * 18446744073709551616+x % 18446744073709551616) hd;have c0:0≤(x / 18446744073709551616 % d * 18446744073709551616+x % 18446744073709551616) / d:=Int.ediv_nonneg (by omega) (by omega);have c1:(x / 18446744073709551616 % d * 18446744073709551616+x % 18446744073709551616) / d<18446744073709551616:=(Int.ediv_lt_iff_lt_mul hd).2 (by omega);generalize (x / 18446744073709551616 % d * 18446744073709551616+x % 18446744073709551616) / d=D at *
 generalize (x / 18446744073709551616 % d * 18446744073709551616+x % 18446744073709551616) % d=R at *
 generalize x / 18446744073709551616 / d=H at *
 have ex:x=d * (H * 18446744073709551616+D)+R:=by
  have:d * (H * 18446744073709551616+D)=d * H * 18446744073709551616+d * D:=by rw [Int.mul_add,Int.mul_assoc]
  omega
 have q1:x / d=H * 18446744073709551616+D:=by rw [ex,Int.mul_add_ediv_left _ _ (by omega),Int.ediv_eq_zero_of_lt b0 b1,Int.add_zero]
 have q2:x % d=R:=by rw [ex,Int.mul_add_emod_self_left,Int.emod_eq_of_lt b0 b1]
 rw [q1];exact ⟨by omega,by omega,q2⟩
theorem zP (x d:Int) (hx:Q128 x) (hd:0<d) (hdu:d<18446744073709551616):aB Sg 263 [ag (qE x),cY d] (fun r=>r = .tup [ag (qE (x / d)),cY (x % d),B true]):=by
 have ⟨q1,q2⟩:=vh hx;have hr0:=Int.emod_nonneg (x / 18446744073709551616) (show d≠0 by omega);have hr1:=Int.emod_lt_of_pos (x / 18446744073709551616) hd;have h1:=RI (x / 18446744073709551616 % d) (x % 18446744073709551616) d hr0 hr1 hdu q2;obtain ⟨l1,l2,l3⟩:=Ux hx.l hd;rw [← l2,← l3] at h1;have g0:(d == 0)=false:=beq_eq_false_iff_ne.2 (by omega);have hq:0≤x / 18446744073709551616 / d:=Int.ediv_nonneg q1.l (by omega);have hq2:x / 18446744073709551616 / d≤x / 18446744073709551616:=Int.ediv_le_self _ q1.l;have hq3:=q1.u;refine az Tryz.func263 [.cell 4 272, .tmp 5, .tmp 6] ?_;repeat' (first|refine aj g0 ?_|refine aw ?_|refine an (fun K hK => ?_)|refine aa (h1) ?_|(refine aq hK ?_;try clear hK K))
 rw [l1];rfl
end
section
attribute [local go_sem] qE mh
theorem PC (x:Ex) (h:ExOk x):aB Sg 259 [ag (mh x)] (fun r=>r = .b (B true)):=by
 obtain ⟨p0,p1,q0,q1,r0,r1,d0,d1,_⟩:=h;have g1:decide (x.p / 18446744073709551616<4294967296)=true:=decide_eq_true (by omega);have g2:decide (x.q<70368744177664)=true:=decide_eq_true q1;have g3:decide (x.r<8589934592)=true:=decide_eq_true r1;have g4:decide (x.d≥1)=true:=decide_eq_true d0;refine az Tryz.func259 [.tmp 2] ?_;repeat' (refine aC ?_)
 rw [g1,g2,g3,g4];rfl
theorem xB (x:Ex) (h:ExS x):aB Sg 262 [ag (mh x)] (fun r=>r = .b (ag (qE (x.q * x.q * x.r)))):=by
 have hs:=xa h;have h1:=mK x.q x.q ⟨h.q0,by have:=h.q1;omega⟩ ⟨h.q0,by have:=h.q1;omega⟩;have h2:=vz (x.q * x.q) x.r hs.1 ⟨h.r0,by have:=h.r1;omega⟩ hs.2.2.2 hs.2.1;generalize x.q * x.q * x.r=A at *
 refine az Tryz.func262 [.cell 2 272] ?_;refine jM fun K hK => ?_;refine bV ?_;and_intros;all_goals first|(refine hK _ ?_;clear hK K)|exact ai|skip
 refine cM (id:=1) (.br 0 (.br 1 (.br 2 (.br 3 (.br 5 (.br 6 (.br 4 (.br 7 (.br 8 (.br 9 (.br 10 (.br 11 (.br 12 (.br 13 .leaf .nil) .nil) .nil) .nil) .nil) .nil) (.br 11 (.br 7 (.br 8 (.br 9 (.br 10 (.br 12 (.br 13 .leaf .nil) .nil) .nil) .nil) .nil) .nil) .nil)) (.br 11 (.br 4 (.br 7 (.br 8 (.br 9 (.br 10 (.br 12 (.br 13 .leaf .nil) .nil) .nil) .nil) .nil) .nil) .nil) .nil)) .nil) .nil) .nil) .nil) .nil) .nil) (by decide +kernel) bZ (fun K0 hW => ?_);refine (fun (tl:∀ st,Le st (aP [(2, .b (.c (.ptr 1 0))),(3, .b (.c (.ptr 2 0)))] [(1, .fix [.p .any, .p .any]),(2, .fix ((qE A).map CV.p))] 3)→K0 st) => ?_) (fun st hl=>hW st _ hl ?_)
 ·clear hW;repeat' (first|exact bp|(refine bO (fun K' hK' => ?_) ?_)|(refine aZ (tl _ ?_);clear tl)|((first|refine aa (h1) ?_|refine aa (h2) ?_);(try simp (maxSteps:=999999)(disch:=omega) only [go_sem]);and_intros;(all_goals first|(refine hK' _ ?_;clear hK' K')|trivial|omega|exact Nat.le_of_ble_eq_true rfl|exact ai|skip))|(simp (maxSteps:=999999)(disch:=omega) only [go_sem];and_intros;(all_goals first|(refine hK' _ ?_;clear hK' K')|trivial|omega|exact Nat.le_of_ble_eq_true rfl|exact ai|skip)))
  all_goals
   refine ar [(1,some 1),(2,some 2)] ?_ ?_;and_intros;all_goals try exact ak
 clear hW;repeat' (refine aC ?_)
 all_goals rfl
theorem SK (x:Ex) (n:Int) (h:ExS x) (hn:Q128 n):aB Sg 266 [ag (mh x),ag (qE n)] (fun r=>r = .b (I (pD x n))):=by
 have hs:=xa h;have hn2:=(vh hn).2;have h1:=xB x h;have h3:=mK (n % 18446744073709551616) (n % 18446744073709551616) hn2 hn2;have h4:=Ev (x.q * x.q * x.r) (n % 18446744073709551616 * (n % 18446744073709551616));refine az Tryz.func266 [.tmp 4] ?_;repeat' (first|(((with_reducible refine bT (id:=3) [] (by decide +kernel) (by decide +kernel) ?_ (fun K hK => ?_));exact bZ);(try simp (maxSteps:=999999)(disch:=omega) only [go_sem]);and_intros;(all_goals first|(refine hK _ ba ?_;clear hK K)|exact ai|skip))|refine bL ?_|((first|refine an (fun K hK => ?_)|refine aa (h1) ?_|refine aa (h3) ?_|refine aa (h4) ?_);and_intros;all_goals first|(refine hK _ ?_;clear hK K)|try exact ai)|(refine aH (fun hb => ?_) (fun hb => ?_);all_goals try exact ax)|(refine bF ?_;(try clear hB KB);(try clear hK K)))
 ·rw [pD,if_pos hb]
 ·refine hK _ ba ?_;clear hK;repeat' (refine aC ?_)
  rw [pD,if_neg (by omega)]
theorem Ol (x:Ex) (h:ExOk x):aB Sg 251 [ag (mh x)] (fun r=>r = .tup [cY (en x),B true]):=by
 have hv:=PC x h;obtain ⟨p0,p1,q0,q1,r0,r1,d0,d1,_⟩:=id h;have hES:ExS x:=⟨p0,p1,q0,by omega,r0,r1,by omega,d1⟩
 have hs:=xa hES;have h1:=xB x hES;have h2:=Ru (x.q * x.q * x.r) ⟨hs.2.2.1,hs.2.2.2⟩;have hS:=SF (A:=x.q * x.q * x.r) hs.2.2.1 (by have:=hs.2.2.2;exact this);have hfl:=IR h hS;obtain ⟨_,_,f0,f1⟩:=ki h;have S0:=hS.s0;have S1:zK (fun n=>decide (n * n≤x.q * x.q * x.r)) 64 0<18446744073709551616:=by
  refine Int.not_le.1 fun c => ?_;have:=aD c c (by decide) S0;have:=hS.le;have:=hs.2.2.2;omega
 generalize zK (fun n=>decide (n * n≤x.q * x.q * x.r)) 64 0=S at *
 have h3:=a4f S ⟨S0,S1⟩;have h4:=wt x.p S p0 S0 (by omega);have h5:=zP (x.p+S) x.d ⟨by omega,by omega⟩ (by omega) d1;rw [← hfl] at h5;generalize en x=F at *
 have g1:decide (F / 18446744073709551616>0)=false:=decide_eq_false (by omega);have g2:decide (F % 18446744073709551616≥9223372036854775808)=false:=decide_eq_false (by omega);have ht:True:=trivial;generalize x.q * x.q * x.r=A at *
 refine az Tryz.func251 [.tmp 2, .tmp 3] ?_;repeat' (first|refine aj ht ?_|refine aw ?_|refine an (fun K hK => ?_)|refine aa (hv) ?_|(refine aq hK ?_;try clear hK K))
 refine cM (id:=3) (.br 0 (.br 1 (.br 2 (.br 3 (.br 4 (.br 5 (.br 6 (.br 7 (.br 8 (.br 9 (.br 10 (.br 11 (.br 12 .leaf .nil) .nil) .nil) .nil) .nil) .nil) (.br 10 (.br 6 (.br 7 (.br 8 (.br 9 (.br 11 (.br 12 .leaf .nil) .nil) .nil) .nil) .nil) .nil) .nil)) (.br 10 (.br 5 (.br 6 (.br 7 (.br 8 (.br 9 (.br 11 (.br 12 .leaf .nil) .nil) .nil) .nil) .nil) .nil) .nil) .nil)) (.br 10 (.br 4 (.br 5 (.br 6 (.br 7 (.br 8 (.br 9 (.br 11 (.br 12 .leaf .nil) .nil) .nil) .nil) .nil) .nil) .nil) .nil) .nil)) (.br 10 (.br 3 (.br 4 (.br 5 (.br 6 (.br 7 (.br 8 (.br 9 (.br 11 (.br 12 .leaf .nil) .nil) .nil) .nil) .nil) .nil) .nil) .nil) .nil) .nil)) .nil) .nil) .nil) (by decide +kernel) bZ (fun K0 hW => ?_);refine (fun (tl:∀ st,Le st (aP [(1, .b (.c (.ptr 0 0))),(4, .b (.c (.ptr 1 0)))] [(0, .fix ((mh x).map CV.p)),(1, .fix ((qE (x.p+S)).map CV.p))] 2)→K0 st) => ?_) (fun st hl=>hW st _ hl ?_)
 ·clear hW;repeat' (first|exact bp|(refine bO (fun K' hK' => ?_) ?_)|(refine aZ (tl _ ?_);clear tl)|((first|refine aa (h1) ?_|refine aa (h2) ?_|refine aa (h3) ?_|refine aa (h4) ?_);(try simp (maxSteps:=999999)(disch:=omega) only [go_sem]);and_intros;(all_goals first|(refine hK' _ ?_;clear hK' K')|trivial|omega|exact Nat.le_of_ble_eq_true rfl|exact ai|skip))|(simp (maxSteps:=999999)(disch:=omega) only [go_sem];and_intros;(all_goals first|(refine hK' _ ?_;clear hK' K')|trivial|omega|exact Nat.le_of_ble_eq_true rfl|exact ai|skip)))
  all_goals
   refine ar [(1,some 1)] ?_ ?_;and_intros;all_goals try exact ak
 clear hW;repeat' (first|refine aj (And.intro g1 g2) ?_|refine aw ?_|refine an (fun K hK => ?_)|refine aa (h5) ?_|(refine aq hK ?_;try clear hK K))
 rw [show F % 18446744073709551616=F by omega]
end
end Go.Proofs.YtdjmpacladhijaaGreatDoor
