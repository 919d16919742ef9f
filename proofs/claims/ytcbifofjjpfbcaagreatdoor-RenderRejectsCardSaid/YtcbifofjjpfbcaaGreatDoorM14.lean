/- Part of the proof: D5, E1, EM, T6, T7, T8, V1, U8. -/
import Derived.Test.YtcbifofjjpfbcaaGreatDoorM11
import Derived.Test.YtcbifofjjpfbcaaGreatDoorM13
set_option linter.unusedSimpArgs false
set_option linter.unusedVariables false
set_option maxHeartbeats 2000000
set_option maxRecDepth 16000
namespace Go.Proofs.YtcbifofjjpfbcaaGreatDoor
open Go Go.SL
open Go.RowKit (wrap64)
section
def eR (n:Nat) (f:Nat→Nat):PV := .lst 1 n (fun a _=>PI (f a))
attribute [go_sem] eR
theorem np {n:Nat}:(((n+1:Nat):Int) - 1)=(n:Int):=by omega
attribute [local go_sem] np Int.toNat_natCast
def HX (l junk:List Nat) (a:Nat):Nat:=(l.reverse ++ junk).getD a 0
theorem nG {p:Nat} {t junk:List Nat}:HX (p :: t) junk t.length=p:=by
 rw [HX,List.reverse_cons,List.append_assoc,List.getD_eq_getElem?_getD,List.getElem?_append_right (by simp)];simp
theorem AD {p:Nat} {t junk:List Nat}:HX (p :: t) junk=HX t (p :: junk):=by funext a;rw [HX,HX,List.reverse_cons,List.append_assoc];rfl
theorem zT {l:List Nat} {i a:Nat} {junk:List Nat} (h:a<l.length):HX (i :: l) [] a=HX l junk a:=by rw [HX,HX,List.reverse_cons,List.append_nil,List.getD_eq_getElem?_getD,List.getD_eq_getElem?_getD,List.getElem?_append_left (by simpa using h),List.getElem?_append_left (by simpa using h)]
theorem uR (ops:List Op):∀ i,(bZ ops i).length≤i
 | 0=>Nat.le_refl _
 | i+1=>by
  have:=uR ops i;rw [bZ];split
  ·simp;omega
  split
  ·rw [List.length_tail];omega
  ·omega
attribute [local go_sem] nG
end
section
def gm (r q:Rect):Bool:=aP q || !aP r && decide (r.x0≤q.x0) && decide (r.y0≤q.y0) && decide (q.x1≤r.x1) && decide (q.y1≤r.y1)
theorem Dr (r q:Rect):aA Sg 52 [ag (aQ r),ag (aQ q)] (fun x=>x = .b (B (gm r q))):=by
 have h1:=cG q;have h2:=cG r;refine aD Tryz.func52 [.tmp 4] ?_;repeat' (first|refine an (fun K hK => ?_)|refine aa (h1) ?_|refine aw (fun hg=>h2) ?_|refine ax ?_|(refine aq hK ?_;try clear hK K))
 rfl
attribute [local go_sem] np Int.toNat_natCast nG
theorem qJ (s:Script) (V:VOps s):aA Sg 71 [.c (.p (yU s.ops))] (fun x=>x = .tup [.c (.p (eR s.ops.length (aN s.ops))),I 0]):=by
 have hn:=V.cnt;have W:=V.wf;refine aD Tryz.func71 [.tmp 2, .tmp 3] ?_;repeat' (refine aC ?_)
 refine aH (X:=Nat × List Nat) (fun x=>aT [(2, .b (.c (.p (.val (.slice none 0 0))))),(3, .b (I 0)),(4, .b (.c (.own 0 s.ops.length))),(5, .b (.c (.own 1 (bZ s.ops x.1).length))),(11, .b (.c (.p (yU s.ops)))),(12, .b (I s.ops.length)),(13, .b (I x.1))]
  [(0, .arr 3 1 s.ops.length (fun a _=>PI (uA s.ops x.1 a))),(1, .arr 3 1 ((bZ s.ops x.1).length+x.2.length) (fun a _=>PI (HX (bZ s.ops x.1) x.2 a)))] 2)
  (fun x=>x.1≤s.ops.length) (fun x=>s.ops.length - x.1) (0,[]) ?_ ?_ ?_
 ·exact Nat.zero_le _
 ·refine au [(1,none)] ?_ ?_;and_intros;all_goals try exact aj
  refine .inr fun a ha j hj => ?_;have h2:j=0:=by omega
  subst h2;exact fun _ _ _ h=>h
 ·rintro ⟨i,junk⟩ hi;dsimp only at hi ⊢;have hsl:=uR s.ops i;rcases Nat.lt_or_ge i s.ops.length with hlt|hge
  ·rcases W.kinds i hlt with hk|hk|hk
   ·have hk2:(s.ops.getD i default).kind=1:=hk
    repeat' (first|refine aC ?_|(refine aK (fun hb => ?_) (fun hb => ?_) <;> try exact aE))
    rw [ae];refine ak (i+1,junk) ?_ (by dsimp only;omega) (by dsimp only;omega);dsimp only;rw [dM hk];refine au [(1,some 1)] ?_ ?_;and_intros;all_goals try exact aj
    refine .inr fun a ha j hj => ?_;have h2:j=0:=by omega
    subst h2;by_cases e:a=i
    ·rw [if_pos e,if_pos (by omega),e,uA,if_neg (by omega),cB];exact fun _ _ _ h=>h
    ·rw [if_neg e,uA,if_neg (by omega),di _ _ e];exact fun _ _ _ h=>h
   ·have hk2:(s.ops.getD i default).kind=2:=hk
    repeat' (first|refine aC ?_|(refine aK (fun hb => ?_) (fun hb => ?_) <;> try exact aE))
    rw [ae];refine ak (i+1,[]) ?_ (by dsimp only;omega) (by dsimp only;omega);dsimp only;rw [dR hk];refine au [(1,some 4)] ?_ ?_;and_intros;all_goals try exact aj
    ·refine .inr fun a ha j hj => ?_;have h2:j=0:=by omega
     subst h2;by_cases e:a=i
     ·rw [if_pos e,if_pos (by omega),e,uA,if_neg (by omega),cB];exact fun _ _ _ h=>h
     ·rw [if_neg e,uA,if_neg (by omega),di _ _ e];exact fun _ _ _ h=>h
    refine .inr fun a ha j hj => ?_;have h2:j=0:=by omega
    subst h2;unfold gY;by_cases h:a<(bZ s.ops i).length
    ·rw [if_pos h,zT h];exact fun _ _ _ h=>h
    ·have ea:a=(bZ s.ops i).length:=by omega
     rw [if_neg h,ea,nG,Nat.sub_self];exact fun _ _ _ h=>h
   ·have hk2:(s.ops.getD i default).kind=3:=hk;cases hs:bZ s.ops i with
    | nil=>exact absurd hs (W.pops i hlt hk)
    | cons p t =>
     have hp:p<i:=fg (ops:=s.ops) (by rw [hs];exact List.mem_cons_self ..);have htl:t.length≤4096:=by rw [hs] at hsl;simp at hsl;omega
     repeat' (first|refine aC ?_|(refine aK (fun hb => ?_) (fun hb => ?_) <;> try exact aE))
     rw [ae];refine ak (i+1,p :: junk) ?_ (by dsimp only;omega) (by dsimp only;omega);dsimp only;rw [fy hk,hs];refine au [(1,some 1)] ?_ ?_;and_intros;all_goals try exact aj
     ·refine .inr fun a ha j hj => ?_;have h2:j=0:=by omega
      subst h2;rw [uA,if_pos hk,hs];dsimp only [List.headD];by_cases e:a=p
      ·rw [if_pos e,e,cB];exact fun _ _ _ h=>h
      ·rw [if_neg e,di _ _ e];by_cases e2:a=i
       ·rw [if_pos e2,e2,cB];exact fun _ _ _ h=>h
       ·rw [if_neg e2,di _ _ e2];exact fun _ _ _ h=>h
     ·show _=t.length+(junk.length+1);omega
     ·exact .inl (by rw [AD];rfl)
  ·have hi2:i=s.ops.length:=by omega
   subst hi2;rw [W.fin]
   repeat' (first|refine aC ?_|(refine aK (fun hb => ?_) (fun hb => ?_) <;> try exact aE))
   rfl
end
def tX (ops:List Op) (i:Nat):Int:=match bZ ops i with|[] => -1|p :: _=>p
def JU (ops:List Op) (i:Nat):Int:=if (aB ops i).kind=3 then tX ops (i+1) else tX ops i
theorem lR {ops:List Op}:∀ {i:Nat} {l t:List Nat} {p:Nat},bZ ops i=l ++ p :: t→bZ ops p=t
 | 0,l,t,p,h=>by cases l <;> simp [bZ] at h
 | i+1,l,t,p,h=>by
  rw [bZ] at h;split at h
  ·cases l with
   | nil=>simp only [List.nil_append,List.cons.injEq] at h;rw [← h.1,h.2]
   | cons a l=>simp only [List.cons_append,List.cons.injEq] at h;exact lR h.2
  split at h
  ·cases hs:bZ ops i with
   | nil=>rw [hs] at h;cases l <;> simp at h
   | cons q r=>rw [hs] at h;exact lR (l:=q :: l) (by rw [hs];exact congrArg (q :: ·) h)
  ·exact lR h
theorem Hs {ops:List Op} {i:Nat} (h:bZ ops i=[]):tX ops i = -1:=by rw [tX,h]
theorem Et {ops:List Op} {i p:Nat} {t:List Nat} (h:bZ ops i=p :: t):tX ops i=p:=by rw [tX,h]
theorem xl {ops:List Op} (W:Wf ops) {i:Nat} (hi:i<ops.length) (hk:(aB ops i).kind≠3):bZ ops (aN ops i+1)=bZ ops i:=by
 rcases W.kinds i hi with h|h|h
 ·rw [iH W hi h,dM h]
 ·have hm:i ∈ bZ ops (i+1):=by rw [dR h];exact List.mem_cons_self ..
  obtain ⟨j,t,h1,h2,h3,h4⟩:=nX W (p:=i) (ops.length - (i+1)) (i+1) (by omega) hm;rw [ig W h2 h3 h4,fy h3,h4];exact (lR (l:=[]) h4).symm
 ·exact absurd h hk
theorem uW {ops:List Op} (W:Wf ops) {i:Nat} (hi:i<ops.length):i≤aN ops i:=by
 rcases W.kinds i hi with h|h|h
 ·rw [iH W hi h];exact Nat.le_refl _
 ·have:=jt W hi h;omega
 ·rw [zB W hi h];exact Nat.le_refl _
def WX (s:Script) (i:Nat):Bool:=decide (JU s.ops i<0) || (aB s.ops (JU s.ops i).toNat).isolated
def koM (s:Script) (i:Nat):Bool := !decide (JU s.ops i<0) && (aB s.ops (JU s.ops i).toNat).knockout
def gV (s:Script) (k:Int):Image:=s.images.getD k.toNat default
section
inductive Elm:List Op→Prop
 | nil:Elm []
 | draw {o:Op} {r:List Op}:o.kind=1→Elm r→Elm (o :: r)
 | grp {o p:Op} {l r:List Op}:o.kind=2→Elm l→p.kind=3→Elm r→Elm (o :: (l ++ p :: r))
def mb (m:Int) (z:Op→Pixel × Int) (l:List Op) (ko:Bool) (a:Acc) (b:Pixel):Acc:=((mJ m z l [⟨{ jx with knockout:=ko },a,b⟩]).headD base).acc
section
variable {m:Int} {z:Op→Pixel × Int}
theorem qi {o:Op} {t:Lv} {r:List Lv} (h:o.kind=1):jG m z (t :: r) o=oF m o (aM m o (z o).1 (z o).2) t :: r:=if_pos h
theorem nA {o:Op} {t:Lv} {r:List Lv} (h:o.kind=2):jG m z (t :: r) o=ma o t :: t :: r:=(if_neg (by omega)).trans (if_pos h)
theorem tA {o:Op} {t u:Lv} {r:List Lv} (h:o.kind=3):jG m z (t :: u :: r) o=oF m t.op (aM m t.op (bI t.acc t.back m) (z t.op).2) u :: r:=(if_neg (by omega)).trans (if_neg (by omega))
theorem Nl {l:List Op} (h:Elm l):∃ F:Bool→Acc→Pixel→Acc,∀ t r,mJ m z l (t :: r) = { t with acc:=F t.op.knockout t.acc t.back } :: r:=by
 induction h with
 | nil=>exact ⟨fun _ a _=>a,fun _ _=>rfl⟩
 | @draw o r h _ ih =>
  obtain ⟨F,hF⟩:=ih;refine ⟨fun ko a b=>F ko (cT ko o.operator o.mode m (aM m o (z o).1 (z o).2) a b) b,fun t r => ?_⟩;rw [kQ,qi h,hF];rfl
 | @grp o p l r h1 _ h3 _ ih1 ih2 =>
  obtain ⟨F,hF⟩:=ih1;obtain ⟨G,hG⟩:=ih2;refine ⟨fun ko a b=>G ko (cT ko o.operator o.mode m (aM m o (bI (F o.knockout (oU (eA o.isolated ko a b)) (eA o.isolated ko a b)) (eA o.isolated ko a b) m) (z o).2) a b) b,fun t r => ?_⟩;rw [kQ,nA h1,pB,hF,kQ,tA h3,hG];rfl
theorem Bc {l:List Op} (h:Elm l) (t:Lv) (r:List Lv):mJ m z l (t :: r) = { t with acc:=mb m z l t.op.knockout t.acc t.back } :: r:=by
 obtain ⟨F,hF⟩:=Nl (m:=m) (z:=z) h;have e:∀ ko a b,mb m z l ko a b=F ko a b:=fun ko a b=>by unfold mb;rw [hF];rfl
 rw [hF,e]
theorem QL {x y:List Op} (hx:Elm x) {ko:Bool} {a:Acc} {b:Pixel}:mb m z (x ++ y) ko a b=mb m z y ko (mb m z x ko a b) b:=by
 conv=>lhs;unfold mb
 rw [pB,Bc hx];rfl
theorem Kb {o:Op} (h:o.kind=1) {ko:Bool} {a:Acc} {b:Pixel}:mb m z [o] ko a b=cT ko o.operator o.mode m (aM m o (z o).1 (z o).2) a b:=by
 unfold mb;rw [kQ,qi h];rfl
def NT (m:Int) (z:Op→Pixel × Int) (l:List Op) (ko:Bool) (B:Pixel):Pixel:=bI (mb m z l ko (oU B) B) B m
theorem RP {o p : Op} {l : List Op} (h1 : o.kind = 2) (hl : Elm l) (h3 : p.kind = 3) {ko : Bool} {a : Acc} {b : Pixel} :
  mb m z (o :: (l ++ [p])) ko a b=cT ko o.operator o.mode m (aM m o (NT m z l o.knockout (eA o.isolated ko a b)) (z o).2) a b:=by
 conv=>lhs;unfold mb
 rw [kQ,nA h1,pB,Bc hl,kQ,tA h3];rfl
end
section
variable {ops:List Op}
theorem AO {i:Nat}:ng ops i i=[]:=by
 unfold ng;rw [List.drop_eq_nil_of_le];rw [List.length_take];omega
theorem qQ {i j k:Nat} (h1:i≤j) (h2:j≤k):ng ops i k=ng ops i j ++ ng ops j k:=by
 unfold ng;have e:ops.take j=(ops.take k).take j:=by rw [List.take_take,Nat.min_eq_left h2]
 rw [e];generalize ops.take k=x;rcases Nat.lt_or_ge (x.take j).length i with q|q
 rotate_left
 ·conv=>lhs;rw [← List.take_append_drop j x]
  rw [List.drop_append_of_le_length q]
 ·rw [List.drop_eq_nil_of_le (Nat.le_of_lt q)];rw [List.length_take] at q;rw [List.drop_eq_nil_of_le (show x.length≤i by omega),List.drop_eq_nil_of_le (show x.length≤j by omega)];rfl
theorem uP {i:Nat} (h:i<ops.length):ng ops i (i+1)=[aB ops i]:=by
 unfold ng;rw [tn h,List.drop_append_of_le_length (by rw [List.length_take];omega),List.drop_eq_nil_of_le (by rw [List.length_take];omega)];rfl
theorem rp {i j:Nat} (h1:i<j) (h2:j≤ops.length):ng ops i j=aB ops i :: ng ops (i+1) j:=by rw [qQ (show i≤i+1 by omega) (by omega),uP (by omega)];rfl
theorem zX (W : Wf ops) {i : Nat} (hi : i < ops.length) (hk : (aB ops i).kind = 2) :
  (aB ops (aN ops i)).kind=3∧bZ ops (aN ops i)=i :: bZ ops i∧∀ k,i+1≤k→k≤aN ops i→∃ l,bZ ops k=l ++ i :: bZ ops i:=by
 have he:=jt W hi hk;have hel:=iu W hi;have hse:=xl W hi (by omega);have hin:∀ k,i+1≤k→k≤aN ops i→∃ l,bZ ops k=l ++ i :: bZ ops i:=fun k k1 k2=>by
  have:=(mG W (show k≤ops.length by omega) (by omega)).2 ⟨hk,k2⟩;obtain ⟨l,t,e⟩:=List.append_of_mem this;exact ⟨l,by rw [lR e];exact e⟩
 obtain ⟨l,e⟩:=hin (aN ops i) (by omega) (Nat.le_refl _);have hk3:(aB ops (aN ops i)).kind=3:=by
  refine (W.kinds _ hel).elim (fun q => ?_) fun q=>q.elim (fun q => ?_) id
  ·have h2:=dM (ops:=ops) q;rw [hse,e] at h2;have:=congrArg List.length h2;simp at this;omega
  ·have h2:=dR (ops:=ops) q;rw [hse,e] at h2;have:=congrArg List.length h2;simp at this;omega
 refine ⟨hk3, ?_,hin⟩;have h2:=fy (ops:=ops) hk3;rw [hse,e] at h2;cases l with
 | nil=>exact e
 | cons x l =>
  have:=congrArg List.length h2;simp at this;omega
theorem qX (W:Wf ops):∀ (d i j:Nat),j - i≤d→i≤j→j≤ops.length→bZ ops i=bZ ops j→(∀ k,i≤k→k≤j→(bZ ops i).length≤(bZ ops k).length)→Elm (ng ops i j)
 | 0,i,j,hd,hij,_,_,_=>by
  obtain rfl:j=i:=by omega
  rw [AO];exact .nil
 | d+1,i,j,hd,hij,hj,hs,hl=>by
  rcases Nat.eq_or_lt_of_le hij with rfl|hlt
  ·rw [AO];exact .nil
  have hi:i<ops.length:=by omega
  rcases W.kinds i hi with hk|hk|hk
  ·rw [rp (by omega) hj];have h1:=dM (ops:=ops) (i:=i) hk;exact .draw hk (qX W d (i+1) j (by omega) (by omega) hj (h1.trans hs) fun k k1 k2=>by rw [h1];exact hl k (by omega) k2)
  ·have he:=jt W hi hk;have hel:=iu W hi;have hse:=xl W hi (by omega);have h1:=dR (ops:=ops) (i:=i) hk;have nin:i ∉ bZ ops i:=fun q=>by have:=fg q;omega
   have hej:aN ops i<j:=by
    refine Nat.not_le.1 fun q=>nin ?_;have:=(mG W hj (by omega)).2 ⟨hk,q⟩
    rwa [← hs] at this
   obtain ⟨hk3,hes,hin⟩:=zX W hi hk;rw [rp (by omega) hj,qQ (show i+1≤aN ops i by omega) (by omega),rp hej hj];refine .grp hk (qX W d (i+1) _ (by omega) (by omega) (by omega) (h1.trans hes.symm) fun k k1 k2 => ?_) hk3
    (qX W d _ j (by omega) (by omega) hj (hse.trans hs) fun k k1 k2=>by rw [hse];exact hl k (by omega) k2)
   obtain ⟨l,e⟩:=hin k k1 k2;rw [h1,e,List.length_append];omega
  ·exfalso;have h1:=fy (ops:=ops) hk;have h2:=hl (i+1) (by omega) (by omega);rw [h1,List.length_tail] at h2;have:=W.pops i hi hk;cases hq:bZ ops i with
   | nil=>exact this hq
   | cons x y =>
    rw [hq,List.length_cons] at h2;omega
theorem Kc (W:Wf ops) {i:Nat} (hi:i<ops.length) (hk:(aB ops i).kind≠3):Elm (ng ops i (aN ops i+1)):=by
 have hel:=iu W hi;have heg:=uW W hi;have hse:=xl W hi hk;refine qX W _ i _ (Nat.le_refl _) (by omega) (by omega) hse.symm fun k k1 k2 => ?_;rcases W.kinds i hi with h|h|h
 ·rw [iH W hi h] at k2;have:k=i∨k=i+1:=by omega
  rcases this with rfl|rfl
  ·exact Nat.le_refl _
  ·rw [dM h];exact Nat.le_refl _
 ·rcases Nat.lt_or_ge k (aN ops i+1) with q|q
  ·rcases Nat.eq_or_lt_of_le k1 with rfl|q2
   ·exact Nat.le_refl _
   ·have:=(mG W (show k≤ops.length by omega) q2).2 ⟨h,by omega⟩;obtain ⟨l,t,e⟩:=List.append_of_mem this;rw [e,lR e,List.length_append,List.length_cons];omega
  ·obtain rfl:k=aN ops i+1:=by omega
   rw [hse];exact Nat.le_refl _
 ·exact absurd h hk
theorem SE (W:Wf ops) {i:Nat} (hi:i<ops.length) (hk:(aB ops i).kind=2):Elm (ng ops (i+1) (aN ops i)):=by
 have he:=jt W hi hk;have hel:=iu W hi;have h1:=dR (ops:=ops) (i:=i) hk;obtain ⟨_,hes,hin⟩:=zX W hi hk;refine qX W _ _ _ (Nat.le_refl _) (by omega) (by omega) (h1.trans hes.symm) fun k k1 k2 => ?_;obtain ⟨l,e⟩:=hin k k1 k2;rw [h1,e,List.length_append];omega
theorem Qw (W:Wf ops) {i:Nat} (hi:i<ops.length) (hk:(aB ops i).kind=2):ng ops i (aN ops i+1)=aB ops i :: (ng ops (i+1) (aN ops i) ++ [aB ops (aN ops i)]):=by
 have he:=jt W hi hk;have hel:=iu W hi;rw [rp (by omega) (by omega),qQ (show i+1≤aN ops i by omega) (by omega),uP hel]
end
end
section
theorem CL {x:Ex} (h:ExOk x) (hq:x.q * x.q * x.r=0):hx x=bV x.p x.d:=by
 have hd:0<x.d:=h.d0;obtain ⟨a1,a2⟩:=mS (n:=x.p) hd;have sq0:∀ u:Int,u * u≤0→u=0:=fun u hu=>by
  rcases Int.lt_trichotomy u 0 with q|q|q
  ·have:=Int.mul_pos_of_neg_of_neg q q;omega
  ·exact q
  ·have:=Int.mul_pos q q;omega
 have e0:2 * x.q * (2 * x.q) * x.r=0:=by
  have:2 * x.q * (2 * x.q) * x.r=4 * (x.q * x.q * x.r):=by grind
  rw [this,hq];rfl
 refine QP h ?_ ?_
 ·grind [nU]
 ·simp only [nU,decide_eq_false_iff_not,e0];grind
section
variable {op mode m cs sl cb ab:Int}
theorem yS (hm:Full m) (hs:Pre cs sl m) (hd:Pre cb ab m) (h0:sl=0∨ab=0):(aR mode cs sl cb ab).p=0∧(aR mode cs sl cb ab).q * (aR mode cs sl cb ab).q * (aR mode cs sl cb ab).r=0:=by
 have ht:=kk (mode:=mode) hm hs hd;have e:sl * ab=0:=by rcases h0 with rfl|rfl <;> simp
 have h1:=ht.le;have h2:=ht.sq;have h3:=ht.p0;rw [e,Int.zero_mul] at h1 h2;have hp:(aR mode cs sl cb ab).p=0:=by omega
 rw [hp] at h2;refine ⟨hp,Int.le_antisymm (by omega) ?_⟩;exact ao (uj _) ht.r0
theorem Cq (hm : Full m) (hs : Pre cs sl m) (hd : Pre cb ab m) (hq : (aR mode cs sl cb ab).q * (aR mode cs sl cb ab).q * (aR mode cs sl cb ab).r = 0) {k : Int}
  (hv:(dp op mode m cs sl cb ab).p=k * (m * m * (aR mode cs sl cb ab).d)):dN op mode m cs sl cb ab=k:=by
 have ho:=kK (op:=op) (mode:=mode) hm hs hd;unfold dN;rw [CL ho ?_,hv]
 ·show bV (k * (m * m * (aR mode cs sl cb ab).d)) (m * m * (aR mode cs sl cb ab).d)=k;have:0<m * m * (aR mode cs sl cb ab).d:=ho.d0;rw [Int.mul_comm,jJ this]
 grind [dp,jl,aR]
theorem RF:(dp op mode m cs sl cb ab).p=(aR mode cs sl cb ab).p * jl op sl ab m+(m - ab) * cs * jl op sl ab m * (aR mode cs sl cb ab).d+jY op sl ab m * cb * m * (aR mode cs sl cb ab).d:=rfl
theorem rZ (hop:du op=true):jY op 0 ab m=m:=by grind [jY,du]
theorem lV (hm:Full m) (hd:Pre cb ab m) (hop:du op=true):dN op mode m 0 0 cb ab=cb:=by
 have hs:Pre 0 0 m:=⟨Int.le_refl _,Int.le_refl _,Int.le_of_lt hm.pos⟩
 obtain ⟨t1,t2⟩:=yS (mode:=mode) hm hs hd (.inl rfl);refine Cq hm hs hd t2 ?_;grind [jY,RF,rZ]
theorem yf (hm:Full m) (hop:du op=true):dP op 0 ab m=ab:=by
 unfold dP;rw [rZ hop,Int.mul_zero,Int.zero_add,jJ hm.pos]
theorem pT {g:Int} (hm:Full m) (hop:du op=true):fk op 0 g m=g:=by
 simp only [du,decide_eq_true_eq] at hop;unfold fk;rcases hop with rfl|rfl|rfl|rfl|rfl|rfl <;> simp [jJ hm.pos]
theorem mn {c:Int} (hm:Full m) (hd:Pre cb ab m) (hc:0≤c) (hcm:c≤m):dE mode m 0 0 0 c cb ab=c:=by
 have hs:Pre 0 0 m:=⟨Int.le_refl _,Int.le_refl _,Int.le_of_lt hm.pos⟩
 obtain ⟨t1,t2⟩:=yS (mode:=mode) hm hs hd (.inl rfl);have ho:=oj (mode:=mode) hm hs hd (Int.le_refl _) (Int.le_of_lt hm.pos) hc hcm;unfold dE;rw [CL ho t2];show bV ((aR mode 0 0 cb ab).p+((m - 0) * c+(0 - 0) * cb+(m - ab) * 0) * (aR mode 0 0 cb ab).d) (m * (aR mode 0 0 cb ab).d)=c;have hd0:0<m * (aR mode 0 0 cb ab).d:=ho.d0;rw [t1,show 0+((m - 0) * c+(0 - 0) * cb+(m - ab) * 0) * (aR mode 0 0 cb ab).d=m * (aR mode 0 0 cb ab).d * c by grind,jJ hd0]
theorem vC {acc b:Int} (hm:Full m):dA m 0 0 acc b=acc:=by grind [dA,bV,jJ,Full.pos]
end
section
variable {ko:Bool} {op mode m:Int} {s:Pixel} {x:Acc} {b:Pixel}
theorem AccV.pre0 (h:AccV x b m):Pre x.c0 x.a m:=⟨h.n0,h.l0,h.am⟩
theorem AccV.pre1 (h:AccV x b m):Pre x.c1 x.a m:=⟨h.n1,h.l1,h.am⟩
theorem AccV.pre2 (h:AccV x b m):Pre x.c2 x.a m:=⟨h.n2,h.l2,h.am⟩
theorem PixV.pre0 (h:PixV s m):Pre s.c0 s.a m:=⟨h.n0,h.l0,h.am⟩
theorem PixV.pre1 (h:PixV s m):Pre s.c1 s.a m:=⟨h.n1,h.l1,h.am⟩
theorem PixV.pre2 (h:PixV s m):Pre s.c2 s.a m:=⟨h.n2,h.l2,h.am⟩
theorem Aa (hm:Full m) (h:AccV x b m) (hop:du op=true) (hk:ko=true→op=4):cT ko op mode m bQ x b=x:=by
 unfold cT;have l0:=h.l0;have l1:=h.l1;have l2:=h.l2;have am:=h.am;split
 ·rename_i hko;have h4:=hk hko;subst h4;simp only [bQ,mn hm h.bk.pre0 h.n0 (by omega),mn hm h.bk.pre1 h.n1 (by omega),mn hm h.bk.pre2 h.n2 (by omega),vC hm,pT hm hop]
 ·simp only [bQ,lV hm h.pre0 hop,lV hm h.pre1 hop,lV hm h.pre2 hop,yf hm hop,pT hm hop]
end
end
section
def ic (r:Rect) (x y:Int):Prop:=r.x0≤x∧x<r.x1∧r.y0≤y∧y<r.y1
def eZ (m:Image) (x y:Int):Pixel:=if m.solid=true then m.color else ⟨m.p0.s.getD (y * m.p0.stride+x).toNat 0,m.p1.s.getD (y * m.p1.stride+x).toNat 0,m.p2.s.getD (y * m.p2.stride+x).toNat 0,m.p3.s.getD (y * m.p3.stride+x).toNat 0,m.p4.s.getD (y * m.p4.stride+x).toNat 0⟩
def cW (p:Plane):Bool:=cK p.w p.h && decide (p.w≤p.stride) && decide (p.stride≤16777216) && decide ((p.h - 1) * p.stride+p.w≤p.s.length)
def aL (m:Image) (p:Plane):Bool:=if m.solid=true then decide (p.w=0) && decide (p.h=0) && decide (p.stride=0) && decide (p.s.length=0) else cW p && decide (p.w=m.w) && decide (p.h=m.h)
def bd (m:Image):Bool:=cK m.w m.h && (aL m m.p0 && aL m m.p1 && aL m m.p2 && aL m m.p3 && aL m m.p4 && (m.solid || decide (m.color=bQ)))
def cU (m:Image) (x y:Int):Pixel:=if bd m=false∨x<0∨m.w≤x∨y<0∨m.h≤y then bQ else eZ m x y
def gr (m:Image) (x y dx dy:Int):Pixel:=if x<dx∨y<dy∨1099511627776≤x - dx∨1099511627776≤y - dy then bQ else cU m (x - dx) (y - dy)
def cY (s:Script) (x y:Int) (o:Op):Pixel × Int :=
 (if o.kind=1∧0≤o.image∧o.image<s.images.length then gr (gV s o.image) x y o.x o.y else bQ,
  if 1≤o.mask∧o.mask≤s.images.length then (gr (gV s (o.mask - 1)) x y o.maskX o.maskY).a else 0)
structure ImgV (m:Image) (mx:Int):Prop where
 f:bd m=true
 p:∀ x y,0≤x→x<m.w→0≤y→y<m.h→PixV (eZ m x y) mx
def nQ (s:Script):Prop:=∀ i:Int,0≤i→i<s.images.length→ImgV (gV s i) (bg s.bits)
theorem FM {m:Image} {mx x y:Int} (hm:Full mx) (h:ImgV m mx):PixV (cU m x y) mx:=by
 unfold cU;split
 ·exact ta hm
 ·exact h.p x y (by omega) (by omega) (by omega) (by omega)
theorem GM {m:Image} {mx x y dx dy:Int} (hm:Full mx) (h:ImgV m mx):PixV (gr m x y dx dy) mx:=by
 unfold gr;split
 ·exact ta hm
 ·exact FM hm h
theorem Xy {s:Script} {m x y:Int} (hm:Full m) (hmx:bg s.bits=m) (h:nQ s):SmpV m (cY s x y):=by
 subst hmx;have key:∀ o:Op,0≤(cY s x y o).2∧(cY s x y o).2≤bg s.bits:=fun o=>by
  unfold cY;dsimp only;split
  ·have:=GM (x:=x) (y:=y) (dx:=o.maskX) (dy:=o.maskY) hm (h (o.mask - 1) (by omega) (by omega));exact ⟨this.a0,this.am⟩
  ·have:=hm.pos;omega
 refine ⟨fun o => ?_,fun o=>(key o).1,fun o=>(key o).2⟩;unfold cY;dsimp only;split
 ·exact GM hm (h o.image (by omega) (by omega))
 ·exact ta hm
theorem kO {m:Image} (h:bd m=true):1≤m.w∧1≤m.h∧m.w≤16777216∧m.h≤16777216:=by
 have:cK m.w m.h=true:=by
  unfold bd at h;rw [Bool.and_eq_true] at h;exact h.1
 obtain ⟨a,b,_,_,c,d⟩:=dB this;exact ⟨a,b,c,d⟩
theorem rq {r q:Rect} {x y:Int} (hr:aP r=false) (hq:aP q=false):(aP (fF r q)=false∧ic (fF r q) x y)↔ic r x y∧ic q x y:=by
 have ⟨a1,a2⟩:=kC.1 hr;have ⟨b1,b2⟩:=kC.1 hq;have e:fF r q=gv ⟨max r.x0 q.x0,max r.y0 q.y0,min r.x1 q.x1,min r.y1 q.y1⟩:=if_neg (by rw [hr,hq];simp);rw [e];unfold gv;split
 ·rename_i he;constructor
  ·rintro ⟨h,_⟩;rw [show aP ⟨0,0,0,0⟩=true from by decide] at h;cases h
  ·rintro ⟨h1,h2⟩;exfalso;have:aP ⟨max r.x0 q.x0,max r.y0 q.y0,min r.x1 q.x1,min r.y1 q.y1⟩=false:=by
    rw [kC];unfold ic at h1 h2;dsimp only;omega
   rw [this] at he;cases he
 ·rename_i he;rw [Bool.not_eq_true] at he;have key:ic ⟨max r.x0 q.x0,max r.y0 q.y0,min r.x1 q.x1,min r.y1 q.y1⟩ x y↔ic r x y∧ic q x y:=by
   unfold ic;dsimp only;omega
  exact ⟨fun h=>key.1 h.2,fun h=>⟨he,key.2 h⟩⟩
section
variable {s:Script} {x y:Int}
theorem zc {i dx dy : Int} (hc : aP s.canvas = false) (hxy : ic s.canvas x y) (h0 : 0 ≤ i) (h1 : i < s.images.length) (hf : bd (gV s i) = true) (hdx : -1048576 ≤ dx ∧ dx ≤ 1048576) (hdy : -1048576 ≤ dy ∧ dy ≤ 1048576) :
  (aP (eC s i dx dy)=false∧ic (eC s i dx dy) x y)↔(0≤x - dx∧x - dx<(gV s i).w∧0≤y - dy∧y - dy<(gV s i).h):=by
 obtain ⟨w0,h0',w1,h1'⟩:=kO hf;have e:eC s i dx dy=fF ⟨dx,dy,dx+(gV s i).w,dy+(gV s i).h⟩ s.canvas:=by
  unfold eC;rw [if_neg (by omega),if_neg]
  ·rfl
  ·unfold gV at *
   simp only [jD,Bool.or_eq_true,decide_eq_true_eq];omega
 rw [e,rq (by rw [kC];dsimp only;omega) hc];unfold ic at *
 dsimp only;omega
theorem Gi {m:Image} {dx dy:Int} (hf:bd m=true) (h:0≤x - dx∧x - dx<m.w∧0≤y - dy∧y - dy<m.h):gr m x y dx dy=eZ m (x - dx) (y - dy):=by
 obtain ⟨w0,h0',w1,h1'⟩:=kO hf;unfold gr cU;rw [if_neg (by omega),if_neg (by rw [hf];simp;omega)]
theorem CY {m:Image} {dx dy:Int} (h:¬ (0≤x - dx∧x - dx<m.w∧0≤y - dy∧y - dy<m.h)):gr m x y dx dy=bQ:=by
 unfold gr cU;split
 ·rfl
 ·rw [if_pos (by omega)]
end
end
theorem ij (p:Plane):aA Sg 77 [ag (fj p)] (fun r=>r = .b (B (cW p))):=by
 have hf:=iZ p.w p.h;unfold cW;by_cases h:cK p.w p.h=true∧p.w≤p.stride∧p.stride≤16777216
 ·obtain ⟨h1,h2,h3⟩:=h;obtain ⟨b1,b2,b3,b4,b5,b6⟩:=dB h1;have e1:0≤(p.h - 1) * p.stride∧(p.h - 1) * p.stride≤16777216 * 16777216:=⟨ao (by omega) (by omega),az (by omega) (by omega) (by omega) (by omega)⟩
  have g2:decide (p.stride≥p.w)=true:=decide_eq_true h2;have g3:decide (p.stride≤16777216)=true:=decide_eq_true h3;rw [h1] at hf ⊢;refine aD Tryz.func77 [.tmp 2] ?_;repeat' (first|refine an (fun K hK => ?_)|refine aa (hf) ?_|refine ax ?_|(refine aq hK ?_;try clear hK K))
  rfl
 ·refine aD Tryz.func77 [.tmp 2] ?_;repeat' (first|refine an (fun K hK => ?_)|refine aa (hf) ?_|refine ax ?_|(refine aq hK ?_;try clear hK K))
  have hz:(cK p.w p.h && decide (p.stride≥p.w) && decide (p.stride≤16777216))=false:=by
   rw [← Bool.not_eq_true,Bool.and_eq_true,Bool.and_eq_true,decide_eq_true_eq,decide_eq_true_eq];exact fun q=>h ⟨q.1.1,q.1.2,q.2⟩
  rw [hz];rfl
theorem ik {m : Image} {p : Plane} {x y : Int} (hs : m.solid = false) (h : aL m p = true) (hx : 0 ≤ x) (hxm : x < m.w) (hy : 0 ≤ y) (hym : y < m.h) :
  (0≤y * p.stride∧y * p.stride≤16777216 * 16777216)∧0≤y * p.stride+x∧y * p.stride+x<p.s.length∧x≤16777216:=by
 unfold aL cW at h;rw [hs,if_neg (by decide)] at h;simp only [Bool.and_eq_true,decide_eq_true_eq] at h;obtain ⟨⟨⟨⟨⟨hf,h1⟩,h2⟩,h3⟩,h4⟩,h5⟩:=h;obtain ⟨b1,b2,b3,b4,b5,b6⟩:=dB hf;have e1:0≤y * p.stride∧y * p.stride≤16777216 * 16777216:=⟨ao hy (by omega),az (by omega) h2 (by omega) (by omega)⟩
 have e2:y * p.stride≤(p.h - 1) * p.stride:=az (by omega) (Int.le_refl _) (by omega) (by omega);exact ⟨e1,by omega,by omega,by omega⟩
theorem CC (m:Image) (x y:Int) (hf:bd m=true) (hx:0≤x) (hxm:x<m.w) (hy:0≤y) (hym:y<m.h):aA Sg 48 [ag (aI m),I x,I y] (fun r=>r = .b (ag (aS (eZ m x y)))):=by
 unfold eZ;by_cases hs:m.solid=true
 ·rw [if_pos hs];refine aD Tryz.func48 [.cell 6 37] ?_;repeat' (first|refine ah hs ?_|refine aC ?_)
  rfl
 ·rw [if_neg hs];have hs':m.solid=false:=by simpa using hs
  unfold bd at hf;simp only [Bool.and_eq_true] at hf;obtain ⟨_,⟨⟨⟨⟨⟨f0,f1⟩,f2⟩,f3⟩,f4⟩,_⟩⟩:=hf;obtain ⟨a0,b0,c0,d0⟩:=ik hs' f0 hx hxm hy hym;obtain ⟨a1,b1,c1,_⟩:=ik hs' f1 hx hxm hy hym;obtain ⟨a2,b2,c2,_⟩:=ik hs' f2 hx hxm hy hym;obtain ⟨a3,b3,c3,_⟩:=ik hs' f3 hx hxm hy hym;obtain ⟨a4,b4,c4,_⟩:=ik hs' f4 hx hxm hy hym;refine aD Tryz.func48 [.cell 6 37] ?_;repeat' (first|(apply oc;(case hc=>exact bM);(case ht=>(simp only [Int.toNat_natCast,Int.reduceBEq,Int.reduceBNe,Int.reduceLT,Int.reduceLE,decide_true,decide_false,ss,hs'];done)))|refine aC ?_)
  refine aH (X:=Int) (fun k=>aT [(1, .b (I x)),(2, .b (I y)),(3, .b (.c (.ptr 0 0))),(6, .b (.c (.ptr 1 0))),(7, .b (.c (.ptr 2 0))),(8, .b (I k))]
   [(0, .fix ((aI m).map CV.p)),(1, .fix ((aS bQ).map CV.p)),(2, .fix [.p (PI (if 0<k then y * m.p0.stride+x else 0)), .p (PI (if 1<k then y * m.p1.stride+x else 0)), .p (PI (if 2<k then y * m.p2.stride+x else 0)), .p (PI (if 3<k then y * m.p3.stride+x else 0)), .p (PI (if 4<k then y * m.p4.stride+x else 0))])] 3) (fun k=>0≤k∧k≤5) (fun k=>(5 - k).toNat) 0 ?_ ?_ ?_
  ·omega
  ·refine au [(1,some 1),(2,some 2)] ?_ ?_;and_intros;all_goals try exact aj
  ·intro k hk;have hkv:k=0∨k=1∨k=2∨k=3∨k=4∨k=5:=by omega
   rcases hkv with rfl|rfl|rfl|rfl|rfl|rfl
   ·repeat' (first|(apply gw;(case hc=>exact bM);(case ht=>(simp only [Int.toNat_natCast,Int.reduceBEq,Int.reduceBNe,Int.reduceLT,Int.reduceLE,decide_true,decide_false,ss,hs'];done)))|refine aC ?_)
    rw [ae];refine ak 1 ?_ (by omega) (by decide);refine au [(1,some 1),(2,some 2)] ?_ ?_;and_intros;all_goals try exact aj
   ·repeat' (first|(apply gw;(case hc=>exact bM);(case ht=>(simp only [Int.toNat_natCast,Int.reduceBEq,Int.reduceBNe,Int.reduceLT,Int.reduceLE,decide_true,decide_false,ss,hs'];done)))|refine aC ?_)
    rw [ae];refine ak 2 ?_ (by omega) (by decide);refine au [(1,some 1),(2,some 2)] ?_ ?_;and_intros;all_goals try exact aj
   ·repeat' (first|(apply gw;(case hc=>exact bM);(case ht=>(simp only [Int.toNat_natCast,Int.reduceBEq,Int.reduceBNe,Int.reduceLT,Int.reduceLE,decide_true,decide_false,ss,hs'];done)))|refine aC ?_)
    rw [ae];refine ak 3 ?_ (by omega) (by decide);refine au [(1,some 1),(2,some 2)] ?_ ?_;and_intros;all_goals try exact aj
   ·repeat' (first|(apply gw;(case hc=>exact bM);(case ht=>(simp only [Int.toNat_natCast,Int.reduceBEq,Int.reduceBNe,Int.reduceLT,Int.reduceLE,decide_true,decide_false,ss,hs'];done)))|refine aC ?_)
    rw [ae];refine ak 4 ?_ (by omega) (by decide);refine au [(1,some 1),(2,some 2)] ?_ ?_;and_intros;all_goals try exact aj
   ·repeat' (first|(apply gw;(case hc=>exact bM);(case ht=>(simp only [Int.toNat_natCast,Int.reduceBEq,Int.reduceBNe,Int.reduceLT,Int.reduceLE,decide_true,decide_false,ss,hs'];done)))|refine aC ?_)
    rw [ae];refine ak 5 ?_ (by omega) (by decide);refine au [(1,some 1),(2,some 2)] ?_ ?_;and_intros;all_goals try exact aj
   ·repeat' (first|(apply oc;(case hc=>exact bM);(case ht=>(simp only [Int.toNat_natCast,Int.reduceBEq,Int.reduceBNe,Int.reduceLT,Int.reduceLE,decide_true,decide_false,ss,hs'];done)))|refine aC ?_)
    rfl
theorem Fb (m:Image) (x y:Int) (hF:aA Sg 54 [ag (aI m)] (fun r=>r = .b (B (bd m)))):aA Sg 28 [ag (aI m),I x,I y] (fun r=>r = .b (ag (aS (cU m x y)))):=by
 unfold cU;by_cases h:bd m=false∨x<0∨m.w≤x∨y<0∨m.h≤y
 ·rw [if_pos h];have g:(!bd m || decide (x<0) || decide (x≥m.w) || decide (y<0) || decide (y≥m.h))=true:=by
   simp only [Bool.or_eq_true,Bool.not_eq_true',decide_eq_true_eq];rcases h with h|h|h|h|h
   ·exact .inl (.inl (.inl (.inl h)))
   ·exact .inl (.inl (.inl (.inr h)))
   ·exact .inl (.inl (.inr h))
   ·exact .inl (.inr h)
   ·exact .inr h
  refine aD Tryz.func28 [.cell 6 37] ?_;repeat' (first|refine ah g ?_|refine ax ?_|refine an (fun K hK => ?_)|refine aa (hF) ?_|(refine aq hK ?_;try clear hK K))
  rfl
 ·rw [if_neg h];have hf:bd m=true:=by rw [← Bool.not_eq_false];exact fun q=>h (.inl q)
  have hp:=CC m x y hf (by omega) (by omega) (by omega) (by omega);rw [hf] at hF;have g1:decide (x<0)=false:=decide_eq_false (by omega);have g2:decide (x≥m.w)=false:=decide_eq_false (by omega);have g3:decide (y<0)=false:=decide_eq_false (by omega);have g4:decide (y≥m.h)=false:=decide_eq_false (by omega);generalize eZ m x y=p at *
  refine aD Tryz.func28 [.cell 6 37] ?_;repeat' (first|refine ah (And.intro g1 (And.intro g2 (And.intro g3 g4))) ?_|refine ax ?_|refine an (fun K hK => ?_)|refine aa (hF) ?_|refine aa (hp) ?_|(refine aq hK ?_;try clear hK K))
  rfl
section
attribute [local go_sem] qE ks
theorem Lf (op mode m cs sl cb ab : Int) (hm : Full m) (ho : 1 ≤ op ∧ op ≤ 12) (hmo : 1 ≤ mode ∧ mode ≤ 12) (hs : Pre cs sl m) (hd : Pre cb ab m) :
  aA Sg 221 [I op,I mode,U m,U cs,U sl,U cb,U ab] (fun r=>r = .tup [ag (ks (dp op mode m cs sl cb ab)),B true]):=by
 have hok:=kK (op:=op) (mode:=mode) hm hs hd;have ht:=kk (mode:=mode) hm hs hd;obtain ⟨s0,sa,am⟩:=hs;obtain ⟨d0,db,bm⟩:=hd;have hle:=hm.le;have hp:=hm.pos;have hb:=Cx mode cs sl cb ab hmo ⟨s0,sa,by omega,d0,db,by omega⟩;have hf:=xA op sl ab m hm ho (by omega) am (by omega) bm;have hu:=pJ m;rw [show decide (m=255∨m=65535)=true from decide_eq_true hm.h] at hu;have ⟨a1,a2⟩:=ki (op:=op) (a:=sl) (b:=ab) (m:=m) (by omega) am (by omega) bm;have ⟨b1,b2⟩:=lJ (op:=op) (a:=sl) (b:=ab) (m:=m) (by omega) am (by omega) bm;obtain ⟨k1,k2,k3,k4,k5,k6,k7,k8,_⟩:=hok;obtain ⟨t0,t1,t2,t3,t4,t5,t6,t7,_⟩:=ht;unfold dp at *
 dsimp only at k1 k2 k3 k4 k5 k6 k7 k8;generalize aR mode cs sl cb ab=T at *
 generalize jl op sl ab m=fa at *
 generalize jY op sl ab m=fb at *
 have e1:0≤(m - ab) * cs∧(m - ab) * cs≤65535 * 65535:=⟨ao (by omega) (by omega),az (by omega) (by omega) (by omega) (by omega)⟩
 have e2:0≤fb * cb∧fb * cb≤65535 * 65535:=⟨ao (by omega) (by omega),az (by omega) (by omega) (by omega) (by omega)⟩
 have e3:0≤m * m∧m * m≤65535 * 65535:=⟨ao (by omega) (by omega),az (by omega) (by omega) (by omega) (by omega)⟩
 have e4:0≤(m - ab) * cs * fa∧(m - ab) * cs * fa≤65535 * 65535 * 65535:=⟨ao e1.1 (by omega),az e1.2 (by omega) (by omega) (by omega)⟩
 have e5:0≤(m - ab) * cs * fa * T.d∧(m - ab) * cs * fa * T.d≤65535 * 65535 * 65535 * 4294836225:=⟨ao e4.1 (by omega),az e4.2 (by omega) (by omega) (by omega)⟩
 have e6:0≤fb * cb * m∧fb * cb * m≤65535 * 65535 * 65535:=⟨ao e2.1 (by omega),az e2.2 (by omega) (by omega) (by omega)⟩
 have e7:0≤fb * cb * m * T.d∧fb * cb * m * T.d≤65535 * 65535 * 65535 * 4294836225:=⟨ao e6.1 (by omega),az e6.2 (by omega) (by omega) (by omega)⟩
 have e8:0≤T.p * fa:=ao t0 a1;have e9:0≤fa * T.q∧fa * T.q≤65535 * 65535:=⟨ao (by omega) (by omega),az (by omega) (by omega) (by omega) (by omega)⟩
 have w1:=oK T.p fa t0 ⟨by omega,by omega⟩ (by omega);have w2:=pb ((m - ab) * cs) fa T.d ⟨by omega,by omega⟩ ⟨by omega,by omega⟩ ⟨by omega,by omega⟩ (by omega);have w3:=pb (fb * cb) m T.d ⟨by omega,by omega⟩ ⟨by omega,by omega⟩ ⟨by omega,by omega⟩ (by omega);have w4:=mZ (T.p * fa) ((m - ab) * cs * fa * T.d) e8 e5.1 (by omega);have w5:=mZ (T.p * fa+(m - ab) * cs * fa * T.d) (fb * cb * m * T.d) (by omega) e7.1 (by omega);have htt:True:=trivial;refine aD Tryz.func221 [.cell 14 253, .tmp 15] ?_;repeat' (first|refine ah htt ?_|refine ax ?_|refine an (fun K hK => ?_)|refine aa (hb) ?_|refine aa (hf) ?_|refine aw (fun hg=>hu) ?_|refine aa (w1) ?_|refine aa (w2) ?_|refine aa (w3) ?_|refine aa (w4) ?_|refine aa (w5) ?_|(refine aq hK ?_;try clear hK K))
 rfl
theorem vy (op mode m cs sl cb ab : Int) (hm : Full m) (ho : 1 ≤ op ∧ op ≤ 12) (hmo : 1 ≤ mode ∧ mode ≤ 12) (hs : Pre cs sl m) (hd : Pre cb ab m) :
  aA Sg 205 [I op,I mode,U m,U cs,U sl,U cb,U ab] (fun r=>r = .tup [U (dN op mode m cs sl cb ab),B true]):=by
 have hok:=kK (op:=op) (mode:=mode) hm hs hd;have hv:=Lf op mode m cs sl cb ab hm ho hmo hs hd;have hh:=pN _ hok;have hl:=oE (op:=op) (mode:=mode) hm hs hd;have hl2:=oM (op:=op) (a:=sl) (b:=ab) hm (by have:=hs.s0;have:=hs.sa;omega) hs.am (by have:=hd.s0;have:=hd.sa;omega) hd.am;have hn:=(lI hok).2.2;have hle:=hm.le;have htt:True:=trivial;have hw:IntKind.u16.wrap (hx (dp op mode m cs sl cb ab))=dN op mode m cs sl cb ab:=gD hn (by unfold dN at hl;omega);refine aD Tryz.func205 [.tmp 14, .tmp 15] ?_;repeat' (first|refine ah htt ?_|refine ax ?_|refine an (fun K hK => ?_)|refine aa (hv) ?_|refine aa (hh) ?_|(refine aq hK ?_;try clear hK K))
 rw [hw]
theorem sJ (mode m cs sl fs c cb ab : Int) (hm : Full m) (hmo : 1 ≤ mode ∧ mode ≤ 12) (hs : Pre cs sl m) (hd : Pre cb ab m) (hf : sl ≤ fs) (hfm : fs ≤ m) (hc : 0 ≤ c) (hcm : c ≤ m) :
  aA Sg 204 [I mode,U m,U cs,U sl,U fs,U c,U cb,U ab] (fun r=>r = .tup [U (dE mode m cs sl fs c cb ab),B true]):=by
 have hok:=oj (mode:=mode) hm hs hd hf hfm hc hcm;have hkl:=oe (mode:=mode) (acc:=m) hm hs hd hf hfm hc hcm (Int.le_refl _);have ht:=kk (mode:=mode) hm hs hd;have hh:=pN _ hok;have hn:=(lI hok).2.2;obtain ⟨s0,sa,am⟩:=hs;obtain ⟨d0,db,bm⟩:=hd;have hle:=hm.le;have hp:=hm.pos;have hb:=Cx mode cs sl cb ab hmo ⟨s0,sa,by omega,d0,db,by omega⟩;have hi:=lB mode;rw [lK hmo] at hi;have hu:=pJ m;rw [show decide (m=255∨m=65535)=true from decide_eq_true hm.h] at hu;have g1:decide (cs>sl)=false:=decide_eq_false (by omega);have g2:decide (sl>fs)=false:=decide_eq_false (by omega);have g3:decide (fs>m)=false:=decide_eq_false (by omega);have g4:decide (cb>ab)=false:=decide_eq_false (by omega);have g5:decide (ab>m)=false:=decide_eq_false (by omega);have g6:decide (c>m)=false:=decide_eq_false (by omega);have hka:dA m sl fs m ab≤m:=(kA hm (by omega) hf hfm (by omega) (Int.le_refl _) (by omega) bm).2;have hw:IntKind.u16.wrap (dE mode m cs sl fs c cb ab)=dE mode m cs sl fs c cb ab:=gD hn (by omega);obtain ⟨k1,k2,k3,k4,k5,k6,k7,k8,_⟩:=hok;obtain ⟨t0,t1,t2,t3,t4,t5,t6,t7,_⟩:=ht;unfold dE at *
 unfold fe at *
 dsimp only at k1 k2 k3 k4 k5 k6 k7 k8;generalize aR mode cs sl cb ab=T at *
 have e1:0≤(m - fs) * c∧(m - fs) * c≤65535 * 65535:=⟨ao (by omega) (by omega),az (by omega) (by omega) (by omega) (by omega)⟩
 have e2:0≤(fs - sl) * cb∧(fs - sl) * cb≤65535 * 65535:=⟨ao (by omega) (by omega),az (by omega) (by omega) (by omega) (by omega)⟩
 have e3:0≤(m - ab) * cs∧(m - ab) * cs≤65535 * 65535:=⟨ao (by omega) (by omega),az (by omega) (by omega) (by omega) (by omega)⟩
 have w1:=xK ((m - fs) * c+(fs - sl) * cb+(m - ab) * cs) T.d ⟨by omega,by omega⟩ ⟨by omega,by omega⟩;have w2:=mZ T.p (((m - fs) * c+(fs - sl) * cb+(m - ab) * cs) * T.d) t0 (ao (by omega) (by omega)) (by omega);refine aD Tryz.func204 [.tmp 16, .tmp 17] ?_;repeat' (first|refine ah (And.intro g1 (And.intro g2 (And.intro g3 (And.intro g4 (And.intro g5 g6))))) ?_|refine ax ?_|refine an (fun K hK => ?_)|refine aa (hi) ?_|refine aw (fun hg=>hu) ?_|refine aa (hb) ?_|(refine aq hK ?_;try clear hK K))
 refine fw (id:=6) (.br 0 (.br 1 (.br 2 (.br 3 (.br 4 (.br 5 (.br 6 (.br 7 (.br 8 (.br 9 (.br 10 (.br 11 (.br 12 .leaf .nil) .nil) .nil) .nil) .nil) .nil) .nil) .nil) .nil) .nil) .nil) .nil) .nil) (by decide +kernel) dK (fun K0 hW => ?_);refine (fun (tl:∀ st,Le st (aT [(18, .b (.c (.ptr 0 0))),(20, .b (cm m)),(23, .b (.c (.ptr 1 0)))] [(0, .fix ((ks T).map CV.p)),(1, .fix ((qE (T.p+((m - fs) * c+(fs - sl) * cb+(m - ab) * cs) * T.d)).map CV.p))] 2)→K0 st) => ?_) (fun st hl=>hW st _ hl ?_)
 ·clear hW;repeat' (first|exact cg|(refine cH (fun K' hK' => ?_) ?_)|(refine bJ (tl _ ?_);clear tl)|((first|refine aa (w1) ?_|refine aa (w2) ?_);(try simp (maxSteps:=999999)(disch:=omega) only [go_sem]);and_intros;(all_goals first|(refine hK' _ ?_;clear hK' K')|trivial|omega|exact Nat.le_of_ble_eq_true rfl|exact ai|skip))|(simp (maxSteps:=999999)(disch:=omega) only [go_sem];and_intros;(all_goals first|(refine hK' _ ?_;clear hK' K')|trivial|omega|exact Nat.le_of_ble_eq_true rfl|exact ai|skip)))
  all_goals
   refine au [(1,some 1)] ?_ ?_;and_intros;all_goals try exact aj
 clear hW;repeat' (first|with_reducible exact bq|refine an (fun K hK => ?_)|refine aa (hh) ?_|refine ax ?_|(refine aq hK ?_;try clear hK K))
theorem yz (m a f acc b : Int) (hm : Full m) (ha : 0 ≤ a) (haf : a ≤ f) (hfm : f ≤ m) (h1 : 0 ≤ acc) (h2 : acc ≤ m) (h3 : 0 ≤ b) (h4 : b ≤ m) :
  aA Sg 206 [U m,U a,U f,U acc,U b] (fun r=>r = .tup [U (dA m a f acc b),B true]):=by
 have hle:=hm.le;have hp:=hm.pos;have hbd:=kA hm ha haf hfm h1 h2 h3 h4;have hu:=pJ m;rw [show decide (m=255∨m=65535)=true from decide_eq_true hm.h] at hu;have g1:decide (a>f)=false:=decide_eq_false (by omega);have g2:decide (f>m)=false:=decide_eq_false (by omega);have g3:decide (acc>m)=false:=decide_eq_false (by omega);have g4:decide (b>m)=false:=decide_eq_false (by omega);have e1:0≤(m - f) * acc∧(m - f) * acc≤65535 * 65535:=⟨ao (by omega) (by omega),az (by omega) (by omega) (by omega) (by omega)⟩
 have e2:0≤(f - a) * b∧(f - a) * b≤65535 * 65535:=⟨ao (by omega) (by omega),az (by omega) (by omega) (by omega) (by omega)⟩
 have e3:0≤m * a∧m * a≤65535 * 65535:=⟨ao (by omega) (by omega),az (by omega) (by omega) (by omega) (by omega)⟩
 have hh:=jz ((m - f) * acc+(f - a) * b+m * a) m ⟨by omega,by omega⟩ ⟨by omega,by omega⟩;have hw:IntKind.u16.wrap (bV ((m - f) * acc+(f - a) * b+m * a) m)=dA m a f acc b:=gD hbd.1 (Int.le_trans hbd.2 hle);refine aD Tryz.func206 [.tmp 10, .tmp 11] ?_;repeat' (first|refine ah (And.intro g1 (And.intro g2 (And.intro g3 g4))) ?_|refine ax ?_|refine an (fun K hK => ?_)|refine aa (hu) ?_|refine aa (hh) ?_|(refine aq hK ?_;try clear hK K))
 rw [hw]
theorem Hz (m a f acc : Int) (hm : Full m) (ha : 0 ≤ a) (haf : a ≤ f) (hfm : f ≤ m) (h1 : 0 ≤ acc) (h2 : acc ≤ m) :
  aA Sg 207 [U m,U a,U f,U acc] (fun r=>r = .tup [U (dA m a f acc 0),B true]):=by
 have h:=yz m a f acc 0 hm ha haf hfm h1 h2 (Int.le_refl _) (Int.le_of_lt hm.pos);refine aD Tryz.func207 [.tmp 8, .tmp 9] ?_;repeat' (first|with_reducible exact bq|refine an (fun K hK => ?_)|refine aa (h) ?_|refine ax ?_|(refine aq hK ?_;try clear hK K))
end
end Go.Proofs.YtcbifofjjpfbcaaGreatDoor
