/- Part of the proof: D8, D9, DB, DC, RP, JC, VH, RK, VI, VJ, H6, Y5. -/
import Derived.Test.YtdjmpacladhijaaGreatDoorM12
import Derived.Test.YtdjmpacladhijaaGreatDoorM27
set_option linter.unusedSimpArgs false
set_option linter.unusedVariables false
set_option maxHeartbeats 4000000
set_option maxRecDepth 16000
namespace Go.Proofs.YtdjmpacladhijaaGreatDoor
open Go Go.SL
open Go.RowKit (wrap64)
section
attribute [local go_sem] Int.toNat_natCast lC jV
theorem nY {sz n:Nat} {f g:Nat→Nat→PV} (h:∀ i,i<n→∀ j,j<sz→PV.le (f i j) (g i j)):PV.le (.lst sz n f) (.lst sz n g):=fun _ _ u hu=>by
 obtain ⟨a,c,e,hn,hb⟩:=hu;refine ⟨a,c,e,hn,fun h0 => ?_⟩;obtain ⟨b,o,ha,hok,hc⟩:=hb h0;refine ⟨b,o,ha,hok,fun i hi j hj => ?_⟩;obtain ⟨x,h1,h2,h3⟩:=hc i hi j hj;exact ⟨x,h1,h2,h i hi j hj _ _ _ h3⟩
theorem a1r {l junk:List Nat} {a:Nat} (h:a<l.length):Lb l junk a=l.reverse.getD a 0:=by rw [Lb,List.getD_eq_getElem?_getD,List.getD_eq_getElem?_getD,List.getElem?_append_left (by simpa using h)]
theorem Ha (a b:List Op) (ha:a.length≤4096) (hb:b.length≤4096):aB Sg 97 [.c (.p (kU a)), .c (.p (kU b))] (fun x=>x = .tup [I (nM a b),I (yT a b (nM a b))]):=by
 refine az Tryz.func97 [.tmp 4, .tmp 5] ?_;repeat' (refine aC ?_)
 refine aK (X:=Nat) (fun k=>aP [(0, .b (.c (.p (kU a)))),(1, .b (.c (.p (kU b)))),(4, .b (I k)),(5, .b (I 0))] [] 1)
  (fun k=>k≤a.length∧nM a b=rb (fun k=>decide (k<a.length∧k<b.length∧ah a k=ah b k)) (a.length - k) k) (fun k=>a.length - k) 0 ?_ ?_ ?_
 ·exact ⟨Nat.zero_le _,rfl⟩
 ·refine ar [] ?_ ?_;and_intros;all_goals try exact ak
 ·rintro k ⟨hk,hp⟩
  repeat' (first|refine aC ?_|(refine aH (fun hb => ?_) (fun hb => ?_) <;> try exact ax))
  ·have hP:decide (k<a.length∧k<b.length∧ah a k=ah b k)=true:=by
    simp only [decide_eq_true_eq];obtain ⟨_,e1,e2,e3,e4,e5,e6,e7,e8,e9,e10,e11,e12,_⟩:=hb;exact ⟨by omega,by omega,GZ.2 ⟨e1,e2,e3,e4,e5,e6,e7,e8,e9,e10,e11,e12⟩⟩
   rw [dJ,ae];refine ao (k+1) ?_ ⟨by omega, ?_⟩ (by omega)
   ·refine ar [] ?_ ?_;and_intros;all_goals try exact ak
   ·rw [hp,te (by omega),if_pos hP]
  ·have hfin:nM a b=k:=by
    rw [hp];rcases Nat.lt_or_ge k a.length with hka|hka
    ·rw [te hka,if_neg];simp only [decide_eq_true_eq];rintro ⟨q1,q2,q3⟩;obtain ⟨e1,e2,e3,e4,e5,e6,e7,e8,e9,e10,e11,e12⟩:=GZ.1 q3;exact absurd (hb ⟨by omega,by omega⟩ e1 e2 e3 e4 e5 e6 e7 e8 e9 e10 e11 e12) (by simp)
    ·rw [show a.length - k=0 by omega];rfl
   have hpl:=Va a b;rw [hfin] at hpl;rw [hfin];clear hb hp hk;refine aK (X:=Nat) (fun j=>aP [(0, .b (.c (.p (kU a)))),(1, .b (.c (.p (kU b)))),(4, .b (I k)),(5, .b (I j))] [] 1)
    (fun j=>j≤a.length∧yT a b k=rb (fun j=>decide (k+j<a.length∧k+j<b.length∧ah a (a.length - 1 - j)=ah b (b.length - 1 - j))) (a.length - j) j) (fun j=>a.length - j) 0 ?_ ?_ ?_
   ·exact ⟨Nat.zero_le _,rfl⟩
   ·refine ar [] ?_ ?_;and_intros;all_goals try exact ak
   ·rintro j ⟨hj,hs⟩;have ia:((a.length:Int) - 1 - (j:Int)).toNat=a.length - 1 - j:=by omega
    have ib:((b.length:Int) - 1 - (j:Int)).toNat=b.length - 1 - j:=by omega
    repeat' (first|refine aC ?_|(refine aH (fun hb => ?_) (fun hb => ?_) <;> try exact ax))
    ·rw [ia,ib] at hb;obtain ⟨_,e1,e2,e3,e4,e5,e6,e7,e8,e9,e10,e11,e12,_⟩:=hb;rw [dJ,ae];refine ao (j+1) ?_ ⟨by omega, ?_⟩ (by omega)
     ·refine ar [] ?_ ?_;and_intros;all_goals try exact ak
     ·rw [hs,te (by omega),if_pos];simp only [decide_eq_true_eq];exact ⟨by omega,by omega,GZ.2 ⟨e1,e2,e3,e4,e5,e6,e7,e8,e9,e10,e11,e12⟩⟩
    ·have hfin2:yT a b k=j:=by
      rw [hs];rcases Nat.lt_or_ge j a.length with hka|hka
      ·rw [te hka,if_neg];simp only [decide_eq_true_eq];rintro ⟨q1,q2,q3⟩;rw [ia,ib] at hb;obtain ⟨e1,e2,e3,e4,e5,e6,e7,e8,e9,e10,e11,e12⟩:=GZ.1 q3;exact absurd (hb ⟨by omega,by omega⟩ e1 e2 e3 e4 e5 e6 e7 e8 e9 e10 e11 e12) (by simp)
      ·rw [show a.length - j=0 by omega];rfl
     first|rw [hfin,hfin2]|rw [hfin2]
theorem Oz (s:Script) (V:VOps s) (p:Nat) (hp:p≤s.ops.length):aB Sg 155 [.c (.p (kU s.ops)),I p] (fun x=>x = .b (.c (.p (fL (bE s.ops p).length (fun a=>(bE s.ops p).reverse.getD a 0))))):=by
 have hn:=V.cnt;have W:=V.wf;refine bo ?_;refine az Tryz.func155 [.tmp 4] ?_;repeat' (refine aC ?_)
 refine aK (X:=Nat × List Nat) (fun x=>aP [(4, .b (.c (.p (.val (.slice none 0 0))))),(5, .b (.c (.own 1 (bE s.ops x.1).length))),(10, .b (.c (.p (.lst 12 p (aQ cC s.ops))))),(11, .b (I p)),(12, .b (I x.1))]
  [(1, .arr 3 1 ((bE s.ops x.1).length+x.2.length) (fun a _=>PI (Lb (bE s.ops x.1) x.2 a)))] 2) (fun x=>x.1≤p) (fun x=>p - x.1) (0,[]) ?_ ?_ ?_
 ·exact Nat.zero_le _
 ·refine ar [(1,none)] ?_ ?_;and_intros;all_goals try exact ak
  rw [Nat.sub_zero];refine .inr (nY fun i hi j hj => ?_);rw [Nat.zero_add];exact fun _ _ _ h=>h
 ·rintro ⟨i,junk⟩ hi;dsimp only at hi ⊢;have hsl:=sO s.ops i;rcases Nat.lt_or_ge i p with hlt|hge
  ·rcases W.kinds i (by omega) with hk|hk|hk
   ·have hk2:(s.ops.getD i default).kind=1:=hk
    repeat' (first|refine aj hk2 ?_|refine aC ?_|(refine aH (fun hb => ?_) (fun hb => ?_) <;> try exact ax))
    rw [ae];refine ao (i+1,junk) ?_ (by dsimp only;omega) (by dsimp only;omega);dsimp only;rw [ec hk];refine ar [(1,some 1)] ?_ ?_;and_intros;all_goals try exact ak
   ·have hk2:(s.ops.getD i default).kind=2:=hk
    repeat' (first|refine aj hk2 ?_|refine aC ?_|(refine aH (fun hb => ?_) (fun hb => ?_) <;> try exact ax))
    rw [ae];refine ao (i+1,[]) ?_ (by dsimp only;omega) (by dsimp only;omega);dsimp only;rw [dv hk];refine ar [(1,some 4)] ?_ ?_;and_intros;all_goals try exact ak
    refine .inr fun a ha j hj => ?_;have h2:j=0:=by omega
    subst h2;unfold dV;by_cases h:a<(bE s.ops i).length
    ·rw [if_pos h,FH h];exact fun _ _ _ h=>h
    ·have ea:a=(bE s.ops i).length:=by omega
     rw [if_neg h,ea,lC,Nat.sub_self];exact fun _ _ _ h=>h
   ·have hk2:(s.ops.getD i default).kind=3:=hk;cases hs:bE s.ops i with
    | nil=>exact absurd hs (W.pops i (by omega) hk)
    | cons q t =>
     have htl:t.length≤4096:=by rw [hs] at hsl;simp at hsl;omega
     repeat' (first|refine aj hk2 ?_|refine aC ?_|(refine aH (fun hb => ?_) (fun hb => ?_) <;> try exact ax))
     rw [ae];refine ao (i+1,q :: junk) ?_ (by dsimp only;omega) (by dsimp only;omega);dsimp only;rw [eI hk,hs];refine ar [(1,some 1)] ?_ ?_;and_intros;all_goals try exact ak
     ·show _=t.length+(junk.length+1);omega
     ·exact .inl (by rw [Eo];rfl)
  ·have hi2:i=p:=by omega
   subst hi2
   repeat' (first|refine aC ?_|(refine aH (fun hb => ?_) (fun hb => ?_) <;> try exact ax))
   rw [if_pos (by omega)];refine ⟨trivial, ?_⟩;refine fR (fg (nY fun a ha x hx => ?_));rw [a1r ha];exact fun _ _ _ h=>h
theorem LB (s t:Script) (hs:ScriptLen s) (ht:ScriptLen t):aB Sg 96 [ag (ay s),ag (ay t)] (fun x=>x = .b (B (Ae s t))):=by
 obtain ⟨h1,h2,h3⟩:=id hs;obtain ⟨t1,t2,t3⟩:=id ht;refine az Tryz.func96 [.tmp 4] ?_
 repeat' (first|refine aC ?_|(refine aH (fun hb => ?_) (fun hb => ?_) <;> try exact ax))
 ·rw [Ae,decide_eq_false,Bool.false_and];rintro ⟨e1,e2,e3⟩;rw [e2] at hb;rcases hb with (h|h)|h
  ·exact h e1
  ·exact absurd (h rfl rfl rfl rfl) (by simp)
  ·exact h (by rw [e3])
 have hh:s.bits=t.bits∧s.canvas=t.canvas∧s.images.length=t.images.length:=⟨hb.1.1,HO hb.1.2.1 hb.1.2.2.1 hb.1.2.2.2.1 hb.1.2.2.2.2.1,by omega⟩
 refine aK (X:=Nat) (fun i=>aP [(2, .b (.c (.ptr 0 0))),(3, .b (.c (.ptr 1 0))),(4, .b (B false)),(29, .b (.c (.p (qq s.images)))),(30, .b (I s.images.length)),(31, .b (I i))] [(0, .fix ((ay s).map CV.p)),(1, .fix ((ay t).map CV.p))] 2)
  (fun i=>i≤s.images.length∧∀ j,j<i→(s.images.getD j default).w=(t.images.getD j default).w∧(s.images.getD j default).h=(t.images.getD j default).h) (fun i=>s.images.length - i) 0 ?_ ?_ ?_
 ·exact ⟨Nat.zero_le _,fun j hj=>absurd hj (Nat.not_lt_zero _)⟩
 ·refine ar [(1,some 1)] ?_ ?_;and_intros;all_goals try exact ak
 ·rintro i ⟨hi,hp⟩;have hl:=hh.2.2
  repeat' (first|refine aC ?_|(refine aH (fun hb => ?_) (fun hb => ?_) <;> try exact ax))
  ·rw [Ae,List.all_eq_false.2,Bool.and_false];refine ⟨i,List.mem_range.2 (by omega), ?_⟩;simp only [decide_eq_true_eq];omega
  ·rw [ae];refine ao (i+1) ?_ ⟨by omega,fun j hj => ?_⟩ (by omega)
   ·refine ar [(1,some 1)] ?_ ?_;and_intros;all_goals try exact ak
   ·by_cases e:j=i
    ·rw [e];omega
    ·exact hp j (by omega)
  ·rw [Ae,decide_eq_true hh,Bool.true_and,List.all_eq_true.2];intro j hj;rw [decide_eq_true_eq];exact hp j (by have:=List.mem_range.1 hj;omega)
end
section
attribute [local go_sem] Int.toNat_natCast Aq
theorem wo (s : Script) (V : VOps s) (hs : ScriptLen s) (p q : Nat) (h : p + q ≤ s.ops.length) :
  gC Sg 98 [ag (ay s),I p,I q] 35 4 (fk s p q).length (aQ aS (fk s p q)):=by
 have hn:=V.cnt;have W:=V.wf;have hb:=Bl s V hs;have ho:=Oz s V p (by omega);have hsl:=sO s.ops p;refine wY Tryz.func98 rfl (rs:=[.tmp 6]) rfl rfl dI (by decide +kernel) (Nat.le_of_ble_eq_true rfl) (bN ba) ?_;have hw:=eK (n:=(s.ops.length:Int) - (q:Int)) (by omega) (by omega);have hm0:((s.ops.length:Int) - (q:Int)).toNat - (p:Int).toNat=s.ops.length - q - p:=by omega
 repeat' (first|refine aw ?_|refine an (fun K hK => ?_)|refine aa (hb) ?_|refine aa (ho) ?_|(refine aq hK ?_;try clear hK K))
 have hT1:∀ a,a<s.ops.length - q - p→(fk s p q).getD a default=dr s (p+a):=fun a ha=>by
  rw [fk,List.getD_eq_getElem?_getD,List.getElem?_append_left (by simpa using ha)];simp [ha]
 have hT2:∀ i,i<(bE s.ops p).length→(fk s p q).getD (s.ops.length - q - p+i) default=dr s ((bE s.ops p).reverse.getD i 0):=fun i hi=>by
  rw [fk,List.getD_eq_getElem?_getD,List.getElem?_append_right (by simp)];simp only [List.length_map,List.length_range',Nat.add_sub_cancel_left,List.getElem?_map,List.getD_eq_getElem?_getD];rw [List.getElem?_eq_getElem (by simpa using hi)];rfl
 have hTl:(fk s p q).length=s.ops.length - q - p+(bE s.ops p).length:=by simp [fk]
 have hlt:∀ i,i<(bE s.ops p).length→(bE s.ops p).reverse.getD i 0<s.ops.length:=fun i hi=>by
  have hm:(bE s.ops p).reverse.getD i 0 ∈ bE s.ops p:=by
   rw [List.getD_eq_getElem?_getD,List.getElem?_eq_getElem (by simpa using hi)];exact List.mem_reverse.1 (List.getElem_mem _)
  have:=ej hm;omega
 refine aK (X:=Nat) (fun i=>aP [(6, .b (.c (.p (.val (.slice none 0 0))))),(7, .b (.c (.p (Aq s.ops.length (dr s))))),(9, .b (.c (.own 1 (s.ops.length - q - p+i)))),(28, .b (.c (.p (fL (bE s.ops p).length (fun a=>(bE s.ops p).reverse.getD a 0))))),(29, .b (I (bE s.ops p).length)),(30, .b (I i))]
  [(1, .arr 35 4 (s.ops.length - q - p+i) (aQ aS (fk s p q)))] 2) (fun i=>i≤(bE s.ops p).length) (fun i=>(bE s.ops p).length - i) 0 ?_ ?_ ?_
 ·exact Nat.zero_le _
 ·refine ar [(1,some 1)] ?_ ?_;and_intros;all_goals try exact ak
  refine .inr fun a ha j hj => ?_;rw [hT1 a (by omega)];exact fun _ _ _ h=>h
 ·intro i hi;rcases Nat.lt_or_ge i (bE s.ops p).length with hil|hge
  ·have hlti:=hlt i hil
   repeat' (first|refine aC ?_|(refine aH (fun hb => ?_) (fun hb => ?_) <;> try exact ax))
   rw [ae];refine ao (i+1) ?_ (by omega) (by omega);refine ar [(1,some 3)] ?_ ?_;and_intros;all_goals try exact ak
   refine .inr fun a ha j hj => ?_;unfold dV;by_cases h:a<s.ops.length - q - p+i
   ·rw [if_pos h];exact fun _ _ _ h=>h
   ·have ea:a=s.ops.length - q - p+i:=by omega
    rw [if_neg h,ea,Nat.sub_self,hT2 i hil];have hivl:j=0∨j=1∨j=2∨j=3:=by omega
    rcases hivl with rfl|rfl|rfl|rfl <;> exact fun _ _ _ h=>h
  ·have hi2:i=(bE s.ops p).length:=by omega
   subst hi2
   repeat' (first|refine aC ?_|(refine aH (fun hb => ?_) (fun hb => ?_) <;> try exact ax))
   rw [← hTl];refine ⟨_,rfl,rfl,fun a ha j hj => ?_⟩;have hivl:j=0∨j=1∨j=2∨j=3:=by omega
   rcases hivl with rfl|rfl|rfl|rfl <;> exact ⟨_,rfl,rfl⟩
theorem a3X {A B:List Rect}:∀ i,i<(A ++ B).length→∀ j,j<4→dV A.length (aQ aS A) (aQ aS B) i j=aQ aS (A ++ B) i j:=fun i hi j hj=>by
 unfold dV;rw [List.length_append] at hi;by_cases h:i<A.length
 ·rw [if_pos h];unfold aQ;rw [show (A ++ B).getD i default=A.getD i default from by rw [List.getD_eq_getElem?_getD,List.getD_eq_getElem?_getD,List.getElem?_append_left h]]
 ·rw [if_neg h];unfold aQ;rw [show (A ++ B).getD i default=B.getD (i - A.length) default from by rw [List.getD_eq_getElem?_getD,List.getD_eq_getElem?_getD,List.getElem?_append_right (by omega)]]
theorem ya (s:Script) (V:VOps s) (p q:Nat) (h:p+q≤s.ops.length):(fk s p q).length≤8192:=by
 have:=sO s.ops p;have:=V.cnt;simp [fk];omega
theorem Ez (s t:Script) (hs:ScriptLen s) (ht:ScriptLen t):aB Sg 53 [ag (ay s),ag (ay t)] (fun x=>x = .tup [ag (aS (kN s t).1),I (kN s t).2]):=by
 have h1:=kW s hs;have h2:=kW t ht;have h3:=LB s t hs ht;by_cases e1:(gu s).1=0
 ·by_cases e2:(gu t).1=0
  ·have V:=jK e1;have U:=jK e2;have hc:=Ha s.ops t.ops V.cnt U.cnt;have hpl:=Va s.ops t.ops;have hql:=a4s s.ops t.ops hpl.1 hpl.2;have w1:=wo s V hs _ _ hql.1;have w2:=wo t U ht _ _ hql.2;have l1:=ya s V _ _ hql.1;have l2:=ya t U _ _ hql.2;refine az Tryz.func53 [.cell 4 35, .tmp 5] ?_
   repeat' (first|((with_reducible refine vi (id:=12) [(3,5)] ?_ (fun K hK => ?_));exact bZ;refine bV ?_)|refine aw ?_|refine an (fun K hK => ?_)|refine aa (h1) ?_|refine aa (h2) ?_|refine aa (h3) ?_|refine aa (hc) ?_|refine gS (w1) ?_|refine gS (w2) ?_|(refine aH (fun hb => ?_) (fun hb => ?_) <;> try exact ax)|(refine aq hK ?_;try clear hK K)|(refine pz hK ?_;try clear hK K))
   ·rw [kN,if_neg (by simp [e1]),if_neg (by simp [e2]),if_pos hb];rfl
   ·rename_i hb0;rw [kN,if_neg (by simp [e1]),if_neg (by simp [e2]),if_neg (by simp [hb0]),if_pos (Mj.1 ⟨by omega,by omega⟩)];rfl
   ·have hfin:kN s t=(fu (fk s (nM s.ops t.ops) (yT s.ops t.ops (nM s.ops t.ops)) ++ fk t (nM s.ops t.ops) (yT s.ops t.ops (nM s.ops t.ops))),0):=by
     rename_i hb0;rw [kN,if_neg (by simp [e1]),if_neg (by simp [e2]),if_neg (by simp [hb0]),if_neg (fun e=>by have:=Mj.2 e;omega)]
    refine fT ?_ ?_ ba ?_ (tn (fk s (nM s.ops t.ops) (yT s.ops t.ops (nM s.ops t.ops)) ++ fk t (nM s.ops t.ops) (yT s.ops t.ops (nM s.ops t.ops))) (by rw [List.length_append];omega));try simp (maxSteps:=999999)(disch:=omega) only [go_sem]
    try (refine hK _ ?_;clear hK K)
    ·refine hK _ ba ?_;clear hK;repeat' (refine aC ?_)
     rw [hfin];rfl
    ·simp (maxSteps:=1000000) (disch:=omega) only [go_sem,fi,fY,List.length_append];refine qJ (gX fun a ha j hj => ?_);exact a3X a (by rw [List.length_append];exact ha) j hj
    ·exact pO _
  ·refine az Tryz.func53 [.cell 4 35, .tmp 5] ?_
   repeat' (first|refine aw ?_|refine an (fun K hK => ?_)|refine aa (h1) ?_|refine aa (h2) ?_|(refine aH (fun hb => ?_) (fun hb => ?_) <;> try exact ax)|(refine aq hK ?_;try clear hK K))
   rw [kN,if_neg (by simp [e1]),if_pos e2];rfl
 ·refine az Tryz.func53 [.cell 4 35, .tmp 5] ?_
  repeat' (first|refine aw ?_|refine an (fun K hK => ?_)|refine aa (h1) ?_|(refine aH (fun hb => ?_) (fun hb => ?_) <;> try exact ax)|(refine aq hK ?_;try clear hK K))
  rw [kN,if_pos e1];rfl
end
section
attribute [local go_sem] Int.toNat_natCast
def tZ (s:Script) (q:Rect) (x y:Int):Rect:=ed (vV q x y) s.canvas
theorem a0b (bx : Nat → Option Bx) (nx k m : Nat) (g : Nat → Nat → PV) (s : Script) (q : Rect) (x y : Int) (h3 : bx 3 = some (.fix [.own k m])) (hk : bx k = some (.arr 35 4 m g)) (h1 : bx 1 = some (.fix ((aS q).map CV.p)))
  (h0:bx 0=some (.fix ((ay s).map CV.p))) (hkn:k<nx) (hk4:4≤k) (hm:m≤100000) (hw:∀ i,nx≤i→bx i=none) :
  ∃ F:Nat→Nat→PV,(∀ j,j<4→F 0 j=(aS (tZ s q x y)).getD j .any)∧lj Sg bx nx 62 [I x,I y, .c (.ptr 3 0), .c (.ptr 1 0), .c (.ptr 0 0)] (.tup [])
   (aJ 3 (.fix [.own (nx+1) (m+1)]) (aJ (nx+1) (.arr 35 4 (m+1) (dV m g F)) (dH k (aJ nx (.arr 35 4 1 F) bx)))) (nx+2):=by
 have n3:(3=nx)=False:=by simp;omega
 have n1:(1=nx)=False:=by simp;omega
 have n0:(0=nx)=False:=by simp;omega
 have nk:(k=nx)=False:=by simp;omega
 have m3:(3=nx+1)=False:=by simp;omega
 have m3':(3=k)=False:=by simp;omega
 refine ⟨?F, ?hF, ?hI⟩
 case hI =>
  refine wG Tryz.func62 rfl (rs:=[]) rfl rfl dI (by decide +kernel) (Nat.le_of_ble_eq_true rfl) ?_ (fun kf => ?_)
  ·intro v hv;simp only [List.mem_cons,List.not_mem_nil,or_false] at hv;rcases hv with rfl|rfl|rfl|rfl|rfl
   ·trivial
   ·trivial
   ·show 3<nx;omega
   ·show 1<nx;omega
   ·show 0<nx;omega
  refine gx (id:=0) [] (by decide +kernel) (by decide +kernel) ⟨fun i hi=>hw i hi,Nat.zero_le _⟩ (fun K hK => ?_);simp (maxSteps:=1000000) (disch:=omega) only [go_sem,h0,h1,h3,hk];refine gZ (NR q x y) ?_;simp (maxSteps:=1000000) (disch:=omega) only [go_sem,h0,h1,h3,hk];refine gZ (kY (vV q x y) s.canvas) ?_;simp (maxSteps:=1000000) (disch:=omega) only [go_sem,h0,h1,h3,hk,n3,n1,n0,nk,m3,m3'];refine ⟨by decide,⟨by omega,by omega⟩,hK _ trivial ?_⟩;clear hK;refine bV ?_;simp only [sN,lh,lq,lz,gV,kZ,lk,lp,uP,uL];rfl
 intro j hj;have hivl:j=0∨j=1∨j=2∨j=3:=by omega
 rcases hivl with rfl|rfl|rfl|rfl <;> rfl
theorem vO {st : St} {K : SV → St → Prop} (k m : Nat) (g : Nat → Nat → PV) (s : Script) (q : Rect) (x y : Int) (h3 : st.bx 3 = some (.fix [.own k m])) (hk : st.bx k = some (.arr 35 4 m g)) (h1 : st.bx 1 = some (.fix ((aS q).map CV.p)))
  (h0:st.bx 0=some (.fix ((ay s).map CV.p))) (hkn:k<st.nx) (hk4:4≤k) (hm:m≤100000) (hw:jB 0 st)
  (hK:∀ F:Nat→Nat→PV,(∀ j,j<4→F 0 j=(aS (tZ s q x y)).getD j .any) →
   K (.tup []) (st.turn (aJ 3 (.fix [.own (st.nx+1) (m+1)]) (aJ (st.nx+1) (.arr 35 4 (m+1) (dV m g F)) (dH k (aJ st.nx (.arr 35 4 1 F) st.bx)))) (st.nx+2))) :
  dY Sg st 62 [I x,I y, .c (.ptr 3 0), .c (.ptr 1 0), .c (.ptr 0 0)] (Sl.of K):=by
 obtain ⟨F,hF,hI⟩:=a0b st.bx st.nx k m g s q x y h3 hk h1 h0 hkn hk4 hm hw.1;refine dS hI rfl (fun i hi => ?_) (by omega) (hK F hF);simp only [aJ,dH];rw [if_neg (by omega),if_neg (by omega),if_neg (by omega),if_neg (by omega)];exact hw.1 i (by omega)
attribute [local go_sem] Mt
def lZ (s:Script) (i:Int) (q:Rect) (o:Op):List Rect:=(if o.kind=1∧o.image=i then [tZ s q o.x o.y] else []) ++ (if o.mask=i+1 then [tZ s q o.maskX o.maskY] else [])
def cf (s:Script) (i:Int) (q:Rect):Nat→List Rect
 | 0=>[]
 | k+1=>cf s i q k ++ lZ s i q (ah s.ops k)
theorem yl (s:Script) (i:Int) (q:Rect):∀ k,(cf s i q k).length≤2 * k
 | 0=>Nat.le_refl _
 | k+1=>by
  have:=yl s i q k;simp only [cf,lZ,List.length_append];split <;> split <;> simp <;> omega
def fE (s:Script) (i:Int) (r:Rect):Rect × Int :=
 if (gu s).1≠0 then (dz,(gu s).1) else if i<0∨s.images.length≤i then (dz,11)
 else (fu (cf s i (ed r ⟨0,0,(s.images.getD i.toNat default).w,(s.images.getD i.toNat default).h⟩) s.ops.length),0)
theorem FO {l : List Rect} {R : Rect} {f F : Nat → Nat → PV} (hf : ∀ a, a < l.length → ∀ j, j < 4 → f a j = aQ aS l a j) (hF : ∀ j, j < 4 → F 0 j = (aS R).getD j .any) :
  ∀ a,a<(l ++ [R]).length→∀ j,j<4→dV l.length f F a j=aQ aS (l ++ [R]) a j:=fun a ha j hj=>by
 unfold dV;rw [List.length_append] at ha;by_cases h:a<l.length
 ·rw [if_pos h,hf a h j hj];unfold aQ;rw [show (l ++ [R]).getD a default=l.getD a default from by rw [List.getD_eq_getElem?_getD,List.getD_eq_getElem?_getD,List.getElem?_append_left h]]
 ·have ea:a=l.length:=by simp at ha;omega
  rw [if_neg h,ea,Nat.sub_self,hF j hj];unfold aQ;rw [show (l ++ [R]).getD l.length default=R from by simp [List.getD_eq_getElem?_getD]]
theorem yD (s:Script) (hs:ScriptLen s) (i:Int) (r:Rect) (hi:i64 i):aB Sg 23 [ag (ay s),I i,ag (aS r)] (fun x=>x = .tup [ag (aS (fE s i r).1),I (fE s i r).2]):=by
 have h1:=kW s hs;obtain ⟨i1,i2⟩:=hi;obtain ⟨s1,s2,s3⟩:=id hs;by_cases e1:(gu s).1=0
 ·have V:=jK e1;have hn:=V.cnt;obtain ⟨q,hq⟩:∃ q,q=ed r ⟨0,0,(s.images.getD i.toNat default).w,(s.images.getD i.toNat default).h⟩:=⟨_,rfl⟩
  have hsq:=kY r ⟨0,0,(s.images.getD i.toNat default).w,(s.images.getD i.toNat default).h⟩;rw [← hq] at hsq;refine az Tryz.func23 [.cell 6 35, .tmp 7] ?_
  repeat' (first|refine aw ?_|refine an (fun K hK => ?_)|refine aa (h1) ?_|refine aa (hsq) ?_|(refine aH (fun hb => ?_) (fun hb => ?_) <;> try exact ax)|(refine aq hK ?_;try clear hK K))
  ·rw [fE,if_neg (by simp [e1]),if_pos (by omega)];rfl
  refine aK (X:=Nat) (fun k=>aP [(1, .b (I i)),(3, .b (.c (.ptr 0 0))),(5, .b (.c (.ptr 1 0))),(6, .b (.c (.ptr 2 0))),(10, .b (.c (.ptr 3 0))),(11, .b (.c (.clo 62 [(3,0),(1,0),(0,0)]))),(50, .b (.c (.p (kU s.ops)))),(51, .b (I s.ops.length)),(52, .b (I k))]
   [(0, .fix ((ay s).map CV.p)),(1, .fix ((aS q).map CV.p)),(2, .fix ((aS dz).map CV.p)),(3, .fix [.own 4 (cf s i q k).length]),(4, .arr 35 4 (cf s i q k).length (aQ aS (cf s i q k)))] 5)
   (fun k=>k≤s.ops.length) (fun k=>s.ops.length - k) 0 ?_ ?_ ?_
  ·exact Nat.zero_le _
  ·refine ar [(1,some 1),(2,some 2),(3,some 3),(4,none)] ?_ ?_;and_intros;all_goals try exact ak
  ·intro k hk;have hlk:=yl s i q k;rcases Nat.lt_or_ge k s.ops.length with hkl|hge
   ·have hil:i<s.images.length:=by omega
    by_cases c1:(ah s.ops k).kind=1∧(ah s.ops k).image=i
    ·have t1:((s.ops.getD k default).kind == 1 && (s.ops.getD k default).image == i)=true:=by simp only [Bool.and_eq_true,beq_iff_eq];exact c1
     by_cases c2:(ah s.ops k).mask=i+1
     ·have t2:((s.ops.getD k default).mask == i+1)=true:=by rw [beq_iff_eq];exact c2
      repeat' (first|refine aj (And.intro t1 t2) ?_|refine aw ?_|refine an (fun K hK => ?_)|(refine aH (fun hb => ?_) (fun hb => ?_) <;> try exact ax)|(refine aq hK ?_;try clear hK K))
      refine vO 4 (cf s i q k).length (aQ aS (cf s i q k)) s q (ah s.ops k).x (ah s.ops k).y ?_ ?_ ?_ ?_ ?_ (by omega) (by omega) ?_ (fun Fx hFx => ?_)
      ·exact ba
      ·exact ba
      ·exact ba
      ·exact ba
      ·exact ba
      ·exact bZ
      refine bV ?_;refine hK _ ?_;clear hK;repeat' (first|refine aj t2 ?_|refine an (fun K hK => ?_)|(refine aq hK ?_;try clear hK K))
      refine vO 7 ((cf s i q k).length+1) (dV (cf s i q k).length (aQ aS (cf s i q k)) Fx) s q (ah s.ops k).maskX (ah s.ops k).maskY ?_ ?_ ?_ ?_ ?_ (by omega) (by omega) ?_ (fun FmaskX hFmaskX => ?_)
      ·exact ba
      ·exact ba
      ·exact ba
      ·exact ba
      ·exact ba
      ·exact bZ
      refine bV ?_;refine hK _ ?_;clear hK;repeat' (refine aC ?_)
      rw [ae];refine ao (k+1) ?_ (by omega) (by omega);rw [show cf s i q (k+1)=cf s i q k ++ lZ s i q (ah s.ops k) from rfl,show lZ s i q (ah s.ops k)=[tZ s q (ah s.ops k).x (ah s.ops k).y] ++ [tZ s q (ah s.ops k).maskX (ah s.ops k).maskY] from by rw [lZ,if_pos c1,if_pos c2]];refine ar [(1,some 1),(2,some 2),(3,some 3),(4,some 9)] ?_ ?_;and_intros;all_goals try exact ak
      ·simp
      ·simp
      refine .inr fun a ha j hj => ?_;have hA:=FO (l:=cf s i q k) (fun _ _ _ _=>rfl) hFx;have hB:=FO (l:=cf s i q k ++ [tZ s q (ah s.ops k).x (ah s.ops k).y]) (f:=dV (cf s i q k).length (aQ aS (cf s i q k)) Fx) hA hFmaskX a (by simpa using ha) j hj;rw [List.length_append,List.length_singleton,List.append_assoc] at hB;rw [show [tZ s q (ah s.ops k).x (ah s.ops k).y] ++ [tZ s q (ah s.ops k).maskX (ah s.ops k).maskY]=[tZ s q (ah s.ops k).x (ah s.ops k).y,tZ s q (ah s.ops k).maskX (ah s.ops k).maskY] from rfl] at hB;rw [hB];exact fun _ _ _ h=>h
     ·have t2:((s.ops.getD k default).mask == i+1)=false:=by rw [Bool.eq_false_iff];intro h;rw [beq_iff_eq] at h;exact c2 h
      repeat' (first|refine aj (And.intro t1 t2) ?_|refine aw ?_|refine an (fun K hK => ?_)|(refine aH (fun hb => ?_) (fun hb => ?_) <;> try exact ax)|(refine aq hK ?_;try clear hK K))
      refine vO 4 (cf s i q k).length (aQ aS (cf s i q k)) s q (ah s.ops k).x (ah s.ops k).y ?_ ?_ ?_ ?_ ?_ (by omega) (by omega) ?_ (fun Fx hFx => ?_)
      ·exact ba
      ·exact ba
      ·exact ba
      ·exact ba
      ·exact ba
      ·exact bZ
      refine bV ?_;refine hK _ ?_;clear hK;repeat' (first|refine aj t2 ?_|refine aC ?_)
      rw [ae];refine ao (k+1) ?_ (by omega) (by omega);rw [show cf s i q (k+1)=cf s i q k ++ lZ s i q (ah s.ops k) from rfl,show lZ s i q (ah s.ops k)=[tZ s q (ah s.ops k).x (ah s.ops k).y] from by rw [lZ,if_pos c1,if_neg c2];rfl];refine ar [(1,some 1),(2,some 2),(3,some 3),(4,some 7)] ?_ ?_;and_intros;all_goals try exact ak
      ·simp
      ·simp
      refine .inr fun a ha j hj => ?_;rw [FO (l:=cf s i q k) (fun _ _ _ _=>rfl) hFx a (by simpa using ha) j hj];exact fun _ _ _ h=>h
    ·have t1:((s.ops.getD k default).kind == 1 && (s.ops.getD k default).image == i)=false:=by rw [Bool.eq_false_iff];intro h;simp only [Bool.and_eq_true,beq_iff_eq] at h;exact c1 h
     by_cases c2:(ah s.ops k).mask=i+1
     ·have t2:((s.ops.getD k default).mask == i+1)=true:=by rw [beq_iff_eq];exact c2
      repeat' (first|refine aj (And.intro t1 t2) ?_|refine aw ?_|refine an (fun K hK => ?_)|(refine aH (fun hb => ?_) (fun hb => ?_) <;> try exact ax)|(refine aq hK ?_;try clear hK K))
      refine vO 4 (cf s i q k).length (aQ aS (cf s i q k)) s q (ah s.ops k).maskX (ah s.ops k).maskY ?_ ?_ ?_ ?_ ?_ (by omega) (by omega) ?_ (fun FmaskX hFmaskX => ?_)
      ·exact ba
      ·exact ba
      ·exact ba
      ·exact ba
      ·exact ba
      ·exact bZ
      refine bV ?_;refine hK _ ?_;clear hK;repeat' (refine aC ?_)
      rw [ae];refine ao (k+1) ?_ (by omega) (by omega);rw [show cf s i q (k+1)=cf s i q k ++ lZ s i q (ah s.ops k) from rfl,show lZ s i q (ah s.ops k)=[tZ s q (ah s.ops k).maskX (ah s.ops k).maskY] from by rw [lZ,if_neg c1,if_pos c2];rfl];refine ar [(1,some 1),(2,some 2),(3,some 3),(4,some 7)] ?_ ?_;and_intros;all_goals try exact ak
      ·simp
      ·simp
      refine .inr fun a ha j hj => ?_;rw [FO (l:=cf s i q k) (fun _ _ _ _=>rfl) hFmaskX a (by simpa using ha) j hj];exact fun _ _ _ h=>h
     ·have t2:((s.ops.getD k default).mask == i+1)=false:=by rw [Bool.eq_false_iff];intro h;rw [beq_iff_eq] at h;exact c2 h
      repeat' (first|refine aj (And.intro t1 t2) ?_|refine aC ?_|(refine aH (fun hb => ?_) (fun hb => ?_) <;> try exact ax))
      rw [ae];refine ao (k+1) ?_ (by omega) (by omega);rw [show cf s i q (k+1)=cf s i q k ++ lZ s i q (ah s.ops k) from rfl,show lZ s i q (ah s.ops k)=[] from by rw [lZ,if_neg c1,if_neg c2];rfl,List.append_nil];refine ar [(1,some 1),(2,some 2),(3,some 3),(4,some 4)] ?_ ?_;and_intros;all_goals try exact ak
   ·have hk2:k=s.ops.length:=by omega
    subst hk2
    repeat' (first|refine aw ?_|refine an (fun K hK => ?_)|(refine aH (fun hb => ?_) (fun hb => ?_) <;> try exact ax)|(refine aq hK ?_;try clear hK K))
    refine fT ?_ ?_ ba ?_ (tn (cf s i q s.ops.length) (by omega));try simp (maxSteps:=999999)(disch:=omega) only [go_sem]
    try (refine hK _ ?_;clear hK K)
    ·repeat' (refine aC ?_)
     rw [fE,if_neg (by simp [e1]),if_neg (by omega),← hq];rfl
    ·simp (maxSteps:=1000000) (disch:=omega) only [go_sem,fi,fY];exact jm
    ·exact pO _
 ·refine az Tryz.func23 [.cell 6 35, .tmp 7] ?_
  repeat' (first|refine aw ?_|refine an (fun K hK => ?_)|refine aa (h1) ?_|(refine aH (fun hb => ?_) (fun hb => ?_) <;> try exact ax)|(refine aq hK ?_;try clear hK K))
  rw [fE,if_pos e1];rfl
end
section
attribute [local go_sem] Int.toNat_natCast
theorem GF {ρ:iN} {ok:Nat→Prop} {w:World}:∀ {l r:List CV},Hu l r→l.length=r.length∧∀ {u:Nat→Value},(∀ j,cR ρ ok w (l.getD j .any) (u j))→∀ j,cR ρ ok w (r.getD j .any) (u j)
 | [],[],_=>⟨rfl,fun h=>h⟩
 | .p x :: l, .p y :: r,h=>by
  rw [bM] at h;obtain ⟨h1,h2⟩:=h;obtain ⟨q1,q2⟩:=GF (ρ:=ρ) (ok:=ok) (w:=w) h2;refine ⟨by simp [q1],fun {u} hu j => ?_⟩;cases j with
  | zero =>
   rcases h1 with e|e
   ·rw [← e];exact hu 0
   ·exact e _ _ _ (hu 0)
  | succ j=>exact q2 (u:=fun k=>u (k+1)) (fun k=>hu (k+1)) j
theorem wZ {l r:List CV} (h:Hu l r):BV.le (.agg l) (.agg r):=fun ρ ok w u ⟨us,hu,hs,h1,hd⟩=>by
 obtain ⟨q1,q2⟩:=GF (ρ:=ρ) (ok:=ok) (w:=w) h;exact ⟨us,hu,by rw [hs,q1],h1,q2 hd⟩
theorem a0L (r:Rect) (b:Int):SV.flat (.tup [ag (aS r),I b]):=fun v hv=>by
 rcases List.mem_cons.1 hv with rfl|hv
 ·exact pO _
 ·rw [List.mem_singleton.1 hv];trivial
def dOp (x y:Int):Op:=⟨1,0,x,y,0,0,0,255,4,1,false,false⟩
def a2a:Image:=⟨2,2,true,⟨0,0,0,0,0⟩,⟨0,0,0,[]⟩,⟨0,0,0,[]⟩,⟨0,0,0,[]⟩,⟨0,0,0,[]⟩,⟨0,0,0,[]⟩⟩
def qO:Script:=⟨8,⟨0,0,9,9⟩,1,1,[],[a2a],[dOp 0 0,dOp 3 2]⟩
theorem NZ:fE qO 0 ⟨0,0,1,1⟩=(⟨0,0,4,3⟩,0):=by decide +kernel
theorem Oe:kN qO qO=(dz,0):=by decide +kernel
theorem uY:aB Sg 19 [] (fun r=>r = .b (B true)):=by
 have hl:ScriptLen qO:=⟨by decide,by decide,by decide⟩
 have h1:=yD qO hl 0 ⟨0,0,1,1⟩ ⟨by decide,by decide⟩;rw [NZ] at h1;have h2:=Ez qO qO hl hl;rw [Oe] at h2;refine az Tryz.func19 [.tmp 0] ?_;repeat' (first|with_reducible exact cz|refine bL ?_|((first|refine an (fun K hK => ?_)|refine pj ?_);and_intros;all_goals first|(refine hK _ ?_;clear hK K)|try exact ai)|((first|apply dC|apply dE);(case hf=>rfl);(case hc=>exact du);(all_goals first|(intro hb;(try simp only [nR] at hb))|skip))|exact bd|(refine aH (fun hb => ?_) (fun hb => ?_);all_goals try exact ax)|refine eo (fun KB hB => ?_)|(refine hB _ ?_;clear hB KB)|refine gM (S:=Sg) (by assumption) ?_|(refine bF ?_;(try clear hB KB);(try clear hK K)))
 refine fT ?_ ?_ ba ?_ (h1);try simp (maxSteps:=999999)(disch:=omega) only [go_sem]
 try (refine hK _ ?_;clear hK K)
 ·repeat' (first|with_reducible exact cz|refine bL ?_|((first|refine an (fun K hK => ?_)|refine pj ?_);and_intros;all_goals first|(refine hK _ ?_;clear hK K)|try exact ai)|((first|apply dC|apply dE);(case hf=>rfl);(case hc=>exact du);(all_goals first|(intro hb;(try simp only [nR] at hb))|skip))|exact bd|(refine aH (fun hb => ?_) (fun hb => ?_);all_goals try exact ax)|refine eo (fun KB hB => ?_)|(refine hB _ ?_;clear hB KB)|refine gM (S:=Sg) (by assumption) ?_|(refine bF ?_;(try clear hB KB);(try clear hK K)))
  refine fT ?_ ?_ ba ?_ (h2);try simp (maxSteps:=999999)(disch:=omega) only [go_sem]
  try (refine hK _ ?_;clear hK K)
  ·repeat' (first|with_reducible exact cz|refine bL ?_|((first|refine an (fun K hK => ?_)|refine pj ?_);and_intros;all_goals first|(refine hK _ ?_;clear hK K)|try exact ai)|((first|apply dC|apply dE);(case hf=>rfl);(case hc=>exact du);(all_goals first|(intro hb;(try simp only [nR] at hb))|skip))|exact bd|(refine aH (fun hb => ?_) (fun hb => ?_);all_goals try exact ax)|refine eo (fun KB hB => ?_)|(refine hB _ ?_;clear hB KB)|refine gM (S:=Sg) (by assumption) ?_|(refine bF ?_;(try clear hB KB);(try clear hK K)))
   rfl
  ·refine ⟨wZ ?_,wZ ?_,trivial⟩;all_goals (simp only [List.map_cons,List.map_nil,bM,cA])
   all_goals and_intros
   all_goals first|exact .inl rfl|exact .inl trivial|exact .inr bP|trivial|skip
   ·refine .inr (nY fun i hi j hj => ?_);have:i=0:=by omega
    subst this;have hivl:j=0∨j=1∨j=2∨j=3∨j=4∨j=5∨j=6∨j=7∨j=8∨j=9∨j=10∨j=11∨j=12∨j=13∨j=14∨j=15∨j=16∨j=17∨j=18∨j=19∨j=20∨j=21∨j=22∨j=23∨j=24∨j=25∨j=26∨j=27:=by omega
    rcases hivl with rfl|rfl|rfl|rfl|rfl|rfl|rfl|rfl|rfl|rfl|rfl|rfl|rfl|rfl|rfl|rfl|rfl|rfl|rfl|rfl|rfl|rfl|rfl|rfl|rfl|rfl|rfl|rfl <;> (first|exact PV.le_refl _|exact bP)
   ·refine .inr (nY fun i hi j hj => ?_);have:i=0∨i=1:=by omega
    rcases this with rfl|rfl
    ·have hivl:j=0∨j=1∨j=2∨j=3∨j=4∨j=5∨j=6∨j=7∨j=8∨j=9∨j=10∨j=11:=by omega
     rcases hivl with rfl|rfl|rfl|rfl|rfl|rfl|rfl|rfl|rfl|rfl|rfl|rfl <;> exact PV.le_refl _
    ·have hivl:j=0∨j=1∨j=2∨j=3∨j=4∨j=5∨j=6∨j=7∨j=8∨j=9∨j=10∨j=11:=by omega
     rcases hivl with rfl|rfl|rfl|rfl|rfl|rfl|rfl|rfl|rfl|rfl|rfl|rfl <;> exact PV.le_refl _
   ·refine .inr (nY fun i hi j hj => ?_);have:i=0:=by omega
    subst this;have hivl:j=0∨j=1∨j=2∨j=3∨j=4∨j=5∨j=6∨j=7∨j=8∨j=9∨j=10∨j=11∨j=12∨j=13∨j=14∨j=15∨j=16∨j=17∨j=18∨j=19∨j=20∨j=21∨j=22∨j=23∨j=24∨j=25∨j=26∨j=27:=by omega
    rcases hivl with rfl|rfl|rfl|rfl|rfl|rfl|rfl|rfl|rfl|rfl|rfl|rfl|rfl|rfl|rfl|rfl|rfl|rfl|rfl|rfl|rfl|rfl|rfl|rfl|rfl|rfl|rfl|rfl <;> (first|exact PV.le_refl _|exact bP)
   ·refine .inr (nY fun i hi j hj => ?_);have:i=0∨i=1:=by omega
    rcases this with rfl|rfl
    ·have hivl:j=0∨j=1∨j=2∨j=3∨j=4∨j=5∨j=6∨j=7∨j=8∨j=9∨j=10∨j=11:=by omega
     rcases hivl with rfl|rfl|rfl|rfl|rfl|rfl|rfl|rfl|rfl|rfl|rfl|rfl <;> exact PV.le_refl _
    ·have hivl:j=0∨j=1∨j=2∨j=3∨j=4∨j=5∨j=6∨j=7∨j=8∨j=9∨j=10∨j=11:=by omega
     rcases hivl with rfl|rfl|rfl|rfl|rfl|rfl|rfl|rfl|rfl|rfl|rfl|rfl <;> exact PV.le_refl _
  exact a0L _ _
 ·refine ⟨wZ ?_,jm,jm,trivial⟩;simp only [List.map_cons,List.map_nil,bM,cA];and_intros;all_goals first|exact .inl rfl|exact .inl trivial|exact .inr bP|trivial|skip
  ·refine .inr (nY fun i hi j hj => ?_);have:i=0:=by omega
   subst this;have hivl:j=0∨j=1∨j=2∨j=3∨j=4∨j=5∨j=6∨j=7∨j=8∨j=9∨j=10∨j=11∨j=12∨j=13∨j=14∨j=15∨j=16∨j=17∨j=18∨j=19∨j=20∨j=21∨j=22∨j=23∨j=24∨j=25∨j=26∨j=27:=by omega
   rcases hivl with rfl|rfl|rfl|rfl|rfl|rfl|rfl|rfl|rfl|rfl|rfl|rfl|rfl|rfl|rfl|rfl|rfl|rfl|rfl|rfl|rfl|rfl|rfl|rfl|rfl|rfl|rfl|rfl <;> (first|exact PV.le_refl _|exact bP)
  ·refine .inr (nY fun i hi j hj => ?_);have:i=0∨i=1:=by omega
   rcases this with rfl|rfl
   ·have hivl:j=0∨j=1∨j=2∨j=3∨j=4∨j=5∨j=6∨j=7∨j=8∨j=9∨j=10∨j=11:=by omega
    rcases hivl with rfl|rfl|rfl|rfl|rfl|rfl|rfl|rfl|rfl|rfl|rfl|rfl <;> exact PV.le_refl _
   ·have hivl:j=0∨j=1∨j=2∨j=3∨j=4∨j=5∨j=6∨j=7∨j=8∨j=9∨j=10∨j=11:=by omega
    rcases hivl with rfl|rfl|rfl|rfl|rfl|rfl|rfl|rfl|rfl|rfl|rfl|rfl <;> exact PV.le_refl _
 exact a0L _ _
attribute [local go_sem] a0D uI
end
def mj (s:Script) (r:Rect):Int:=if (bz s).1≠0 then (bz s).1 else if aM r=true∨cS s.canvas r=false then 20 else 0
def Bi (s:Script) (r:Rect):Image:=if mj s r=0 then bR (r.x1 - r.x0) (r.y1 - r.y0) (cT s r ((r.x1 - r.x0) * (r.y1 - r.y0)).toNat) else ft
theorem pZ {c r:Rect} (he:aM r=false) (h:cS c r=true):InR r c:=by
 unfold cS at h;rw [he,Bool.false_or] at h;simp only [Bool.and_eq_true,decide_eq_true_eq] at h;obtain ⟨⟨⟨⟨_,h1⟩,h2⟩,h3⟩,h4⟩:=h;have:=gw.1 he;exact ⟨by omega,by omega,by omega,by omega,by omega,by omega⟩
theorem vH {r q:Rect} (hq:aM q=false):cS r q=decide (ed r q=q):=by
 have hz:¬ dz=q:=fun e=>by rw [← e] at hq;exact absurd hq (by decide)
 rw [cS,hq];unfold ed;cases hr:aM r with
 | true=>rw [if_pos (.inl rfl),decide_eq_false hz];rfl
 | false =>
  rw [if_neg (by rw [hq];decide)];by_cases hc:r.x0≤q.x0∧r.y0≤q.y0∧q.x1≤r.x1∧q.y1≤r.y1
  ·have e:(⟨max r.x0 q.x0,max r.y0 q.y0,min r.x1 q.x1,min r.y1 q.y1⟩:Rect)=q:=by
    cases q with
    | mk x0 y0 x1 y1 =>
     simp only [Rect.mk.injEq] at hc ⊢;omega
   have e2:gr q=q:=if_neg (by rw [hq];decide);rw [e,e2,decide_eq_true hc.1,decide_eq_true hc.2.1,decide_eq_true hc.2.2.1,decide_eq_true hc.2.2.2,decide_eq_true rfl];rfl
  ·have hl:(false || !false && decide (r.x0≤q.x0) && decide (r.y0≤q.y0) && decide (q.x1≤r.x1) && decide (q.y1≤r.y1))=false:=by
    rw [Bool.eq_false_iff];intro h;simp only [Bool.false_or,Bool.not_false,Bool.true_and,Bool.and_eq_true,decide_eq_true_eq] at h;exact hc ⟨h.1.1.1,h.1.1.2,h.1.2,h.2⟩
   rw [hl,eq_comm,decide_eq_false_iff_not];unfold gr;split
   ·exact hz
   ·intro h;apply hc;have h1:=congrArg Rect.x0 h;have h2:=congrArg Rect.y0 h;have h3:=congrArg Rect.x1 h;have h4:=congrArg Rect.y1 h;dsimp only at h1 h2 h3 h4;omega
theorem UK (a b:Rect):a=b↔a.x0=b.x0∧a.y0=b.y0∧a.x1=b.x1∧a.y1=b.y1:=by cases a;cases b;simp
theorem oL (r q:Rect):aB Sg 49 [ag (aS r),ag (aS q)] (fun x=>x = .b (B (cS r q))):=by
 have h1:=fK q;have h2:=GY r q;refine az Tryz.func49 [.tmp 4] ?_;repeat' (first|refine an (fun K hK => ?_)|refine aa (h1) ?_|refine aA (fun hg=>h2) ?_|refine aw ?_|(refine aq hK ?_;try clear hK K))
 refine congrArg (fun b=>SV.b (B b)) ?_;cases hq:aM q with
 | true=>rw [cS,hq];rfl
 | false =>
  rw [vH hq,Bool.false_or,Bool.eq_iff_iff,decide_eq_true_eq,UK];simp only [Bool.and_eq_true,beq_iff_eq,and_true]
section
attribute [local go_sem] Int.toNat_natCast
def Vr (m:Image) (a:Nat):Pixel:=fy m ((a % m.w.toNat:Nat):Int) ((a / m.w.toNat:Nat):Int)
def nN (m:Image) (n:Nat):List Pixel:=(List.range n).map (Vr m)
theorem gA {m:Image} {n:Nat}:(nN m n).length=n:=by simp [nN]
theorem TV {m:Image} {n:Nat}:nN m (n+1)=nN m n ++ [Vr m n]:=by simp [nN,List.range_succ]
theorem Ko {m:Image} {n a:Nat} (h:a<n):(nN m n).getD a default=Vr m a:=by simp [nN,h]
theorem Lj {m:Image} {W a k:Nat} (hW:m.w.toNat=W) (hk:k<W):Vr m (a * W+k)=fy m k a:=by
 unfold Vr;rw [hW,Nat.mul_comm a W,Nat.mul_add_mod,Nat.mod_eq_of_lt hk,Nat.mul_add_div (by omega),Nat.div_eq_of_lt hk,Nat.add_zero]
def oS (W x0 y0 rw i:Nat):Nat:=(y0+i / rw) * W+x0+i % rw
def hZ (W x0 y0 rw:Nat) (l o:List Pixel):Nat→List Pixel
 | 0=>o
 | i+1=>(hZ W x0 y0 rw l o i).set (oS W x0 y0 rw i) (l.getD i default)
section
variable {W x0 y0 rw:Nat} {l o:List Pixel}
theorem kC:∀ i,(hZ W x0 y0 rw l o i).length=o.length
 | 0=>rfl
 | i+1=>by rw [hZ,List.length_set,kC i]
end
section
variable {m:Image} {r:Rect} {l:List Pixel}
theorem jf (hf:aV m=true):dD m.w m.h=true∧1≤m.w∧1≤m.h∧m.w≤16777216∧m.h≤16777216∧((m.h.toNat * m.w.toNat:Nat):Int)=m.w * m.h∧m.h.toNat * m.w.toNat≤16777216:=by
 have:dD m.w m.h=true:=by
  unfold aV at hf;rw [Bool.and_eq_true] at hf;exact hf.1
 obtain ⟨a,b,c,d,e,f⟩:=fU this;have h1:((m.h.toNat * m.w.toNat:Nat):Int)=m.w * m.h:=by rw [Int.natCast_mul,Int.toNat_of_nonneg (by omega),Int.toNat_of_nonneg (by omega),Int.mul_comm]
 exact ⟨this,a,b,e,f,h1,by omega⟩
end
theorem yb (m:Image) (hf:aV m=true):gC Sg 50 [ag (aF m)] 43 5 (m.h.toNat * m.w.toNat) (aQ aU (nN m (m.h.toNat * m.w.toNat))):=by
 have ht:True:=trivial;obtain ⟨hfit,b1,b2,b3,b4,b5,hb⟩:=jf hf;have hF:=mM m;rw [hf] at hF;obtain ⟨W,hW⟩:∃ W:Nat,m.w=W:=⟨m.w.toNat,by omega⟩
 obtain ⟨H,hH⟩:∃ H:Nat,m.h=H:=⟨m.h.toNat,by omega⟩
 have hp:∀ a k,a<H→k<W→aB Sg 67 [ag (aF m),I (k:Nat),I (a:Nat)] (fun r=>r = .b (ag (aU (Vr m (a * W+k))))):=fun a k ha hk=>by
  rw [Lj (by omega) hk];exact Cg m k a hf (by omega) (by omega) (by omega) (by omega)
 rw [show m.w.toNat=W by omega,show m.h.toNat=H by omega] at hb ⊢;have hle:∀ a,a≤H→a * W≤16777216:=fun a ha=>Nat.le_trans (Nat.mul_le_mul ha (Nat.le_refl W)) hb;refine wY Tryz.func50 rfl (rs:=[.tmp 2]) rfl rfl dI (by decide +kernel) (Nat.le_of_ble_eq_true rfl) (bN ba) ?_;repeat' (first|refine aj ht ?_|refine aw ?_|refine an (fun K hK => ?_)|refine aa (hF) ?_|(refine aq hK ?_;try clear hK K))
 refine aK (X:=Nat) (fun a=>aP [(1, .b (.c (.ptr 0 0))),(3, .b (.c (.own 1 (a * W)))),(4, .b (I a))] [(0, .fix ((aF m).map CV.p)),(1, .arr 43 5 (a * W) (aQ aU (nN m (a * W))))] 2) (fun a=>a≤H) (fun a=>H - a) 0 ?_ ?_ ?_
 ·exact Nat.zero_le _
 ·refine ar [(1,none)] ?_ ?_;and_intros;all_goals try exact ak
 intro a haH;rcases Nat.lt_or_ge a H with ha|ha
 ·have g1:decide ((a:Int)<m.h)=true:=decide_eq_true (by omega);repeat' (first|refine aj g1 ?_|refine aC ?_)
  refine aK (X:=Nat) (fun k=>aP [(1, .b (.c (.ptr 0 0))),(3, .b (.c (.own 1 (a * W+k)))),(4, .b (I a)),(5, .b (I k))] [(0, .fix ((aF m).map CV.p)),(1, .arr 43 5 (a * W+k) (aQ aU (nN m (a * W+k))))] 2) (fun k=>k≤W) (fun k=>W - k) 0 ?_ ?_ ?_
  ·exact Nat.zero_le _
  ·refine ar [(1,some 1)] ?_ ?_;and_intros;all_goals try exact ak
  intro k hkW;have hb1:=hle (a+1) (by omega);rw [Nat.succ_mul] at hb1;rcases Nat.lt_or_ge k W with hk|hk
  ·have g2:decide ((k:Int)<m.w)=true:=decide_eq_true (by omega);have hv:=hp a k ha hk;generalize hq:Vr m (a * W+k)=q at *
   repeat' (first|refine aj g2 ?_|refine aw ?_|refine an (fun K hK => ?_)|refine aa (hv) ?_|(refine aq hK ?_;try clear hK K))
   rw [ae];refine ao (k+1) ?_ (by omega) (by omega);have key:=fun g hg=>gD (enc:=aU) (xs:=nN m (a * W+k)) (x:=q) (s:=5) (g:=g) hg;simp only [gA] at key;have e:nN m (a * W+(k+1))=nN m (a * W+k) ++ [q]:=by rw [← hq];exact TV
   refine ar [(1,some 3)] ?_ ?_;and_intros;all_goals try exact ak
   ·refine .inr fun i hi j hj => ?_;rw [e];refine key _ (fun j hj => ?_) i hi j hj;have:j=0∨j=1∨j=2∨j=3∨j=4:=by omega
    rcases this with rfl|rfl|rfl|rfl|rfl <;> rfl
  ·have g2:decide ((k:Int)<m.w)=false:=decide_eq_false (by omega);repeat' (first|refine aj g2 ?_|refine aC ?_)
   rw [ae];refine ao (a+1) ?_ (by omega) (by omega);have hkW2:k=W:=by omega
   have e2:a * W+k=(a+1) * W:=by rw [hkW2,Nat.succ_mul]
   rw [e2];refine ar [(1,some 1)] ?_ ?_;and_intros;all_goals try exact ak
 ·have g1:decide ((a:Int)<m.h)=false:=decide_eq_false (by omega);have:a=H:=by omega
  subst this;repeat' (first|refine aj g1 ?_|refine aC ?_)
  refine ⟨_,rfl,fun i hi j hj => ?_⟩;have hivl:j=0∨j=1∨j=2∨j=3∨j=4:=by omega
  rcases hivl with rfl|rfl|rfl|rfl|rfl <;> exact ⟨_,rfl,rfl⟩
end
theorem Gd {s:Script} {r:Rect} (hr:Small r):(jQ s r).w=r.x1 - r.x0∧(jQ s r).h=r.y1 - r.y0:=by rw [(vY hr).1];exact ⟨rfl,rfl⟩
section
attribute [local go_sem] Int.toNat_natCast
theorem eE {W H x0 y0 rw rh i:Nat} (h1:x0+rw≤W) (h2:y0+rh≤H) (hi:i<rh * rw) (hw:0<rw):i / rw<rh∧i % rw<rw∧oS W x0 y0 rw i<H * W:=by
 have a:=Nat.mod_lt i hw;have b:i / rw<rh:=(Nat.div_lt_iff_lt_mul hw).2 hi;refine ⟨b,a, ?_⟩;have c:(y0+i / rw+1) * W≤H * W:=Nat.mul_le_mul (by omega) (Nat.le_refl W);rw [Nat.succ_mul] at c;unfold oS;omega
end
section
structure N4 where
 a:Int
 b:Int
 c:Int
 d:Int
def n4E (n:N4):List PV:=[PI n.a,PI n.b,PI n.c,PI n.d]
attribute [local go_sem] Int.toNat_natCast n4E Int.sub_zero Int.zero_add
end
def wB (r:Rect):Nat:=((r.x1 - r.x0) * (r.y1 - r.y0)).toNat
def za (old:Image) (s:Script) (r:Rect):List Pixel :=
 if aM r=true then nN old (wB s.canvas) else hZ (s.canvas.x1 - s.canvas.x0).toNat (r.x0 - s.canvas.x0).toNat (r.y0 - s.canvas.y0).toNat (r.x1 - r.x0).toNat (cT s r (wB r)) (nN old (wB s.canvas)) (wB r)
def BZ (old:Image) (s:Script) (r:Rect):Image:=bR (s.canvas.x1 - s.canvas.x0) (s.canvas.y1 - s.canvas.y0) (za old s r)
def fG (old:Image) (s:Script) (r:Rect):Int :=
 if (bz s).1≠0 then (bz s).1 else if aV old=true∧old.w=s.canvas.x1 - s.canvas.x0∧old.h=s.canvas.y1 - s.canvas.y0 then (if cS s.canvas r=true then 0 else 20) else 6
def lT (old:Image) (s:Script) (r:Rect):Image:=if fG old s r=0 then BZ old s r else ft
theorem AU {old:Image} {s:Script} {r:Rect}:(za old s r).length=wB s.canvas:=by
 unfold za;split
 ·exact gA
 ·rw [kC,gA]
theorem Rr {s : Script} {r : Rect} (hs : Small r) {W x y : Nat} (hW : (W : Int) = r.x1 - r.x0) (hx : x < W) (hy : (y : Int) < r.y1 - r.y0) :
  jo r (r.x0+(x:Nat)) (r.y0+(y:Nat))∧Vr (jQ s r) (y * W+x)=ch s (r.x0+(x:Nat)) (r.y0+(y:Nat)):=by
 have hs':=hs;obtain ⟨x0,x1,y0,y1,hw,hh⟩:=hs';have hin:jo r (r.x0+(x:Nat)) (r.y0+(y:Nat)):=by
  unfold jo;omega
 refine ⟨hin, ?_⟩;have h1:=uZ (s:=s) hs hin;obtain ⟨e,hf,hl⟩:=vY (s:=s) hs;have hfm:aV (jQ s r)=true:=by rw [e];exact mT hf hl
 obtain ⟨w1,w2⟩:=Gd (s:=s) hs;rw [Lj (show (jQ s r).w.toNat=W by omega) hx,← h1];unfold dN;rw [hfm,if_neg (by simp only [Bool.true_eq_false,false_or];omega)];congr 1 <;> omega
theorem YA {s:Script} {r:Rect} (hs:Small r) {W H:Nat} (hW:(W:Int)=r.x1 - r.x0) (hH:(H:Int)=r.y1 - r.y0):nN (jQ s r) (H * W)=cT s r (H * W):=by
 have hW0:0<W:=by have:=hs.w;omega
 refine List.ext_getElem (by rw [gA,iS]) fun a h1 h2 => ?_;rw [gA] at h1;have g1:(nN (jQ s r) (H * W))[a]=(nN (jQ s r) (H * W)).getD a default:=by rw [List.getD_eq_getElem?_getD,List.getElem?_eq_getElem (by rw [gA];exact h1)];rfl
 have g2:(cT s r (H * W))[a]=(cT s r (H * W)).getD a default:=by rw [List.getD_eq_getElem?_getD,List.getElem?_eq_getElem h2];rfl
 rw [g1,g2,Ko h1,ir h1];clear g1 g2 h2;obtain ⟨x,y,hx,hy,rfl⟩:∃ x y,x<W∧y<H∧a=y * W+x:=⟨a % W,a / W,Nat.mod_lt a hW0,Nat.div_lt_of_lt_mul (by rw [Nat.mul_comm];exact h1),by rw [Nat.mul_comm];exact (Nat.div_add_mod a W).symm⟩
 rw [(Rr hs hW hx (by omega)).2,rY hW hx]
section
open Go Go.SL Go.RowKit Go.Shelf
attribute [local go_sem] Oper.semAt_some Int.toNat_natCast
def wF (m:Image) {P:Nat × Nat→Prop} (l:List {p:Nat × Nat // P p}):List Pixel:=l.map fun x=>fy m x.1.1 x.1.2
theorem FF {m:Image} {P:Nat × Nat→Prop} {l:List {p:Nat × Nat // P p}}:(wF m l).length=l.length:=by simp [wF]
theorem SR {m:Image} {P:Nat × Nat→Prop} {l:List {p:Nat × Nat // P p}} {x : {p:Nat × Nat // P p}}:wF m (l ++ [x])=wF m l ++ [fy m x.1.1 x.1.2]:=by simp [wF]
theorem Rn {m:Image} {W H:Nat} {P:Nat × Nat→Prop} (hW:m.w=W) {l:List {p:Nat × Nat // P p}} (hl:l.length=H * W) (hR:vC W l):wF m l=nN m (H * W):=by
 refine List.ext_getElem (by rw [FF,gA,hl]) fun i h1 h2 => ?_;have hi:i<l.length:=by rw [FF] at h1;exact h1
 have e:=hR i hi;have eW:m.w.toNat=W:=by omega
 simp only [wF,nN,List.getElem_map,List.getElem_range,Vr,eW,e]
theorem HW {ok:Nat→Prop} {W:World} {w h:Int} {Bh oh Bw ow:Nat} (hd:bq ok W (CH w h) (.func (.func 136) #[] #[.pointer (some ⟨Bh,oh,none⟩), .pointer (some ⟨Bw,ow,none⟩)])):W.cell? ⟨Bw,ow,none⟩=some (.int .i64 w):=by
 obtain ⟨vs,hu,hs,hb⟩:=hd;simp only [Value.func.injEq,true_and] at hu;obtain ⟨b,o,h1,h2,h3⟩:=hb 1 (by decide);obtain ⟨x,x1,x2,x3⟩:=h3 0 (by decide);have x3:x = .int .i64 w:=x3;rw [← hu] at h1;have h1:Value.pointer (some ⟨Bw,ow,none⟩) = .pointer (some ⟨b,o,none⟩):=h1;simp only [Value.pointer.injEq,Option.some.injEq,Addr.mk.injEq,and_true] at h1;obtain ⟨rfl,rfl⟩:=h1;rw [← x3];exact x1
theorem Tt {ok:Nat→Prop} {W:World} {w h:Int} {u:Value} (hd:bq ok W (CH w h) u):∃ Bh oh Bw ow,u = .func (.func 136) #[] #[.pointer (some ⟨Bh,oh,none⟩), .pointer (some ⟨Bw,ow,none⟩)]∧ok Bh∧ok Bw∧W.cell? ⟨Bh,oh,none⟩=some (.int .i64 h)∧W.cell? ⟨Bw,ow,none⟩=some (.int .i64 w):=by
 obtain ⟨lb,hu,hlb,hcl⟩:=hd;obtain ⟨Bh,oh,e1,k1,c1⟩:=hcl 0 (by decide);obtain ⟨Bw,ow,e2,k2,c2⟩:=hcl 1 (by decide);obtain ⟨xh,qh,_,dh⟩:=c1 0 (by decide);obtain ⟨xw,qw,_,dw⟩:=c2 0 (by decide);have dh:xh = .int .i64 h:=dh;have dw:xw = .int .i64 w:=dw;rw [dh,Nat.add_zero] at qh;rw [dw,Nat.add_zero] at qw;refine ⟨Bh,oh,Bw,ow, ?_,k1,k2,qh,qw⟩;rw [hu];congr 1;rw [← e1,← e2];refine Array.ext hlb (fun i h1 h2 => ?_);have hi:i=0∨i=1:=by omega
 rcases hi with rfl|rfl
 ·simp [Array.getD,h1]
 ·simp [Array.getD,h1]
theorem a5r {n:Nat} {t:Array Value} (h:t.size=n):t=((List.range n).map fun i=>t.getD i undef).toArray:=by
 refine Array.ext (by simp [h]) fun i h1 h2 => ?_;simp [Array.getD,h1]
theorem pT (m:Image) (hf:aV m=false):aB Sg 42 [ag (aF m)] (fun r=>r = .b (.c (.p Jl))):=by
 have h1:=pX m;rw [hf] at h1;have ht:True:=trivial;refine az Tryz.func42 [.tmp 2] ?_;repeat' (first|with_reducible exact cz|refine aj ht ?_|refine bL ?_|((first|refine an (fun K hK => ?_)|refine pj ?_|refine aa (h1) ?_|refine aA (fun hg=>h1) ?_);and_intros;all_goals first|(refine hK _ ?_;clear hK K)|try exact ai)|((first|apply dC|apply dE);(case hf=>rfl);(case hc=>exact du);(all_goals first|(intro hb;(try simp only [nR] at hb))|skip))|exact bd|(refine aH (fun hb => ?_) (fun hb => ?_);all_goals try exact ax)|refine eo (fun KB hB => ?_)|(refine hB _ ?_;clear hB KB)|refine gM (S:=Sg) (by assumption) ?_|(refine bF ?_;(try clear hB KB);(try clear hK K)))
theorem lQ (m:Image) (hf:aV m=true):gC Sg 42 [ag (aF m)] 43 5 (m.h.toNat * m.w.toNat) (aQ aU (nN m (m.h.toNat * m.w.toNat))):=by
 have ht:True:=trivial;have h1:=pX m;rw [hf] at h1;have hpl:=Bc m.w m.h;obtain ⟨hfit,b1,b2,b3,b4,b5,hb⟩:=jf hf;have hwr:IntKind.i64.wrap (m.w * m.h)=m.w * m.h:=eK (by omega) (by omega);have hbm:0≤m.w * m.h∧m.w * m.h≤16777216:=by omega
 obtain ⟨W,hW⟩:∃ W:Nat,m.w=W:=⟨m.w.toNat,by omega⟩
 obtain ⟨H,hH⟩:∃ H:Nat,m.h=H:=⟨m.h.toNat,by omega⟩
 have eW:m.w.toNat=W:=by omega
 have eH:m.h.toNat=H:=by omega
 rw [eW,eH] at hb ⊢;refine XX Tryz.func42 rfl (rs:=[.tmp 2]) rfl rfl (Nat.le_of_ble_eq_true rfl) (bN ba) (fun ok w a g0 => ?_);refine ou dI (aP [(1, .b (.c (.ptr 0 0)))] [(0, .fix ((aF m).map CV.p))] 1) ?_ (show cX 30 _=true by decide +kernel) g0 (fun ρ1 a1 w1 g1 => ?_)
 ·repeat' (first|with_reducible exact cz|refine bL ?_|((first|refine an (fun K hK => ?_)|refine pj ?_);and_intros;all_goals first|(refine hK _ ?_;clear hK K)|try exact ai)|((first|apply dC|apply dE);(case hf=>rfl);(case hc=>exact du);(all_goals first|(intro hb;(try simp only [nR] at hb))|skip))|exact bd|(refine aH (fun hb => ?_) (fun hb => ?_);all_goals try exact ax)|refine eo (fun KB hB => ?_)|(refine hB _ ?_;clear hB KB)|refine gM (S:=Sg) (by assumption) ?_|(refine bF ?_;(try clear hB KB);(try clear hK K)))
  refine ⟨_, ?_,rfl⟩;refine ar [] ?_ ?_;and_intros;all_goals try exact ak
 refine ou dI (aP [(1, .b (.c (.ptr 0 0)))] [(0, .fix ((aF m).map CV.p))] 1) ?_ (show cX 30 _=true by decide +kernel) g1 (fun ρ2 a2 w2 g2 => ?_)
 ·repeat' (first|with_reducible exact cz|refine aj ht ?_|refine bL ?_|((first|refine an (fun K hK => ?_)|refine pj ?_|refine aa (h1) ?_|refine aA (fun hg=>h1) ?_);and_intros;all_goals first|(refine hK _ ?_;clear hK K)|try exact ai)|((first|apply dC|apply dE);(case hf=>rfl);(case hc=>exact du);(all_goals first|(intro hb;(try simp only [nR] at hb))|skip))|exact bd|(refine aH (fun hb => ?_) (fun hb => ?_);all_goals try exact ax)|refine eo (fun KB hB => ?_)|(refine hB _ ?_;clear hB KB)|refine gM (S:=Sg) (by assumption) ?_|(refine bF ?_;(try clear hB KB);(try clear hK K)))
  refine ⟨_, ?_,rfl⟩;refine ar [] ?_ ?_;and_intros;all_goals try exact ak
 refine ou dI (aP [(1, .b (.c (.ptr 0 0))),(3, .b (.c (.ptr 1 0)))] [(0, .fix ((aF m).map CV.p)),(1, .fix [.own 2 0]),(2, .arr 43 5 0 (aQ aU []))] 3) ?_ (show cX 30 _=true by decide +kernel) g2 (fun ρ3 a3 w3 g3 => ?_)
 ·repeat' (first|with_reducible exact cz|refine bL ?_|((first|refine an (fun K hK => ?_)|refine pj ?_);and_intros;all_goals first|(refine hK _ ?_;clear hK K)|try exact ai)|((first|apply dC|apply dE);(case hf=>rfl);(case hc=>exact du);(all_goals first|(intro hb;(try simp only [nR] at hb))|skip))|exact bd|(refine aH (fun hb => ?_) (fun hb => ?_);all_goals try exact ax)|refine eo (fun KB hB => ?_)|(refine hB _ ?_;clear hB KB)|refine gM (S:=Sg) (by assumption) ?_|(refine bF ?_;(try clear hB KB);(try clear hK K)))
  all_goals first|(rw [hwr];omega)|skip
  refine ⟨_, ?_,rfl⟩;refine ar [(1,some 2),(2,some 1)] ?_ ?_;and_intros;all_goals try exact ak
  exact .inr fun i hi=>absurd hi (Nat.not_lt_zero i)
 refine wp_seq ?_;refine ou dI (aP [(1, .b (.c (.ptr 0 0))),(3, .b (.c (.ptr 1 0))),(19, .b (.c (.p (CH m.w m.h))))] [(0, .fix ((aF m).map CV.p)),(1, .fix [.own 2 0]),(2, .arr 43 5 0 (aQ aU []))] 3) ?_ (show cX 30 _=true by decide +kernel) g3 (fun ρ a4 w4 g => ?_)
 ·repeat' (first|with_reducible exact cz|refine bL ?_|((first|refine an (fun K hK => ?_)|refine pj ?_|refine aa (hpl) ?_|refine aA (fun hg=>hpl) ?_);and_intros;all_goals first|(refine hK _ ?_;clear hK K)|try exact ai)|((first|apply dC|apply dE);(case hf=>rfl);(case hc=>exact du);(all_goals first|(intro hb;(try simp only [nR] at hb))|skip))|exact bd|(refine aH (fun hb => ?_) (fun hb => ?_);all_goals try exact ax)|refine eo (fun KB hB => ?_)|(refine hB _ ?_;clear hB KB)|refine gM (S:=Sg) (by assumption) ?_|(refine bF ?_;(try clear hB KB);(try clear hK K)))
  refine ⟨_, ?_,rfl⟩;refine ar [(1,some 1),(2,some 2)] ?_ ?_;and_intros;all_goals try exact ak
 refine wp_block ?_;clear g0 g1 g2 g3;have d19:bq (cd { w0:=w,ok0:=ok,rx:=none,N:=30 } _ ρ w4) w4 (CH m.w m.h) (a4.tmps.getD 19 undef):=g.slt 19;obtain ⟨Bh,oh,Bw,ow,hu,k1,k2,qh,qw⟩:=Tt d19;rw [hH] at qh;rw [hW] at qw;have hq:=a5r (n:=30) g.sz;obtain ⟨q,hqd⟩:∃ q:Nat→Value,q=fun i=>a4.tmps.getD i undef:=⟨_,rfl⟩
 have ha:a4.tmps = #[q 0,q 1,q 2,q 3,q 4,q 5,q 6,q 7,q 8,q 9,q 10,q 11,q 12,q 13,q 14,q 15,q 16,q 17,q 18,q 19,q 20,q 21,q 22,q 23,q 24,q 25,q 26,q 27,q 28,q 29]:=by rw [hq,← hqd];rfl
 have hu:q 19 = .func (.func 136) #[] #[.pointer (some ⟨Bh,oh,none⟩), .pointer (some ⟨Bw,ow,none⟩)]:=by rw [hqd];exact hu
 refine Vk (α := {p:Nat × Nat // p.1<W∧p.2<H}) dI g rfl rfl (fun pre=>(iP [(0, .fix ((aF m).map CV.p)),(1, .fix [.own 2 pre.length]),(2, .arr 43 5 pre.length (aQ aU (wF m pre)))],3)) rfl (n0:=2) ?n0 (fun _=>Nat.le_succ 2) (gf:=136)
  (lb := #[.pointer (some ⟨Bh,oh,none⟩), .pointer (some ⟨Bw,ow,none⟩)]) ?hg (enters_of Tryz.func136 (by kernel_rfl) rfl) (xT 3 (by omega) Bh oh Bw ow W H (by omega) (by omega) w4 qh qw) (fun h1 h2=>h2.trans h1) ?hkb (fun _=>rfl)
  (fun x => { tmps := #[q 0,q 1,q 2,q 3, .int .i64 x.1.1, .int .i64 x.1.2,q 6,q 7,q 8,q 9,q 10,q 11,q 12,q 13,q 14,q 15,q 16,q 17,q 18,q 19, .int .i64 x.1.1, .int .i64 x.1.2,q 22,q 23,q 24,q 25,q 26,q 27,q 28,q 29],defers:=[] }) (fun x=>ma [(1, .b (.c (.ptr 0 0))),(3, .b (.c (.ptr 1 0))),(4, .b (I x.1.1)),(5, .b (I x.1.2))]) ?assign (fun x=>⟨rfl,rfl⟩) ?fr ?kp (show cX 30 _=true by decide +kernel) (by decide +kernel) ?cw ?done
 case n0 =>
  refine fun s=>⟨?_,trivial⟩
  show (ma _ s).lt 2;simp only [ma];repeat' split
  all_goals (first|trivial|exact Nat.zero_lt_succ _|exact Nat.lt_succ_self _)
 case hg =>
  have e:a4.eval (.tmp 19)=q 19:=by rw [hqd];rfl
  exact e.trans hu
 case hkb =>
  intro W1 l o o' hl ho hc _;refine World.cell?_of_block (World.putObj_heap_other ?_);have:=k2.1;dsimp only;omega
 case assign =>
  intro l x W0 K hK;rw [ha];clear hqd hq ha hu d19
  gi_wp2
  exact hK
 case fr =>
  intro x pre ρ' W1 g' s;have e1 : #[q 0,q 1,q 2,q 3, .int .i64 x.1.1, .int .i64 x.1.2,q 6,q 7,q 8,q 9,q 10,q 11,q 12,q 13,q 14,q 15,q 16,q 17,q 18,q 19, .int .i64 x.1.1, .int .i64 x.1.2,q 22,q 23,q 24,q 25,q 26,q 27,q 28,q 29].getD 1 undef=a4.tmps.getD 1 undef:=by rw [ha];rfl
  have e3 : #[q 0,q 1,q 2,q 3, .int .i64 x.1.1, .int .i64 x.1.2,q 6,q 7,q 8,q 9,q 10,q 11,q 12,q 13,q 14,q 15,q 16,q 17,q 18,q 19, .int .i64 x.1.1, .int .i64 x.1.2,q 22,q 23,q 24,q 25,q 26,q 27,q 28,q 29].getD 3 undef=a4.tmps.getD 3 undef:=by rw [ha];rfl
  simp only [ma];split
  ·rename_i h;subst h;exact ⟨Nat.zero_lt_succ _,by rw [e1];exact g'.slt 1⟩
  split
  ·rename_i h;subst h;exact ⟨Nat.lt_succ_of_lt (Nat.lt_succ_self _),by rw [e3];exact g'.slt 3⟩
  split
  ·rename_i h;subst h;exact ⟨trivial,rfl⟩
  split
  ·rename_i h;subst h;exact ⟨trivial,rfl⟩
  ·exact ⟨trivial,trivial⟩
 case kp =>
  intro X Y r1 r2 W1 W2 g1 g2;have d1:bq _ W1 (CH m.w m.h) (a4.tmps.getD 19 undef):=g1.slt 19;have d2:bq _ W2 (CH m.w m.h) (a4.tmps.getD 19 undef):=g2.slt 19;have hu:a4.tmps.getD 19 undef = .func (.func 136) #[] #[.pointer (some ⟨Bh,oh,none⟩), .pointer (some ⟨Bw,ow,none⟩)]:=by rw [hqd] at hu;exact hu
  rw [hu] at d1 d2;exact (HW d2).trans (HW d1).symm
 case cw =>
  rintro pre ⟨⟨px,py⟩,hx,hy⟩ kf hlen hkf;have hp:=xf m px py hf (by omega) (by dsimp only at hx;omega) (by omega) (by dsimp only at hy;omega);have hsn := @SR m _ pre ⟨(px,py),hx,hy⟩;have hln:(wF m pre).length=pre.length:=FF;dsimp only at hsn;generalize fy m px py=pq at *
  dsimp only;show cw Sg _ _ (mkK [(1, .b (.c (.ptr 0 0))),(3, .b (.c (.ptr 1 0))),(4, .b (I (px:Nat))),(5, .b (I (py:Nat)))] [(0, .fix ((aF m).map CV.p)),(1, .fix [.own 2 pre.length]),(2, .arr 43 5 pre.length (aQ aU (wF m pre)))] 3 kf);refine wj ?_;refine nc (id:=7) (.br 0 (.br 1 (.br 2 (.br 3 (.br 4 (.br 5 (.br 6 (.br 7 .leaf .nil) .nil) .nil) .nil) .nil) .nil) .nil) .nil) (by decide +kernel) ?_ (fun K0 hW => ?_)
  ·exact bZ
  replace hW:=ka hW;repeat' (first|exact bp|(refine bO (fun K' hK' => ?_) ?_)|(refine aZ (hW _ ?_);clear hW)|((first|refine aa (hp) ?_|refine aA (fun hg=>hp) ?_);(try simp (maxSteps:=999999)(disch:=omega) only [go_sem]);and_intros;(all_goals first|(refine hK' _ ?_;clear hK' K')|trivial|omega|exact Nat.le_of_ble_eq_true rfl|exact ai|skip))|(simp (maxSteps:=999999)(disch:=omega) only [go_sem];and_intros;(all_goals first|(refine hK' _ ?_;clear hK' K')|trivial|omega|exact Nat.le_of_ble_eq_true rfl|exact ai|skip)))
  all_goals
   refine gi ?_;rw [hsn];show Wk _ _;refine ⟨mkK [] [(0, .fix ((aF m).map CV.p)),(1, .fix [.own 2 (pre.length+1)]),(2, .arr 43 5 (pre.length+1) (aQ aU (wF m pre ++ [pq])))] 3 kf, ?_, ?_,rfl,rfl⟩
   ·have key:=fun g hg=>gD (enc:=aU) (xs:=wF m pre) (x:=pq) (s:=5) (g:=g) hg;rw [hln] at key;refine a6A 2 [(1,some 1),(2,some 4)] hkf ?_ ?_;and_intros;all_goals try exact ak
    refine .inr (key _ fun j hj => ?_);have hivl:j=0∨j=1∨j=2∨j=3∨j=4:=by omega
    rcases hivl with rfl|rfl|rfl|rfl|rfl <;> rfl
   ·show iP _=iP _;rw [List.length_append,List.length_singleton,← hsn];rfl
 case done =>
  intro D xs W0 ρ' hD hS hd g';obtain ⟨hS1,hS2⟩:=hS;have hpl2:wF m xs=nN m (H * W):=Rn hW hS1 hS2;refine WG dI g' rfl rfl hd (Nat.le_trans g.frm.size hD) (show cX 30 _=true by decide +kernel) (fun _=>rfl) (fun _ _ h=>h) ?_;dsimp only;rw [hpl2,hS1];show cw Sg _ _ (aP [(1, .b (.c (.ptr 0 0))),(3, .b (.c (.ptr 1 0))),(19, .b (.c (.p (CH m.w m.h))))] [(0, .fix ((aF m).map CV.p)),(1, .fix [.own 2 (H * W)]),(2, .arr 43 5 (H * W) (aQ aU (nN m (H * W))))] 3);repeat' (first|with_reducible exact cz|refine aj ht ?_|refine bL ?_|((first|refine an (fun K hK => ?_)|refine pj ?_);and_intros;all_goals first|(refine hK _ ?_;clear hK K)|try exact ai)|((first|apply dC|apply dE);(case hf=>rfl);(case hc=>exact du);(all_goals first|(intro hb;(try simp only [nR] at hb))|skip))|exact bd|(refine aH (fun hb => ?_) (fun hb => ?_);all_goals try exact ax)|refine eo (fun KB hB => ?_)|(refine hB _ ?_;clear hB KB)|refine gM (S:=Sg) (by assumption) ?_|(refine bF ?_;(try clear hB KB);(try clear hK K)))
  refine ⟨_,rfl,fun i hi j hj => ?_⟩;have hivl:j=0∨j=1∨j=2∨j=3∨j=4:=by omega
  rcases hivl with rfl|rfl|rfl|rfl|rfl <;> exact ⟨_,rfl,rfl⟩
end
end Go.Proofs.YtdjmpacladhijaaGreatDoor
