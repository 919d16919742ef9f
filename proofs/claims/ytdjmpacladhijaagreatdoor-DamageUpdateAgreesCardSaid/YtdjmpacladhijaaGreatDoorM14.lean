/- Part of the proof: F6, F7, F14, F9, F15, F16, F17, U1, U2, U3, U4, U5, U6. -/
import Derived.Laws.Externs
import Derived.Test.YtdjmpacladhijaaGreatDoorM12
set_option linter.unusedSimpArgs false
set_option linter.unusedVariables false
set_option maxHeartbeats 4000000
set_option maxRecDepth 16000
namespace Go.Proofs.YtdjmpacladhijaaGreatDoor
open Go Go.SL
open Go.RowKit (wrap64)
theorem ov (b:Int):aB Sg 88 [I b] (fun x=>x = .tup [U (if b=8 then 255 else if b=16 then 65535 else 0),B (decide (b=8∨b=16))]):=by
 refine az Tryz.func88 [.tmp 2, .tmp 3] ?_
 repeat' (first|refine aC ?_|(refine aH (fun hb => ?_) (fun hb => ?_) <;> try exact ax))
 ·subst hb;rfl
 ·subst hb;rfl
 ·rw [if_neg (by assumption),if_neg (by assumption),decide_eq_false (by omega)]
theorem BW (n:Int):aB Sg 137 [I n] (fun x=>x = .b (B (decide (n < -1048576∨1048576<n)))):=by
 refine az Tryz.func137 [.tmp 2] ?_;repeat' (refine aC ?_)
 refine ga ?_
 (try simp only [Bool.and_eq_true,Bool.or_eq_true,Bool.not_eq_true',Bool.not_eq_false',decide_eq_true_eq,decide_eq_false_iff_not,ge_iff_le,gt_iff_lt,beq_iff_eq,bne_iff_ne,ne_eq,Bool.or_eq_false_iff,Bool.and_eq_false_imp,Bool.not_true,Bool.not_false])
 try omega
theorem Kj (o:Int):aB Sg 200 [I o] (fun x=>x = .b (.c (.p (.val (.string (xd o)))))):=by
 refine az Tryz.func200 [.tmp 2] ?_
 repeat' (first|refine aC ?_|(refine aH (fun hb => ?_) (fun hb => ?_) <;> try exact ax))
 ·rw [xd,rL,if_neg (by omega)];rfl
 ·have:o=1∨o=2∨o=3∨o=4∨o=5∨o=6∨o=7∨o=8∨o=9∨o=10∨o=11∨o=12:=by omega
  rcases this with rfl|rfl|rfl|rfl|rfl|rfl|rfl|rfl|rfl|rfl|rfl|rfl <;> rfl
theorem ET (o:Int):aB Sg 201 [I o] (fun x=>x = .b (.c (.p (.val (.string (Ct o)))))):=by
 refine az Tryz.func201 [.tmp 2] ?_
 repeat' (first|refine aC ?_|(refine aH (fun hb => ?_) (fun hb => ?_) <;> try exact ax))
 ·rw [Ct,if_neg (by omega)]
 ·have:o=1∨o=2∨o=3∨o=4∨o=5∨o=6∨o=7∨o=8∨o=9∨o=10∨o=11∨o=12:=by omega
  rcases this with rfl|rfl|rfl|rfl|rfl|rfl|rfl|rfl|rfl|rfl|rfl|rfl <;> rfl
theorem sP (o:Int):aB Sg 178 [I o] (fun x=>x = .b (B (jn o))):=by
 obtain ⟨_,_,_,_,h⟩:=pM o;refine az Tryz.func178 [.tmp 2] ?_;repeat' (first|refine an (fun K hK => ?_)|refine aa (Kj _) ?_|refine aw ?_|(refine aq hK ?_;try clear hK K))
 refine ga ?_;rw [h];simp [jn]
theorem oI (o:Int):aB Sg 179 [I o] (fun x=>x = .b (B (jn o))):=by
 have h:=Ao o;refine az Tryz.func179 [.tmp 2] ?_;repeat' (first|refine an (fun K hK => ?_)|refine aa (ET _) ?_|refine aw ?_|(refine aq hK ?_;try clear hK K))
 refine ga ?_;rw [h];simp [jn]
theorem Cn (l : List Int) (n : Int) (hl : l.length ≤ 4611686018427387904) :
  aB Sg 138 [.c (.p (dq l)),I n] (fun r=>r = .tup [.c (.p (dq (oO l n))),B (gj l n)]):=by
 refine bo ?_;refine az Tryz.func138 [.tmp 4, .tmp 5] ?_
 repeat' (first|refine aC ?_|(refine aH (fun hb => ?_) (fun hb => ?_) <;> try exact ax))
 ·have:gj l n=false:=by rw [gj,decide_eq_false (by omega)];rfl
  rw [oO,this];exact cJ ⟨fg bP,cD trivial,trivial⟩
 refine aK (X:=Nat) (fun i=>aP [(0, .b (.c (.p (dq l)))),(1, .b (I n)),(6, .b (.c (.own 2 n.toNat))),(7, .b (.c (.own 1 i))),(8, .b (I i))]
  [(1, .arr 3 1 i (aQ KW ((fC l n).take i))),(2, .arr 4 1 n.toNat (HJ (fC l n) i))] 3) (fun i=>(i:Int)≤n∧∀ k,k<i→oz (fC l n) n k=true) (fun i=>n.toNat - i) 0 ?_ ?_ ?_
 ·grind
 ·refine ar [(1,none),(2,some 0)] ?_ ?_;and_intros;all_goals try exact ak
  refine .inr fun a ha j hj => ?_;have:j=0:=by omega
  subst this;exact PV.le_refl _
 ·rintro i ⟨hi,hok⟩;have hx:i<n.toNat→(0≤n∧(l.length=0∨l.length=n))→(if 0<(l.length:Int) then l.getD (i:Int).toNat default else (i:Int))=(fC l n).getD i 0:=fun h1 h2=>by grind [fC,nO,Eb]
  repeat' (first|refine bL ?_|(refine an (fun K hK => ?_);and_intros;all_goals first|(refine hK _ ?_;clear hK K)|try exact ai)|(apply dC;(case hf=>rfl);(case hc=>exact du);(all_goals first|(intro hb;(try simp only [nR] at hb))|skip))|exact bd|(refine aH (fun hb => ?_) (fun hb => ?_);all_goals try exact ax)|(refine bF ?_;(try clear hB KB);(try clear hK K)))
  ·rw [hx (by omega) (by omega)] at hb;have:gj l n=false:=by
    refine IZ (i:=i) (by omega) (by omega) ?_;rw [oz];by_cases h1:0≤(fC l n).getD i 0∧(fC l n).getD i 0<n
    ·grind
    ·grind
   rw [oO,this];exact cJ ⟨fg bP,cD trivial,trivial⟩
  ·rw [hx (by omega) (by omega)] at hb;have hlen:=nf (l:=l) (n:=n) (by omega) (by omega);rw [ae];refine ao (i+1) ?_ ⟨by omega,fun k hk => ?_⟩ (by omega)
   ·have e:(fC l n).take (i+1)=(fC l n).take i ++ [(fC l n).getD i 0]:=by rw [List.take_add_one,List.getElem?_eq_getElem (by omega),List.getD_eq_getElem?_getD,List.getElem?_eq_getElem (by omega)];rfl
    have hlt:((fC l n).take i).length=i:=by rw [List.length_take];omega
    refine ar [(1,some 4),(2,some 2)] ?_ ?_;and_intros;all_goals try exact ak
    ·have key:=fun g hg=>gD (enc:=KW) (xs:=(fC l n).take i) (x:=(fC l n).getD i 0) (s:=1) (g:=g) hg;simp only [hlt,← e] at key;refine .inr (key _ fun j hj => ?_);have:j=0:=by omega
     subst this;simp only [gt_iff_lt,hx (by omega) (by omega)];rfl
    ·refine .inr fun a ha j hj => ?_;have:j=0:=by omega
     subst this;simp only [gt_iff_lt,hx (by omega) (by omega)];rw [← DE (by omega) hb.1.1];grind [PV.le,fC,PV.le_refl]
   grind [oz]
  ·have e:gj l n=true:=by
    rw [gj,decide_eq_true (by omega),Bool.true_and,List.all_eq_true];exact fun k hk=>hok k (by grind)
   have hlen:=nf (l:=l) (n:=n) (by omega) (by omega);have hi2:i=n.toNat:=by omega
   rw [oO,if_pos e,e,List.take_of_length_le (by omega),hlen,hi2];exact cJ ⟨cD trivial,cD trivial,trivial⟩
theorem JS (o:Op) (h1:1≤o.kind) (h3:o.kind≤3):aB Sg 177 [ag (cC o)] (fun x=>x = .b (B (!cZ o))):=by
 refine az Tryz.func177 [.tmp 2] ?_
 repeat' (first|refine aC ?_|(apply dC;(case hf=>rfl);(case hc=>exact du);(all_goals first|(intro hb;(try simp only [nR] at hb))|skip))|exact bd|(refine aH (fun hb => ?_) (fun hb => ?_) <;> try exact ax))
 ·refine congrArg (fun b=>SV.b (B (!b))) ?_;rw [Bool.eq_iff_iff,cZ,if_pos hb];simp
 ·refine congrArg (fun b=>SV.b (B (!b))) ?_;rw [Bool.eq_iff_iff];by_cases k1:o.kind=1
  ·cases hi:o.isolated <;> cases hk:o.knockout <;> by_cases hm:o.mask=0 <;> simp [cZ,k1,hi,hk,hm]
  ·have k2:o.kind=2:=by omega
   by_cases hm:o.mask=0 <;> by_cases q1:o.image=0 <;> by_cases q2:o.x=0 <;> by_cases q3:o.y=0 <;> simp [cZ,k2,hm,q1,q2,q3]
theorem a3j {s:Script} (h:¬(s.bits=8∨s.bits=16)):bJ s=1:=by grind [bJ]
theorem tJ (s:Script) (hs:ScriptLen s):aB Sg 87 [ag (ay s)] (fun x=>x = .b (I (bJ s))):=by
 obtain ⟨h1,h2,h3⟩:=hs;refine az Tryz.func87 [.tmp 2] ?_
 repeat' (first|refine aw ?_|refine an (fun K hK => ?_)|refine aa (ov _) ?_|refine aa (fK _) ?_|refine aA (fun hg=>qI _) ?_|refine aa (Ab _ _ _) ?_|refine aa (Cn _ _ (by omega)) ?_|refine aA (fun hg=>BW _) ?_|(refine aH (fun hb => ?_) (fun hb => ?_) <;> try exact ax)|(refine aq hK ?_;try clear hK K))
 ·rw [a3j hb]
 ·grind [KU,bu]
 all_goals
  have hw:bu 1048576 [s.canvas.x0,s.canvas.y0]=true:=by
   simp only [bu,List.all_cons,List.all_nil,Bool.and_true,Bool.and_eq_true,decide_eq_true_eq];omega
 ·rename_i q1 q;rw [Tg ⟨q1,q.1.1,hw⟩ hb]
 ·rename_i q1 q q2;rw [Rq ⟨q1,q.1.1,hw⟩ q2 hb]
 ·rename_i q1 q q2 q3;rw [Et ⟨q1,q.1.1,hw⟩ q2 q3,if_pos (by omega)]
 ·rename_i q1 q q2 q3;rw [Et ⟨q1,q.1.1,hw⟩ q2 q3,if_neg (by omega)]
theorem Iv {l:List Op}:eS l=false↔0<l.length∧((l.getD (l.length - 1) default).knockout=true∨(l.getD (l.length - 1) default).isolated=false):=by grind [eS]
theorem Sp {k a b c d:Int}:bu k [a,b,c,d]=false↔¬ (-k≤a∧a≤k ∧ -k≤b∧b≤k ∧ -k≤c∧c≤k ∧ -k≤d∧d≤k):=by grind [bu]
theorem Gj (s:Script) (i:Int) (l:List Op) (hs:ScriptLen s) (hl:l.length≤4611686018427387904):aB Sg 140 [ag (ay s),I i, .c (.p (kU l))] (fun x=>x = .b (I (iO s i l))):=by
 obtain ⟨h1,h2,h3⟩:=hs;refine az Tryz.func140 [.tmp 6] ?_
 repeat' (first|refine aw ?_|refine an (fun K hK => ?_)|refine aa (ov _) ?_|refine aa (JS _ (by omega) (by omega)) ?_|refine aa (sP _) ?_|refine aa (oI _) ?_|refine aa (BW _) ?_|refine aA (fun hg=>BW _) ?_|(refine aH (fun hb => ?_) (fun hb => ?_) <;> try exact ax)|(refine aq hK ?_;try clear hK K))
 all_goals
  refine Lw ?_;have hmx:aN s.bits=if s.bits=8 then 255 else if s.bits=16 then 65535 else 0:=rfl;have e:((l.length:Int) - 1).toNat=l.length - 1:=by omega
  simp only [iO,dM,Sp,Iv];try simp only [e] at *
  generalize s.ops.getD i.toNat default=o at *
  repeat (first|(with_reducible rfl)|(refine Eq.symm (Eq.trans (if_pos ?_) (Eq.symm ?_));focus (first|(assumption;done)|omega|(simp [*];done)))|(refine Eq.symm (Eq.trans (if_neg ?_) (Eq.symm ?_));focus (first|(assumption;done)|omega|(simp [*];done)))|(refine Eq.symm (Eq.trans (if_neg ?_) (Eq.symm ?_));focus (grind;done))|(refine Eq.symm (Eq.trans (if_pos ?_) (Eq.symm ?_));focus (grind;done)))
theorem Cr (s:Script) (hs:ScriptLen s):aB Sg 90 [ag (ay s)] (fun x=>x = .tup [I (gu s).1,I (gu s).2]):=by
 have hf:=tJ s hs;obtain ⟨h1,h2,h3⟩:=id hs;refine az Tryz.func90 [.tmp 2, .tmp 3] ?_
 repeat' (first|refine aw ?_|refine an (fun K hK => ?_)|refine aa (hf) ?_|(refine aH (fun hb => ?_) (fun hb => ?_) <;> try exact ax)|(refine aq hK ?_;try clear hK K))
 ·grind [gu]
 have hfo:=xb hb;rw [gu,if_pos hb];clear hf
 refine aK (X:=Nat × List Op × Nat × (Nat→Nat→PV)) (fun x=>aP [(1, .b (.c (.ptr 0 0))),(5, .b (.c (.own 1 x.2.1.length))),(6, .b (I x.1))]
  [(0, .fix ((ay s).map CV.p)),(1, .arr 33 12 x.2.2.1 x.2.2.2)] 2) (fun x=>x.1≤s.ops.length∧x.2.1.length≤x.1∧x.2.1.length≤x.2.2.1∧(∀ k,k<x.2.1.length→∀ j,j<12→x.2.2.2 k j=aQ cC x.2.1 k j) ∧
   ij s.bits s.images.length x.1 (s.ops.drop x.1) x.2.1=ij s.bits s.images.length 0 s.ops []) (fun x=>s.ops.length - x.1) (0,[],0,fun _ _ => .any) ?_ ?_ ?_
 ·grind
 ·refine ar [(1,none)] ?_ ?_;and_intros;all_goals try exact ak
 ·rintro ⟨i,l,m,g⟩ ⟨hi,hl,hm,hg,hgo⟩;dsimp only at hi hl hm hg hgo ⊢;have hv:=Gj s i l hs (by omega);have he:i<s.ops.length→iO s i l=dM s.bits s.images.length (s.ops.getD i default) l:=fun h=>by rw [iO,if_neg (by omega),Int.toNat_natCast]
  have hpop:i<s.ops.length→iO s i l=0→(s.ops.getD (i:Int).toNat default).kind=3→0<l.length:=fun h1 h2 h3=>by grind [DH,iO,dM]
  repeat' (first|refine aw ?_|refine an (fun K hK => ?_)|(refine aH (fun hb => ?_) (fun hb => ?_) <;> try exact ax)|(refine aq hK ?_;try clear hK K))
  ·refine fT ?_ ?_ ba ?_ (hv);try simp (maxSteps:=999999)(disch:=omega) only [go_sem]
   try (refine hK _ ?_;clear hK K)
   ·repeat' (first|refine aC ?_|((first|apply dC|apply dE);(case hf=>rfl);(case hc=>exact du);all_goals try (intro hb;try simp only [nR] at hb))|exact bd|(refine aH (fun hb => ?_) (fun hb => ?_) <;> try exact ax))
    ·grind [ij,na]
    ·have hn:∀ l',bn l (s.ops.getD i default)=l'→ij s.bits s.images.length (i+1) (s.ops.drop (i+1)) l'=ij s.bits s.images.length 0 s.ops []:=by
      rintro l' rfl;have q:=na (b:=s.bits) (n:=s.images.length) (l:=l) (show i<s.ops.length by omega);rw [if_pos (by omega)] at q;rw [← q,hgo]
     rw [ae];simp only [Int.toNat_natCast] at hpop ⊢;by_cases hk2:(s.ops.getD i default).kind=2
     ·have e2:((s.ops.getD i default).kind == 2)=true:=by rw [hk2];rfl
      simp only [e2,St.ite_t];refine ao (i+1,l ++ [s.ops.getD i default],l.length+1,aQ cC (l ++ [s.ops.getD i default])) ?_ ⟨by omega,by simp;omega,by simp,fun _ _ _ _=>rfl,hn _ (by grind [bn])⟩ (by omega);refine ar [(1,some 3)] ?_ ?_;and_intros;all_goals try exact ak
      ·simp
      ·refine .inr fun a ha j hj=>Ef hg (fun j hj => ?_) a (by grind) j hj;have hivl:j=0∨j=1∨j=2∨j=3∨j=4∨j=5∨j=6∨j=7∨j=8∨j=9∨j=10∨j=11:=by omega
       rcases hivl with rfl|rfl|rfl|rfl|rfl|rfl|rfl|rfl|rfl|rfl|rfl|rfl <;> rfl
     ·have e2:((s.ops.getD i default).kind == 2)=false:=by simpa using hk2
      simp only [e2,St.ite_f];by_cases hk3:(s.ops.getD i default).kind=3
      ·have e3:((s.ops.getD i default).kind == 3)=true:=by rw [hk3];rfl
       simp only [e3,St.ite_t];have hp:=hpop (by omega) hb hk3;refine ao (i+1,l.dropLast,m,g) ?_ ⟨by omega,by grind,by grind,HB hg,hn _ (by grind [bn])⟩ (by omega);refine ar [(1,some 1)] ?_ ?_;and_intros;all_goals try exact ak
       grind
      ·have e3:((s.ops.getD i default).kind == 3)=false:=by simpa using hk3
       simp only [e3,St.ite_f];refine ao (i+1,l,m,g) ?_ ⟨by omega,by grind,hm,hg,hn _ (by grind [bn])⟩ (by omega);refine ar [(1,some 1)] ?_ ?_;and_intros;all_goals try exact ak
   ·simp (maxSteps:=1000000) (disch:=omega) only [go_sem,fi,fY];rw [if_pos hm];exact ⟨jm,jm,El hg⟩
   ·trivial
  ·grind [ij]
  grind [ij]
theorem lB (n d:Int) (hn:Q64 n) (hd:Q64 d):aB Sg 187 [UQ n,UQ d] (fun r=>r = .b (UQ (cn n d))):=by
 obtain ⟨n0,n1⟩:=hn;obtain ⟨d0,d1⟩:=hd;refine az Tryz.func187 [.tmp 4] ?_
 repeat' (first|refine aC ?_|(apply dC;(case hf=>rfl);(case hc=>exact du);(all_goals first|(intro hb;(try simp only [nR] at hb))|skip))|exact bd|(refine aH (fun hb => ?_) (fun hb => ?_) <;> try exact ax))
 ·rw [cn,if_pos hb]
 ·have h1:=Int.emod_nonneg n hb;have h2:=Int.emod_lt_of_pos n (show 0<d by omega);have h3:0≤n / d:=Int.ediv_nonneg n0 d0;have h4:n / d≤n:=Int.ediv_le_self _ n0;have h5:n % d≥d - n % d→n / d+1≤n:=fun q=>by
   have:=MB n0 (show 0<d by omega);rw [cn,if_neg hb,if_pos q] at this;exact this.2
  rw [cn,if_neg hb,wq (n / d) ⟨h3,by omega⟩,wq (d - n % d) ⟨by omega,by omega⟩];by_cases q:n % d≥d - n % d
  ·have:=h5 q;rw [if_pos q,if_pos q,wq _ ⟨by omega,by omega⟩]
  ·rw [if_neg q,if_neg q]
theorem tz (m:Int):aB Sg 180 [U m] (fun r=>r = .b (B (decide (m=255∨m=65535)))):=by
 refine az Tryz.func180 [.tmp 2] ?_;repeat' (refine aC ?_)
 refine ga ?_
 (try simp only [Bool.and_eq_true,Bool.or_eq_true,Bool.not_eq_true',Bool.not_eq_false',decide_eq_true_eq,decide_eq_false_iff_not,ge_iff_le,gt_iff_lt,beq_iff_eq,bne_iff_ne,ne_eq,Bool.or_eq_false_iff,Bool.and_eq_false_imp,Bool.not_true,Bool.not_false])
 try omega
theorem iK (p:Pixel) (m:Int):aB Sg 139 [ag (aU p),U m] (fun r=>r = .b (B (oD p m))):=by
 refine az Tryz.func139 [.tmp 4] ?_;repeat' (refine aC ?_)
 refine ga ?_
 (try simp only [oD,Bool.and_eq_true,Bool.or_eq_true,Bool.not_eq_true',Bool.not_eq_false',decide_eq_true_eq,decide_eq_false_iff_not,ge_iff_le,gt_iff_lt,beq_iff_eq,bne_iff_ne,ne_eq,Bool.or_eq_false_iff,Bool.and_eq_false_imp,Bool.not_true,Bool.not_false])
 try omega
theorem SN (op f g m:Int) (hm:Full m) (hf:0≤f) (hfm:f≤m) (hg:0≤g) (hgm:g≤m):aB Sg 209 [I op,U f,U g,U m] (fun r=>r = .b (U (eC op f g m))):=by
 have hle:=hm.le;have hp:=hm.pos;have a1:0≤m * f∧m * f≤65535 * 65535:=⟨au (by omega) hf,aD hle (by omega) hf (by omega)⟩
 have a2:0≤(m - f) * g∧(m - f) * g≤65535 * 65535:=⟨au (by omega) hg,aD (by omega) (by omega) hg (by omega)⟩
 have a3:0≤f * g∧f * g≤65535 * 65535:=⟨au hf hg,aD (by omega) (by omega) hg (by omega)⟩
 have hs:=sv (op:=op) hm hf hfm hg hgm;have d1:decide (f>m)=false:=decide_eq_false (by omega);have d2:decide (g>m)=false:=decide_eq_false (by omega);have hi:=sP op;by_cases ho:1≤op∧op≤12
 ·have hv:op=1∨op=2∨op=3∨op=4∨op=5∨op=6∨op=7∨op=8∨op=9∨op=10∨op=11∨op=12:=by omega
  refine az Tryz.func209 [.tmp 8] ?_;rw [show jn op=true from decide_eq_true ho] at hi;rcases hv with rfl|rfl|rfl|rfl|rfl|rfl|rfl|rfl|rfl|rfl|rfl|rfl;all_goals
   repeat' (first|refine aj (And.intro d1 d2) ?_|refine aw ?_|refine an (fun K hK => ?_)|refine aa (hi) ?_|refine aa (lB _ m ⟨by omega,by omega⟩ ⟨by omega,by omega⟩) ?_|(refine aq hK ?_;try clear hK K))
  all_goals first
   | rfl
   | (refine congrArg (fun v=>SV.b (U v)) ?_;exact iX hs.1 (Int.le_trans hs.2 hle))
 ·rw [show jn op=false from decide_eq_false ho] at hi;refine az Tryz.func209 [.tmp 8] ?_;repeat' (first|refine aj (And.intro d1 d2) ?_|refine aw ?_|refine an (fun K hK => ?_)|refine aa (hi) ?_|(refine aq hK ?_;try clear hK K))
  unfold eC;repeat rw [if_neg (by omega)]
theorem BM (op a b m:Int) (hm:Full m) (ho:1≤op∧op≤12) (ha:0≤a) (ham:a≤m) (hb:0≤b) (hbm:b≤m):aB Sg 226 [I op,U a,U b,U m] (fun r=>r = .tup [U (iD op a b m),U (jy op a b m),B true]):=by
 have hle:=hm.le;have d1:decide (a>m)=false:=decide_eq_false (by omega);have d2:decide (b>m)=false:=decide_eq_false (by omega);have hi:=sP op;have hv:op=1∨op=2∨op=3∨op=4∨op=5∨op=6∨op=7∨op=8∨op=9∨op=10∨op=11∨op=12:=by omega
 refine az Tryz.func226 [.tmp 8, .tmp 9, .tmp 10] ?_;rw [show jn op=true from decide_eq_true ho] at hi;rcases hv with rfl|rfl|rfl|rfl|rfl|rfl|rfl|rfl|rfl|rfl|rfl|rfl;all_goals
  repeat' (first|refine aj (And.intro d1 d2) ?_|refine aw ?_|refine an (fun K hK => ?_)|refine aa (hi) ?_|(refine aq hK ?_;try clear hK K))
 all_goals rfl
theorem JT {op a b m:Int} (hm:Full m) (ha:0≤a) (ham:a≤m) (hb:0≤b) (hbm:b≤m):0≤iD op a b m * a∧iD op a b m * a≤65535 * 65535∧0≤jy op a b m * b∧jy op a b m * b≤65535 * 65535:=by
 have hle:=hm.le;have ⟨a1,a2⟩:=mI (op:=op) ha ham hb hbm;have ⟨b1,b2⟩:=oJ (op:=op) ha ham hb hbm;exact ⟨au a1 ha,aD (by omega) (by omega) ha (by omega),au b1 hb,aD (by omega) (by omega) hb (by omega)⟩
theorem IP (op a b m:Int) (hm:Full m) (ho:1≤op∧op≤12) (ha:0≤a) (ham:a≤m) (hb:0≤b) (hbm:b≤m):aB Sg 214 [I op,U a,U b,U m] (fun r=>r = .b (U (cK op a b m))):=by
 have hle:=hm.le;have hp:=hm.pos;have hf:=BM op a b m hm ho ha ham hb hbm;have hr:=JT (op:=op) hm ha ham hb hbm;have hn:=Hh (op:=op) hm ha ham hb hbm;have hl:=rQ (op:=op) hm ha ham hb hbm;have ⟨a1,a2⟩:=mI (op:=op) ha ham hb hbm;have ⟨b1,b2⟩:=oJ (op:=op) ha ham hb hbm;unfold cK at *
 generalize iD op a b m=fa at *
 generalize jy op a b m=fb at *
 refine az Tryz.func214 [.tmp 8] ?_;repeat' (first|with_reducible exact cz|refine an (fun K hK => ?_)|refine aa (hf) ?_|refine aa (lB _ m ⟨by omega,by omega⟩ ⟨by omega,by omega⟩) ?_|refine aw ?_|(refine aq hK ?_;try clear hK K))
section
theorem Vm {m:Int} (h:Full m):decide (m=255∨m=65535)=true:=decide_eq_true h.h
theorem rV (p:Pixel) (k m:Int) (hm:Full m) (hp:PixV p m) (hk:0≤k) (hkm:k≤m):aB Sg 182 [ag (aU p),U k,U m] (fun r=>r = .tup [ag (aU (bY p k m)),B true]):=by
 have hle:=hm.le;have hpos:=hm.pos;have hfs:=tz m;rw [Vm hm] at hfs;have hvs:=iK p m;rw [lA hp] at hvs;have d1:decide (k>m)=false:=decide_eq_false (by omega);have hv:=qv hm hp hk hkm;have z0:=hp.n0;have z1:=hp.n1;have z2:=hp.n2;have z3:=hp.a0;have z4:=hp.f0;obtain ⟨u0,u1,u2,u3,u4⟩:=hp.u hm;obtain ⟨v0,v1,v2,v3,v4⟩:=hv.u hm;have pr:∀ {x:Int},0≤x→x≤65535→0≤x * k∧x * k≤65535 * 65535:=fun h0 h1=>⟨au h0 hk,aD h1 (by omega) hk (by omega)⟩
 have q0:=pr hp.n0 u0;have q1:=pr hp.n1 u1;have q2:=pr hp.n2 u2;have q3:=pr hp.a0 u3;have q4:=pr hp.f0 u4;obtain ⟨e0,e1,e2,e3,e4⟩:(bY p k m).c0=cn (p.c0 * k) m∧(bY p k m).c1=cn (p.c1 * k) m∧(bY p k m).c2=cn (p.c2 * k) m∧(bY p k m).a=cn (p.a * k) m∧(bY p k m).f=cn (p.f * k) m:=⟨rfl,rfl,rfl,rfl,rfl⟩
 have n0:=hv.n0;have n1:=hv.n1;have n2:=hv.n2;have n3:=hv.a0;have n4:=hv.f0;rw [e0] at v0 n0;rw [e1] at v1 n1;rw [e2] at v2 n2;rw [e3] at v3 n3;rw [e4] at v4 n4;refine az Tryz.func182 [.cell 6 43, .tmp 7] ?_;repeat' (first|refine aj d1 ?_|refine aw ?_|refine an (fun K hK => ?_)|refine aa (hfs) ?_|refine aA (fun hg=>hvs) ?_|(refine aq hK ?_;try clear hK K))
 refine aK (X:=Int) (fun i=>aP [(1, .b (U k)),(2, .b (U m)),(3, .b (.c (.ptr 0 0))),(6, .b (.c (.ptr 1 0))),(8, .b (.c (.ptr 2 0))),(9, .b (I i))]
  [(0, .fix ((aU p).map CV.p)),(1, .fix ((aU bG).map CV.p)),(2, .fix [.p (PU (if 0<i then cn (p.c0 * k) m else 0)), .p (PU (if 1<i then cn (p.c1 * k) m else 0)), .p (PU (if 2<i then cn (p.c2 * k) m else 0)), .p (PU 0), .p (PU 0)])] 3) (fun i=>0≤i∧i≤3) (fun i=>(3 - i).toNat) 0 ?_ ?_ ?_
 ·omega
 ·refine ar [(1,some 1),(2,some 2)] ?_ ?_;and_intros;all_goals try exact ak
 ·intro i hi;have hiv:i=0∨i=1∨i=2∨i=3:=by omega
  rcases hiv with rfl|rfl|rfl|rfl
  ·repeat' (first|refine aw ?_|refine an (fun K hK => ?_)|refine aa (lB _ m ⟨by omega,by omega⟩ ⟨by omega,by omega⟩) ?_|(refine aH (fun hb => ?_) (fun hb => ?_) <;> try exact ax)|(refine aq hK ?_;try clear hK K))
   rw [ae];refine ao 1 ?_ (by omega) (by decide);refine ar [(1,some 1),(2,some 2)] ?_ ?_;and_intros;all_goals try exact ak
  ·repeat' (first|refine aw ?_|refine an (fun K hK => ?_)|refine aa (lB _ m ⟨by omega,by omega⟩ ⟨by omega,by omega⟩) ?_|(refine aH (fun hb => ?_) (fun hb => ?_) <;> try exact ax)|(refine aq hK ?_;try clear hK K))
   rw [ae];refine ao 2 ?_ (by omega) (by decide);refine ar [(1,some 1),(2,some 2)] ?_ ?_;and_intros;all_goals try exact ak
  ·repeat' (first|refine aw ?_|refine an (fun K hK => ?_)|refine aa (lB _ m ⟨by omega,by omega⟩ ⟨by omega,by omega⟩) ?_|(refine aH (fun hb => ?_) (fun hb => ?_) <;> try exact ax)|(refine aq hK ?_;try clear hK K))
   rw [ae];refine ao 3 ?_ (by omega) (by decide);refine ar [(1,some 1),(2,some 2)] ?_ ?_;and_intros;all_goals try exact ak
  ·repeat' (first|refine bL ?_|((first|refine an (fun K hK => ?_)|refine aa (lB _ m ⟨by omega,by omega⟩ ⟨by omega,by omega⟩) ?_);and_intros;all_goals first|(refine hK _ ?_;clear hK K)|try exact ai)|(refine aH (fun hb => ?_) (fun hb => ?_);all_goals try exact ax)|(refine bF ?_;(try clear hB KB);(try clear hK K)))
   rfl
theorem Ma (p:Pixel) (k o m:Int) (hm:Full m) (hp:PixV p m) (hk:0≤k) (hkm:k≤m) (ho:0≤o) (hom:o≤m):aB Sg 202 [ag (aU p),U k,U o,U m] (fun r=>r = .tup [ag (aU (bY (bY p k m) o m)),B true]):=by
 have h1:=rV p k m hm hp hk hkm;have h2:=rV (bY p k m) o m hm (qv hm hp hk hkm) ho hom;have ht:True:=trivial;refine az Tryz.func202 [.cell 8 43, .tmp 9] ?_;repeat' (first|refine aj ht ?_|refine aw ?_|refine an (fun K hK => ?_)|refine aa (h1) ?_|refine aa (h2) ?_|(refine aq hK ?_;try clear hK K))
 rfl
attribute [local go_sem] dA
theorem Qn (i k:Bool) (x:Acc) (b:Pixel):aB Sg 185 [B i,B k,ag (dA x),ag (aU b)] (fun r=>r = .tup [ag (dA (gL (cg i k x b))),ag (aU (cg i k x b))]):=by
 have ht:True:=trivial;cases i <;> cases k
 all_goals
  refine az Tryz.func185 [.cell 8 202, .cell 9 43] ?_;repeat' (first|refine aj ht ?_|((with_reducible refine vi (id:=6) [(23,8),(25,8),(10,8),(8,6),(9,7)] ?_ (fun K hK => ?_));exact bZ;refine bV ?_)|refine aw ?_|refine an (fun K hK => ?_)|(refine aq hK ?_;try clear hK K)|(refine pz hK ?_;try clear hK K))
 all_goals rfl
theorem tK (x:Acc) (b:Pixel) (m:Int) (hm:Full m) (h:AccV x b m):aB Sg 186 [ag (dA x),ag (aU b),U m] (fun r=>r = .b (B true)):=by
 have hfs:=tz m;rw [Vm hm] at hfs;have hvs:=iK b m;rw [lA h.bk] at hvs;have d0:decide (x.c0>x.a)=false:=decide_eq_false (by have:=h.l0;omega);have d1:decide (x.c1>x.a)=false:=decide_eq_false (by have:=h.l1;omega);have d2:decide (x.c2>x.a)=false:=decide_eq_false (by have:=h.l2;omega);have e1:decide (x.own≤x.a)=true:=decide_eq_true h.oa;have e2:decide (x.own≤x.f)=true:=decide_eq_true h.of;have e3:decide (x.a≤m)=true:=decide_eq_true h.am;have e4:decide (x.f≤m)=true:=decide_eq_true h.fm;have e5:(b.f == b.a)=true:=beq_iff_eq.2 h.bf;have ht:True:=trivial;refine az Tryz.func186 [.tmp 6] ?_;repeat' (refine aC ?_)
 refine aK (X:=Int) (fun i=>aP [(2, .b (U m)),(3, .b (.c (.ptr 0 0))),(4, .b (.c (.ptr 1 0))),(7, .b (I i))] [(0, .fix ((dA x).map CV.p)),(1, .fix ((aU b).map CV.p))] 2) (fun i=>0≤i∧i≤3) (fun i=>(3 - i).toNat) 0 ?_ ?_ ?_
 ·omega
 ·refine ar [(1,some 1)] ?_ ?_;and_intros;all_goals try exact ak
 ·intro i hi;rcases Ea hi with rfl|rfl|rfl|rfl
  ·repeat' (first|refine aj d0 ?_|refine aC ?_)
   rw [ae];refine ao 1 ?_ (by omega) (by decide);refine ar [(1,some 1)] ?_ ?_;and_intros;all_goals try exact ak
  ·repeat' (first|refine aj d1 ?_|refine aC ?_)
   rw [ae];refine ao 2 ?_ (by omega) (by decide);refine ar [(1,some 1)] ?_ ?_;and_intros;all_goals try exact ak
  ·repeat' (first|refine aj d2 ?_|refine aC ?_)
   rw [ae];refine ao 3 ?_ (by omega) (by decide);refine ar [(1,some 1)] ?_ ?_;and_intros;all_goals try exact ak
  ·repeat' (first|refine aj ht ?_|refine aw ?_|refine an (fun K hK => ?_)|refine aa (hfs) ?_|refine aA (fun hg=>hvs) ?_|(refine aq hK ?_;try clear hK K))
   rw [e1,e2,e3,e4,e5];rfl
theorem Al {c k own m:Int} (hm:0<m) (ho:0≤own) (hu:own≤65535):(if m * c>(m - own) * k then IntKind.u16.wrap (if own<cn (m * c - (m - own) * k) m then own else cn (m * c - (m - own) * k) m) else 0)=iC c k own m:=by
 unfold iC;by_cases q:(m - own) * k<m * c
 ·have h:=fj (n:=m * c - (m - own) * k) hm (by omega);generalize cn (m * c - (m - own) * k) m=z at *
  rw [if_pos q,if_pos q];split
  ·rw [iX ho hu];omega
  ·rw [iX h (by omega)];omega
 ·rw [if_neg q,if_neg q]
theorem wM (x:Acc) (b:Pixel) (m:Int) (hm:Full m) (h:AccV x b m):aB Sg 151 [ag (dA x),ag (aU b),U m] (fun r=>r = .tup [ag (aU (bU x b m)),B true]):=by
 have hva:=tK x b m hm h;have hle:=hm.le;have hpos:=hm.pos;have hrv:=pK hm h;obtain ⟨v0,v1,v2,v3,v4⟩:=hrv.u hm;have o0:=h.o0;have om:=h.om;have am:=h.am;have bm:=h.bk.am;have fact:∀ {c k:Int},0≤c→c≤x.a→0≤k→k≤b.a→0≤m * c∧m * c≤65535 * 65535∧0≤(m - x.own) * k∧(m - x.own) * k≤65535 * 65535:=fun h0 h1 h2 h3 =>
  ⟨au (by omega) h0,aD hle (by omega) h0 (by omega),au (by omega) h2,aD (by omega) (by omega) h2 (by omega)⟩
 have n0:=h.n0;have n1:=h.n1;have n2:=h.n2;have l0:=h.l0;have l1:=h.l1;have l2:=h.l2;have b0:=h.bk.n0;have b1:=h.bk.n1;have b2:=h.bk.n2;have k0:=h.bk.l0;have k1:=h.bk.l1;have k2:=h.bk.l2;have q0:=fact n0 l0 b0 k0;have q1:=fact n1 l1 b1 k1;have q2:=fact n2 l2 b2 k2;have ht:True:=trivial;refine az Tryz.func151 [.cell 6 43, .tmp 7] ?_;repeat' (first|refine aj ht ?_|refine aw ?_|refine an (fun K hK => ?_)|refine aa (hva) ?_|(refine aq hK ?_;try clear hK K))
 refine aK (X:=Int) (fun i=>aP [(2, .b (U m)),(3, .b (.c (.ptr 0 0))),(4, .b (.c (.ptr 1 0))),(6, .b (.c (.ptr 2 0))),(8, .b (.c (.ptr 3 0))),(9, .b (UQ m)),(10, .b (I i))]
  [(0, .fix ((dA x).map CV.p)),(1, .fix ((aU b).map CV.p)),(2, .fix ((aU bG).map CV.p)),(3, .fix [.p (PU (if 0<i then iC x.c0 b.c0 x.own m else 0)), .p (PU (if 1<i then iC x.c1 b.c1 x.own m else 0)), .p (PU (if 2<i then iC x.c2 b.c2 x.own m else 0)), .p (PU x.own), .p (PU x.f)])] 4)
  (fun i=>0≤i∧i≤3) (fun i=>(3 - i).toNat) 0 ?_ ?_ ?_
 ·omega
 ·refine ar [(1,some 1),(2,some 2),(3,some 3)] ?_ ?_;and_intros;all_goals try exact ak
 ·intro i hi;rcases Ea hi with rfl|rfl|rfl|rfl
  ·repeat' (first|refine aj ht ?_|refine aw ?_|refine an (fun K hK => ?_)|refine aa (lB _ m ⟨by omega,by omega⟩ ⟨by omega,by omega⟩) ?_|(apply dE;(case hf=>rfl);(case hc=>exact du);(all_goals first|(intro hb;(try simp only [nR] at hb))|skip))|exact bd|(refine aq hK ?_;try clear hK K))
   rw [ae];refine ao 1 ?_ (by omega) (by decide);refine ar [(1,some 1),(2,some 2),(3,some 3)] ?_ ?_;and_intros;all_goals try exact ak
   exact .inl (congrArg (fun v=>PV.val (.int .u16 v)) (Al hpos o0 (by omega)))
  ·repeat' (first|refine aj ht ?_|refine aw ?_|refine an (fun K hK => ?_)|refine aa (lB _ m ⟨by omega,by omega⟩ ⟨by omega,by omega⟩) ?_|(apply dE;(case hf=>rfl);(case hc=>exact du);(all_goals first|(intro hb;(try simp only [nR] at hb))|skip))|exact bd|(refine aq hK ?_;try clear hK K))
   rw [ae];refine ao 2 ?_ (by omega) (by decide);refine ar [(1,some 1),(2,some 2),(3,some 3)] ?_ ?_;and_intros;all_goals try exact ak
   exact .inl (congrArg (fun v=>PV.val (.int .u16 v)) (Al hpos o0 (by omega)))
  ·repeat' (first|refine aj ht ?_|refine aw ?_|refine an (fun K hK => ?_)|refine aa (lB _ m ⟨by omega,by omega⟩ ⟨by omega,by omega⟩) ?_|(apply dE;(case hf=>rfl);(case hc=>exact du);(all_goals first|(intro hb;(try simp only [nR] at hb))|skip))|exact bd|(refine aq hK ?_;try clear hK K))
   rw [ae];refine ao 3 ?_ (by omega) (by decide);refine ar [(1,some 1),(2,some 2),(3,some 3)] ?_ ?_;and_intros;all_goals try exact ak
   exact .inl (congrArg (fun v=>PV.val (.int .u16 v)) (Al hpos o0 (by omega)))
  ·repeat' (first|refine aj ht ?_|refine aC ?_)
   rfl
end
section
attribute [local go_sem] qE
theorem zO (a b:Int) (ha:Q64 a) (hb:Q64 b):aB Sg 223 [cY a,cY b] (fun r=>r = .b (ag (qE (a * b)))):=by
 have h:=uF a b ha.l ha.u hb.l hb.u;refine az Tryz.func223 [.cell 4 272] ?_;repeat' (first|refine an (fun K hK => ?_)|refine aa (h) ?_|refine aw ?_|(refine aq hK ?_;try clear hK K))
 rfl
theorem uB (x y:Int) (hx:Q128 x) (hy:Q128 y):aB Sg 254 [ag (qE x),ag (qE y)] (fun r=>r = .b (I (kT x y))):=by
 obtain ⟨x0,x1⟩:=hx;obtain ⟨y0,y1⟩:=hy;refine az Tryz.func254 [.tmp 4] ?_
 repeat' (first|refine aC ?_|(refine aH (fun hb => ?_) (fun hb => ?_) <;> try exact ax))
 ·rw [kT,if_pos (by omega)]
 ·rw [kT,if_neg (by omega),if_pos (by omega)]
 ·rename_i hb0;have hne:x≠y:=fun q=>by subst q;exact absurd (hb0 rfl rfl) (by decide)
  rw [kT,if_neg hne,if_neg (by omega)]
theorem qL (x y:Int) (hx:0≤x) (hy:0≤y) (h:x+y<340282366920938463463374607431768211456):aB Sg 222 [ag (qE x),ag (qE y)] (fun r=>r = .tup [ag (qE (x+y)),B true]):=by
 have qx:=vh (n:=x) ⟨hx,by omega⟩;have qy:=vh (n:=y) ⟨hy,by omega⟩;have h1:=zd (x % 18446744073709551616) (y % 18446744073709551616) 0 qx.2 qy.2 ⟨by decide,by decide⟩;have h2:=zd (x / 18446744073709551616) (y / 18446744073709551616) ((x % 18446744073709551616+y % 18446744073709551616+0) / 18446744073709551616) qx.1 qy.1 ⟨by omega,by omega⟩;refine az Tryz.func222 [.cell 4 272, .tmp 5] ?_
 repeat' (first|refine aw ?_|refine an (fun K hK => ?_)|refine qt (h1) ?_|refine qt (h2) ?_|(refine aH (fun hb => ?_) (fun hb => ?_) <;> try exact ax)|(refine aq hK ?_;try clear hK K))
 rw [show (x / 18446744073709551616 + y / 18446744073709551616 + (x % 18446744073709551616 + y % 18446744073709551616 + 0) / 18446744073709551616) % 18446744073709551616 = (x + y) / 18446744073709551616 by clear h1 h2; omega,
   show (x % 18446744073709551616+y % 18446744073709551616+0) % 18446744073709551616=(x+y) % 18446744073709551616 by clear h1 h2;omega]
 rfl
theorem RF (x y:Int) (hx:Q128 x) (hy:Q128 y) (h:x<y):aB Sg 239 [ag (qE x),ag (qE y)] (fun r=>r = .tup [ag (qE 0),B false]):=by
 have h0:=uB x y hx hy;rw [show kT x y = -1 by rw [kT,if_neg (by omega),if_pos h]] at h0;have ht:True:=trivial;refine az Tryz.func239 [.cell 4 272, .tmp 5] ?_;repeat' (first|refine aj ht ?_|refine aw ?_|refine an (fun K hK => ?_)|refine aa (h0) ?_|(refine aq hK ?_;try clear hK K))
 rfl
theorem FM (x y:Int) (hx:Q128 x) (hy:Q128 y) (h:y≤x):aB Sg 239 [ag (qE x),ag (qE y)] (fun r=>r = .tup [ag (qE (x - y)),B true]):=by
 have qx:=vh hx;have qy:=vh hy;have h0:=uB x y hx hy;have hc:0≤kT x y:=by
  unfold kT;split
  ·decide
  ·rw [if_neg (by omega)];decide
 have h1:=vk (x % 18446744073709551616) (y % 18446744073709551616) 0 qx.2 qy.2 ⟨by decide,by decide⟩;refine az Tryz.func239 [.cell 4 272, .tmp 5] ?_
 repeat' (first|refine aw ?_|refine an (fun K hK => ?_)|refine aa (h0) ?_|refine qt (h1) ?_|(refine aH (fun hb => ?_) (fun hb => ?_) <;> try exact ax)|(refine aq hK ?_;try clear hK K))
 rw [Bf, Bf, show (((x / 18446744073709551616 - y / 18446744073709551616) % 18446744073709551616 - if x % 18446744073709551616 < y % 18446744073709551616 + 0 then 1 else 0) % 18446744073709551616) = (x - y) / 18446744073709551616 by
   have:=hx.u;have:=hy.l;clear h0 h1;split <;> omega,
  show (x % 18446744073709551616+18446744073709551616 - y % 18446744073709551616 - 0) % 18446744073709551616=(x - y) % 18446744073709551616 by clear h0 h1;omega]
 rfl
end
section
attribute [local go_sem] qE
theorem Sd {a:Int} (h0:0≤a) (h1:a<18446744073709551616):CK .u64 a 1=a % 2:=by
 obtain ⟨n,rfl⟩:=Int.eq_ofNat_of_zero_le h0;have e:(BitVec.ofInt 64 (n:Int)).toNat=n:=by rw [BitVec.toNat_ofInt];omega
 show IntKind.u64.wrap (BitVec.ofInt 64 (n:Int) &&& BitVec.ofInt 64 1).toNat=_;rw [BitVec.toNat_and,e,show (BitVec.ofInt 64 1).toNat=2 ^ 1 - 1 by decide,Nat.and_two_pow_sub_one_eq_mod,rI (by omega) (by omega)];omega
theorem a7n {a:Int}:a.fdiv (2 ^ min 1 64)=a / 2:=by rw [Int.fdiv_eq_ediv_of_nonneg _ (by decide)];rfl
theorem rT (x y:Int) (hx:0≤x) (hy:Q64 y) (h:x * y<340282366920938463463374607431768211456):aB Sg 245 [ag (qE x),cY y] (fun r=>r = .tup [ag (qE (x * y)),B true]):=by
 obtain ⟨y0,y1⟩:=hy;have ht:True:=trivial;refine az Tryz.func245 [.cell 4 272, .tmp 5] ?_;repeat' (refine aC ?_)
 refine aK (X:=Int × Int × Int) (fun s=>aP [(1, .b (cY s.1)),(2, .b (.c (.ptr 0 0))),(4, .b (.c (.ptr 1 0))),(6, .b (.c (.ptr 2 0))),(7, .b (B true))]
  [(0, .fix ((qE s.2.1).map CV.p)),(1, .fix ((qE 0).map CV.p)),(2, .fix ((qE s.2.2).map CV.p))] 3) (fun s=>0≤s.1∧s.1<18446744073709551616∧0≤s.2.1∧0≤s.2.2∧s.2.2+s.2.1 * s.1=x * y) (fun s=>s.1.toNat) (y,x,0) ?_ ?_ ?_
 ·exact ⟨y0,y1,hx,Int.le_refl _,Int.zero_add _⟩
 ·refine ar [(1,some 1),(2,some 2)] ?_ ?_;and_intros;all_goals try exact ak
 ·rintro ⟨k,a,o⟩ ⟨k0,k1,a0,o0,hs⟩;dsimp only at k0 k1 a0 o0 hs ⊢;by_cases hk:k=0
  ·subst hk;rw [Int.mul_zero,Int.add_zero] at hs;subst hs
   repeat' (first|refine aC ?_|(refine aH (fun hb => ?_) (fun hb => ?_) <;> try exact ax))
   rfl
  ·have hak:a * 1≤a * k:=Int.mul_le_mul_of_nonneg_left (by omega) a0;have g1:decide (k>0)=true:=decide_eq_true (by omega);have hb1:=Sd k0 k1;have hsh:k.fdiv (2 ^ min 1 64)=k / 2:=a7n;have ha2:2≤k→a+a<340282366920938463463374607431768211456:=fun q=>by
    have:=Int.mul_le_mul_of_nonneg_left q a0;omega
   by_cases hp:k % 2=1
   ·have e1:(CK .u64 k 1 == 1)=true:=by rw [hb1,hp];rfl
    by_cases h2:k / 2=0
    ·have g2:decide (k.fdiv (2 ^ min 1 64)>0)=false:=decide_eq_false (by rw [hsh];omega);repeat' (first|refine aj (And.intro g1 (And.intro e1 g2)) ?_|refine aw ?_|refine an (fun K hK => ?_)|refine aa (qL o a o0 a0 (by omega)) ?_|(refine aq hK ?_;try clear hK K))
     refine ao (0,a,o+a) ?_ ⟨by dsimp only;omega,by dsimp only;omega,a0,by dsimp only;omega, ?_⟩ (by show (0:Int).toNat<k.toNat;omega)
     ·refine ar [(1,some 1),(2,some 2)] ?_ ?_;and_intros;all_goals try exact ak
      exact .inl (by rw [hsh,h2])
     ·have:k=1:=by omega
      subst this;show o+a+a * 0=x * y;rw [← hs,Int.mul_zero,Int.mul_one,Int.add_zero]
    ·have g2:decide (k.fdiv (2 ^ min 1 64)>0)=true:=decide_eq_true (by rw [hsh];omega);have hq:=ha2 (by omega);repeat' (first|refine aj (And.intro g1 (And.intro e1 g2)) ?_|refine aw ?_|refine an (fun K hK => ?_)|refine aa (qL o a o0 a0 (by omega)) ?_|refine aa (qL a a a0 a0 hq) ?_|(refine aq hK ?_;try clear hK K))
     refine ao (k / 2,a+a,o+a) ?_ ⟨by dsimp only;omega,by dsimp only;omega,by dsimp only;omega,by dsimp only;omega, ?_⟩ (by show (k / 2).toNat<k.toNat;omega)
     ·refine ar [(1,some 1),(2,some 2)] ?_ ?_;and_intros;all_goals try exact ak
      exact .inl (by rw [hsh])
     ·show o+a+(a+a) * (k / 2)=x * y;rw [← hs];have e:k=2 * (k / 2)+1:=by omega
      generalize k / 2=z at *
      subst e;grind
   ·have e1:(CK .u64 k 1 == 1)=false:=by rw [hb1];exact beq_eq_false_iff_ne.2 hp
    have g2:decide (k.fdiv (2 ^ min 1 64)>0)=true:=decide_eq_true (by rw [hsh];omega);have hq:=ha2 (by omega);repeat' (first|refine aj (And.intro g1 (And.intro e1 g2)) ?_|refine aw ?_|refine an (fun K hK => ?_)|refine aa (qL a a a0 a0 hq) ?_|(refine aq hK ?_;try clear hK K))
    refine ao (k / 2,a+a,o) ?_ ⟨by dsimp only;omega,by dsimp only;omega,by dsimp only;omega,by dsimp only;omega, ?_⟩ (by show (k / 2).toNat<k.toNat;omega)
    ·refine ar [(1,some 1),(2,some 2)] ?_ ?_;and_intros;all_goals try exact ak
     exact .inl (by rw [hsh])
    ·show o+(a+a) * (k / 2)=x * y;rw [← hs];have e:k=2 * (k / 2):=by omega
     generalize k / 2=z at *
     subst e;grind
end
section
attribute [local go_sem] qE mh
theorem Nj (x:Ex) (n:Int) (h:ExS x) (hn:Q128 n):aB Sg 257 [ag (mh x),ag (qE n)] (fun r=>r = .b (I (pD x n))):=by
 have hs:=xa h;have q64:Q64 x.q:=⟨h.q0,by have:=h.q1;omega⟩
 have r64:Q64 x.r:=⟨h.r0,by have:=h.r1;omega⟩
 have hn2:=(vh hn).2;have h1:=zO x.q x.q q64 q64;have h2:=rT (x.q * x.q) x.r hs.1 r64 hs.2.2.2;have h3:=zO (n % 18446744073709551616) (n % 18446744073709551616) hn2 hn2;have hl:n % 18446744073709551616 * (n % 18446744073709551616)≤18446744073709551615 * 18446744073709551615:=aD (by omega) (by omega) (by omega) (by omega);have h4:=uB (x.q * x.q * x.r) (n % 18446744073709551616 * (n % 18446744073709551616)) ⟨hs.2.2.1,hs.2.2.2⟩ ⟨au hn2.l hn2.l,by omega⟩;refine az Tryz.func257 [.tmp 4] ?_
 repeat' (first|refine aC ?_|(refine aH (fun hb => ?_) (fun hb => ?_) <;> try exact ax))
 ·rw [pD,if_pos hb]
 refine cM (id:=3) (.br 0 (.br 1 (.br 2 (.br 3 (.br 4 (.br 5 (.br 6 (.br 7 (.br 8 (.br 9 (.br 10 (.br 11 (.br 12 (.br 13 .leaf .nil) .nil) .nil) .nil) .nil) .nil) .nil) .nil) .nil) .nil) .nil) .nil) .nil) .nil) (by decide +kernel) bZ (fun K0 hW => ?_);refine (fun (tl:∀ st,Le st (aP [(3, .b (.c (.ptr 1 0))),(5, .b (.c (.ptr 2 0)))] [(1, .fix ((qE n).map CV.p)),(2, .fix ((qE (x.q * x.q * x.r)).map CV.p))] 3)→K0 st) => ?_) (fun st hl=>hW st _ hl ?_)
 ·clear hW;repeat' (first|exact bp|(refine bO (fun K' hK' => ?_) ?_)|(refine aZ (tl _ ?_);clear tl)|((first|refine aa (h1) ?_|refine aa (h2) ?_);(try simp (maxSteps:=999999)(disch:=omega) only [go_sem]);and_intros;(all_goals first|(refine hK' _ ?_;clear hK' K')|trivial|omega|exact Nat.le_of_ble_eq_true rfl|exact ai|skip))|(simp (maxSteps:=999999)(disch:=omega) only [go_sem];and_intros;(all_goals first|(refine hK' _ ?_;clear hK' K')|trivial|omega|exact Nat.le_of_ble_eq_true rfl|exact ai|skip)))
  all_goals
   refine ar [(1,some 1),(2,some 2)] ?_ ?_;and_intros;all_goals try exact ak
 clear hW;repeat' (first|refine an (fun K hK => ?_)|refine aa (h3) ?_|refine aa (h4) ?_|refine aw ?_|(refine aq hK ?_;try clear hK K))
 rw [pD,if_neg (by omega)]
def ly (x:Ex) (t:Bool) (n:Int):Int :=
 if n * x.d<(if t=true then 2 * x.p else x.p) then 1 else pD { x with q:=if t=true then 2 * x.q else x.q } (n * x.d - (if t=true then 2 * x.p else x.p))
theorem Ba {x:Ex} {n:Int} {t:Bool} (h:ExOk x) (hn:0≤n):(0≤ly x t n)↔pa x (if t=true then 2 else 1) n=true:=by
 obtain ⟨p0,p1,q0,q1,r0,r1,d0,d1,_⟩:=h;unfold ly pa;rw [decide_eq_true_eq];cases t
 ·simp only [Bool.false_eq_true,if_false,Int.one_mul];split
  ·omega
  ·rename_i q;rw [Fe (x := { x with q:=x.q }) ⟨p0,p1,q0,by first|omega|(dsimp only;omega),r0,r1,by first|omega|(dsimp only;omega),d1⟩ (by omega)];constructor
   ·exact fun q => .inr q
   ·rintro (q|q)
    ·have:n * x.d - x.p=0:=by omega
     rw [this];exact au (au q0 q0) r0
    ·exact q
 ·simp only [if_true];split
  ·omega
  ·rename_i q;rw [Fe (x := { x with q:=2 * x.q }) ⟨p0,p1,by first|omega|(dsimp only;omega),by first|omega|(dsimp only;omega),r0,r1,by first|omega|(dsimp only;omega),d1⟩ (by omega)];constructor
   ·exact fun q => .inr q
   ·rintro (q|q)
    ·have:n * x.d - 2 * x.p=0:=by omega
     rw [this];exact au (au (by first|omega|(dsimp only;omega)) (by first|omega|(dsimp only;omega))) r0
    ·exact q
theorem zI (x:Ex) (t:Bool) (n:Int) (h:ExOk x) (hn:Q64 n):aB Sg 244 [ag (mh x),B t,cY n] (fun r=>r = .b (I (ly x t n))):=by
 obtain ⟨p0,p1,q0,q1,r0,r1,d0,d1,_⟩:=h;have d64:Q64 x.d:=⟨by omega,d1⟩
 have h1:=zO n x.d hn d64;have hr:n * x.d≤18446744073709551615 * 18446744073709551615:=aD (by have:=hn.u;omega) (by omega) (by omega) (by omega);have hr0:=au hn.l d64.l;have h2:=qL x.p x.p p0 p0 (by omega);have q1:Q128 (n * x.d):=⟨hr0,by omega⟩
 have q2:Q128 x.p:=⟨p0,by omega⟩
 have q3:Q128 (x.p+x.p):=⟨by omega,by omega⟩
 have s1:ly x true n=if n * x.d<x.p+x.p then 1 else pD { x with q:=2 * x.q } (n * x.d - (x.p+x.p)):=by simp only [ly,if_true,Int.two_mul]
 have s2:ly x false n=if n * x.d<x.p then 1 else pD x (n * x.d - x.p):=rfl;have ht:True:=trivial;have hr2:x.p+x.p≤n * x.d→aB Sg 257 [ag (mh { x with q:=2 * x.q }),ag (qE (n * x.d - (x.p+x.p)))] (fun r=>r = .b (I (pD { x with q:=2 * x.q } (n * x.d - (x.p+x.p))))):=fun q =>
  Nj { x with q:=2 * x.q } (n * x.d - (x.p+x.p)) ⟨p0,p1,by dsimp only;omega,by dsimp only;omega,r0,r1,by dsimp only;omega,d1⟩ ⟨by omega,by omega⟩
 refine az Tryz.func244 [.tmp 6] ?_;repeat' (first|refine an (fun K hK => ?_)|refine aa (h1) ?_|(refine aq hK ?_;try clear hK K))
 refine cM (id:=2) (.br 0 (.br 1 (.br 2 (.br 3 (.br 4 (.br 5 (.br 6 .leaf .nil) .nil) .nil) (.br 4 (.br 3 (.br 5 (.br 6 .leaf .nil) .nil) .nil) .nil)) (.br 3 (.br 2 (.br 4 (.br 5 (.br 6 .leaf .nil) .nil) .nil) (.br 4 (.br 2 (.br 5 (.br 6 .leaf .nil) .nil) (.br 5 (.br 2 (.br 6 .leaf .nil) .nil) .nil)) .nil)) (.br 4 (.br 2 (.br 3 (.br 5 (.br 6 .leaf .nil) .nil) .nil) (.br 3 (.br 2 (.br 5 (.br 6 .leaf .nil) .nil) (.br 5 (.br 2 (.br 6 .leaf .nil) .nil) .nil)) .nil)) .nil))) .nil) .nil) (by decide +kernel) bZ (fun K0 hW => ?_);refine (fun (tl:∀ st,(Le st (aP [(1, .b (B t)),(7, .b (.c (.ptr 1 0))),(8, .b (.c (.ptr 2 0))),(9, .b (.c (.ptr 3 0)))] [(1, .fix ((qE (n * x.d)).map CV.p)),(2, .fix ((qE x.p).map CV.p)),(3, .fix ((mh x).map CV.p))] 4)∨Le st (aP [(1, .b (B t)),(7, .b (.c (.ptr 1 0))),(8, .b (.c (.ptr 3 0))),(9, .b (.c (.ptr 2 0)))] [(1, .fix ((qE (n * x.d)).map CV.p)),(3, .fix ((qE x.p).map CV.p)),(2, .fix ((mh x).map CV.p))] 4))→K0 st) => ?_) (fun st hl=>hl.elim (fun hl=>hW st _ hl ?_) (fun hl=>hW st _ hl ?_))
 ·clear hW;repeat' (first|exact bp|(refine bO (fun K' hK' => ?_) ?_)|(refine aZ (tl _ ?_);clear tl)|(simp (maxSteps:=999999)(disch:=omega) only [go_sem];and_intros;(all_goals first|(refine hK' _ ?_;clear hK' K')|trivial|omega|exact Nat.le_of_ble_eq_true rfl|exact ai|skip)))
  all_goals first|(refine Or.inl ?_;refine ar [(1,some 1),(2,some 2),(3,some 3)] ?_ ?_ <;> and_intros <;> exact ak)|(refine Or.inr ?_;refine ar [(1,some 1),(2,some 2),(3,some 3)] ?_ ?_ <;> and_intros <;> exact ak)
 all_goals
  clear hW;rename_i hl';clear hl hl' K0;cases t
  ·rw [s2];by_cases hc:n * x.d<x.p
   ·repeat' (first|refine aj ht ?_|refine aw ?_|refine an (fun K hK => ?_)|refine aa (RF _ _ q1 q2 hc) ?_|(refine aq hK ?_;try clear hK K))
    rw [if_pos hc]
   ·repeat' (first|refine aj ht ?_|refine aw ?_|refine an (fun K hK => ?_)|refine aa (FM _ _ q1 q2 (by omega)) ?_|refine aa (Nj x (n * x.d - x.p) ⟨p0,p1,q0,by omega,r0,r1,by omega,d1⟩ ⟨by omega,by omega⟩) ?_|(refine aq hK ?_;try clear hK K))
    rw [if_neg hc]
  ·rw [s1];by_cases hc:n * x.d<x.p+x.p
   ·repeat' (first|refine aj ht ?_|refine aw ?_|refine an (fun K hK => ?_)|refine aa (h2) ?_|refine aa (RF _ _ q1 q3 hc) ?_|(refine aq hK ?_;try clear hK K))
    rw [if_pos hc]
   ·repeat' (first|refine aj ht ?_|refine aw ?_|refine an (fun K hK => ?_)|refine aa (h2) ?_|refine aa (FM _ _ q1 q3 (by omega)) ?_|refine aa (hr2 (by omega)) ?_|(refine aq hK ?_;try clear hK K))
    rw [if_neg hc]
end
section
attribute [local go_sem] qE mh
theorem Cz (x:Ex) (h:ExOk x):aB Sg 256 [ag (mh x)] (fun r=>r = .b (B true)):=by
 obtain ⟨p0,p1,q0,q1,r0,r1,d0,d1,_⟩:=h;have g1:decide (x.p / 18446744073709551616<4294967296)=true:=decide_eq_true (by omega);have g2:decide (x.q<70368744177664)=true:=decide_eq_true q1;have g3:decide (x.r<8589934592)=true:=decide_eq_true r1;have g4:decide (x.d≥1)=true:=decide_eq_true d0;refine az Tryz.func256 [.tmp 2] ?_;repeat' (refine aC ?_)
 rw [g1,g2,g3,g4];rfl
theorem Vj (x:Ex) (h:ExOk x):aB Sg 243 [ag (mh x)] (fun r=>r = .tup [cY (en x),B true]):=by
 have hv:=Cz x h;have ht:True:=trivial;have t1:=zI x false 9223372036854775808 h ⟨by decide,by decide⟩;have b1:decide (ly x false 9223372036854775808≥0)=false:=by
  refine decide_eq_false fun q => ?_;have q1:=(Ba (t:=false) h (by decide)).1 q;have q2:=vy (by have:=h.d0;omega) q1 (show (4611686018427387904:Int)≤9223372036854775808 by decide);have:=h.b;simp only [Bool.false_eq_true,if_false] at q2;rw [q2] at this;cases this
 refine az Tryz.func243 [.tmp 2, .tmp 3] ?_;repeat' (first|refine aj b1 ?_|refine aw ?_|refine an (fun K hK => ?_)|refine aa (hv) ?_|refine aA (fun hg=>t1) ?_|(refine aq hK ?_;try clear hK K))
 refine aK (X:=Int × Int) (fun s=>aP [(1, .b (.c (.ptr 0 0))),(4, .b (cY s.1)),(5, .b (I s.2))] [(0, .fix ((mh x).map CV.p))] 1)
  (fun s => -1≤s.2∧s.2≤62∧0≤s.1∧s.1+2 ^ (s.2+1).toNat≤9223372036854775808∧s.1 % 2 ^ (s.2+1).toNat=0∧zK (pa x 1) (s.2+1).toNat s.1=en x) (fun s=>(s.2+1).toNat) (0,62) ?_ ?_ ?_
 ·exact ⟨by decide,by decide,by decide,by decide,by decide,rfl⟩
 ·refine ar [(1,some 1)] ?_ ?_;and_intros;all_goals try exact ak
 ·rintro ⟨n,i⟩ ⟨i0,i1,n0,n1,hm,hs⟩;dsimp only at i0 i1 n0 n1 hm hs ⊢;by_cases hi:0≤i
  ·obtain ⟨k,rfl⟩:=Int.eq_ofNat_of_zero_le hi;have ek:((k:Int)+1).toNat=k+1:=rfl;rw [ek] at n1 hm hs;have hp:(2:Int) ^ (k+1)=2 ^ k+2 ^ k:=by rw [Int.pow_succ];omega
   have hpos:(0:Int)<2 ^ k:=Int.pow_pos (by decide);rw [hp] at n1;have hor:=MO (n:=n) (k:=k) n0 (by omega) hm (by omega);have t2:=zI x false (n+2 ^ k) h ⟨by omega,by omega⟩;have tg:=Ba (t:=false) (n:=n+2 ^ k) h (by omega);simp only [Bool.false_eq_true,if_false] at tg;rw [show zK (pa x 1) (k+1) n=zK (pa x 1) k (if pa x 1 (n+2 ^ k)=true then n+2 ^ k else n) from rfl] at hs;have hm1:n % 2 ^ k=0:=by rw [← Int.emod_emod_of_dvd n (show (2:Int) ^ k ∣ 2 ^ (k+1) from ⟨2,by rw [Int.pow_succ]⟩),hm,Int.zero_emod]
   have hm2:(n+2 ^ k) % 2 ^ k=0:=by rw [Int.add_emod_right,hm1]
   have g0:decide ((k:Int)≥0)=true:=decide_eq_true hi;have es:IntKind.u64.wrap (1 * 2 ^ min ((k:Int)).toNat 64)=2 ^ k:=by
    rw [Int.toNat_natCast,Nat.min_eq_left (by omega),Int.one_mul];exact rI (by omega) (by omega)
   have eb:QT .u64 n (IntKind.u64.wrap (1 * 2 ^ min ((k:Int)).toNat 64))=n+2 ^ k:=by rw [es,hor]
   rw [← eb] at t2;have ez:((k:Int) - 1+1).toNat=k:=by omega
   by_cases hg:ly x false (n+2 ^ k)≥0
   ·have g1:decide (ly x false (QT .u64 n (IntKind.u64.wrap (1 * 2 ^ min ((k:Int)).toNat 64)))≥0)=true:=by rw [eb];exact decide_eq_true hg
    rw [if_pos (tg.1 hg)] at hs;repeat' (first|refine aj (And.intro g0 g1) ?_|refine aw ?_|refine an (fun K hK => ?_)|refine aa (t2) ?_|(apply dE;(case hf=>rfl);(case hc=>exact du);(all_goals first|(intro hb;(try simp only [nR] at hb))|skip))|exact bd|(refine aq hK ?_;try clear hK K))
    refine ao (n+2 ^ k,(k:Int) - 1) ?_ ⟨by dsimp only;omega,by dsimp only;omega,by dsimp only;omega, ?_, ?_, ?_⟩ ?_
    ·refine ar [(1,some 1)] ?_ ?_;and_intros;all_goals try exact ak
     exact .inl (by rw [eb,if_pos hg])
    ·dsimp only;rw [ez];omega
    ·dsimp only;rw [ez];exact hm2
    ·dsimp only;rw [ez];exact hs
    ·dsimp only;omega
   ·have g1:decide (ly x false (QT .u64 n (IntKind.u64.wrap (1 * 2 ^ min ((k:Int)).toNat 64)))≥0)=false:=by rw [eb];exact decide_eq_false hg
    rw [if_neg (fun q=>hg (tg.2 q))] at hs;repeat' (first|refine aj (And.intro g0 g1) ?_|refine aw ?_|refine an (fun K hK => ?_)|refine aa (t2) ?_|(apply dE;(case hf=>rfl);(case hc=>exact du);(all_goals first|(intro hb;(try simp only [nR] at hb))|skip))|exact bd|(refine aq hK ?_;try clear hK K))
    refine ao (n,(k:Int) - 1) ?_ ⟨by dsimp only;omega,by dsimp only;omega,by dsimp only;omega, ?_, ?_, ?_⟩ ?_
    ·refine ar [(1,some 1)] ?_ ?_;and_intros;all_goals try exact ak
     exact .inl (by rw [eb,if_neg hg])
    ·dsimp only;rw [ez];omega
    ·dsimp only;rw [ez];exact hm1
    ·dsimp only;rw [ez];exact hs
    ·dsimp only;omega
  ·have g0:decide (i≥0)=false:=decide_eq_false hi;have ez:(i+1).toNat=0:=by omega
   rw [ez] at hs;rw [← hs];repeat' (first|refine aj g0 ?_|refine aC ?_)
   rfl
theorem tO (x:Ex) (h:ExOk x):aB Sg 224 [ag (mh x)] (fun r=>r = .tup [cY (hx x),B true]):=by
 have hf:=Vj x h;have ht:True:=trivial;obtain ⟨_,_,f0,f1⟩:=ki h;have t1:=zI x true (2 * en x+1) h ⟨by omega,by omega⟩;have tg:=Ba (t:=true) (n:=2 * en x+1) h (by omega);simp only [if_true] at tg;unfold hx;refine az Tryz.func224 [.tmp 2, .tmp 3] ?_;by_cases hg:ly x true (2 * en x+1)≥0
 ·have g1:decide (ly x true (2 * en x+1)≥0)=true:=decide_eq_true hg;have g2:decide (en x+1≥9223372036854775808)=false:=decide_eq_false (by omega);rw [if_pos (tg.1 hg)];repeat' (first|with_reducible exact cz|refine aj (And.intro g1 (And.intro g2 ht)) ?_|refine aw ?_|refine an (fun K hK => ?_)|refine aa (hf) ?_|refine aa (t1) ?_|(refine aq hK ?_;try clear hK K))
 ·have g1:decide (ly x true (2 * en x+1)≥0)=false:=decide_eq_false hg;have g2:decide (en x≥9223372036854775808)=false:=decide_eq_false (by omega);rw [if_neg (fun q=>hg (tg.2 q))];repeat' (first|with_reducible exact cz|refine aj (And.intro g1 (And.intro g2 ht)) ?_|refine aw ?_|refine an (fun K hK => ?_)|refine aa (hf) ?_|refine aa (t1) ?_|(refine aq hK ?_;try clear hK K))
end
end Go.Proofs.YtdjmpacladhijaaGreatDoor
