/- Part of the proof: E6, E7. -/
import Derived.Test.YtdjmpacladhijaaGreatDoorM32
import Derived.Test.YtdjmpacladhijaaGreatDoorM45
set_option linter.unusedSimpArgs false
set_option linter.unusedVariables false
set_option maxHeartbeats 2000000
set_option maxRecDepth 16000
namespace Go.Proofs.YtdjmpacladhijaaGreatDoor
open Go Go.SL
open Go.RowKit (wrap64)
section
attribute [local go_sem] Int.toNat_natCast vP vf0 vf1 vf2 vf3 vf4 vf5 vf6 vf7 vf8 vf9 Qj SA Vl Rs QG a0e Xx WR
theorem a3w:Sg.fld 176 0=some (0,1,false):=by kernel_rfl
theorem a3I:Sg.fld 176 1=some (1,1,false):=by kernel_rfl
attribute [local go_sem] a3w a3I
theorem lu (s:Script) (V:VOps s) (hs:ScriptLen s) (n i:Int):aB Sg 70 [vP s,I n,I i] (fun x=>x = .b (B (uN s n i))):=by
 have hn:=V.cnt;refine az Tryz.func70 [.tmp 6] ?_;repeat' (first|refine an (fun K hK => ?_)|refine aa (iF) ?_|(refine aq hK ?_;try clear hK K))
 refine xL (B false) ?_ ?_ trivial ?_ (fun hg => ?_) (fun hg => ?_)
 ·rfl
 ·rfl
 ·first|(simp (maxSteps:=999999)(disch:=omega) only [go_sem];done)|(simp (maxSteps:=999999)(disch:=omega) only [go_sem];rfl)
 ·simp only [Bool.and_eq_true,decide_eq_true_eq,bne_iff_ne,ne_eq,ge_iff_le] at hg;obtain ⟨⟨⟨⟨g1,g2⟩,g3⟩,g4⟩,h3⟩:=hg;obtain ⟨k,rfl⟩:=Int.eq_ofNat_of_zero_le g3;have hk:k<s.ops.length:=by omega
  have h3:(ah s.ops k).kind≠3:=h3;have g2:n<10:=g2;have hv:n=1∨n=2∨n=3∨n=4∨n=5∨n=6∨n=7∨n=8∨n=9:=by omega
  rcases hv with rfl|rfl|rfl|rfl|rfl|rfl|rfl|rfl|rfl
  ·have hsp:=FB s V hs k hk h3;have ht:qM (Int.toNat 1) 0=kA 109:=rfl;simp (maxSteps:=1000000) (disch:=omega) only [go_sem,ht,kA];refine ⟨⟨⟨⟨⟨by decide,by decide⟩,g3⟩,g4⟩,h3⟩, ?_⟩;refine gZ hsp ?_;refine bV ?_;refine hK _ ?_;clear hK;repeat' (refine aC ?_)
   exact vb rfl
  ·have hsp:=a4h s V k hk;have ht:qM (Int.toNat 2) 0=kA 111:=rfl;simp (maxSteps:=1000000) (disch:=omega) only [go_sem,ht,kA];refine ⟨⟨⟨⟨⟨by decide,by decide⟩,g3⟩,g4⟩,h3⟩, ?_⟩;refine gZ hsp ?_;refine bV ?_;refine hK _ ?_;clear hK;repeat' (refine aC ?_)
   exact vb rfl
  ·have hsp:=Ke s V k hk;have ht:qM (Int.toNat 3) 0=kA 112:=rfl;simp (maxSteps:=1000000) (disch:=omega) only [go_sem,ht,kA];refine ⟨⟨⟨⟨⟨by decide,by decide⟩,g3⟩,g4⟩,h3⟩, ?_⟩;refine gZ hsp ?_;refine bV ?_;refine hK _ ?_;clear hK;repeat' (refine aC ?_)
   exact vb rfl
  ·have hsp:=Lx s V hs k hk;have ht:qM (Int.toNat 4) 0=kA 113:=rfl;simp (maxSteps:=1000000) (disch:=omega) only [go_sem,ht,kA];refine ⟨⟨⟨⟨⟨by decide,by decide⟩,g3⟩,g4⟩,h3⟩, ?_⟩;refine gZ hsp ?_;refine bV ?_;refine hK _ ?_;clear hK;repeat' (refine aC ?_)
   exact vb rfl
  ·have hsp:=We s V hs k hk;have ht:qM (Int.toNat 5) 0=kA 114:=rfl;simp (maxSteps:=1000000) (disch:=omega) only [go_sem,ht,kA];refine ⟨⟨⟨⟨⟨by decide,by decide⟩,g3⟩,g4⟩,h3⟩, ?_⟩;refine gZ hsp ?_;refine bV ?_;refine hK _ ?_;clear hK;repeat' (refine aC ?_)
   exact vb rfl
  ·have hsp:=Kr s V k hk;have ht:qM (Int.toNat 6) 0=kA 117:=rfl;simp (maxSteps:=1000000) (disch:=omega) only [go_sem,ht,kA];refine ⟨⟨⟨⟨⟨by decide,by decide⟩,g3⟩,g4⟩,h3⟩, ?_⟩;refine gZ hsp ?_;refine bV ?_;refine hK _ ?_;clear hK;repeat' (refine aC ?_)
   exact vb rfl
  ·have hsp:=Og s V k hk;have ht:qM (Int.toNat 7) 0=kA 119:=rfl;simp (maxSteps:=1000000) (disch:=omega) only [go_sem,ht,kA];refine ⟨⟨⟨⟨⟨by decide,by decide⟩,g3⟩,g4⟩,h3⟩, ?_⟩;refine gZ hsp ?_;refine bV ?_;refine hK _ ?_;clear hK;repeat' (refine aC ?_)
   exact vb rfl
  ·have hsp:=Oa s V k hk;have ht:qM (Int.toNat 8) 0=kA 121:=rfl;simp (maxSteps:=1000000) (disch:=omega) only [go_sem,ht,kA];refine ⟨⟨⟨⟨⟨by decide,by decide⟩,g3⟩,g4⟩,h3⟩, ?_⟩;refine gZ hsp ?_;refine bV ?_;refine hK _ ?_;clear hK;repeat' (refine aC ?_)
   exact vb rfl
  ·have hsp:=Ph s V k hk;have ht:qM (Int.toNat 9) 0=kA 123:=rfl;simp (maxSteps:=1000000) (disch:=omega) only [go_sem,ht,kA];refine ⟨⟨⟨⟨⟨by decide,by decide⟩,g3⟩,g4⟩,h3⟩, ?_⟩;refine gZ hsp ?_;refine bV ?_;refine hK _ ?_;clear hK;repeat' (refine aC ?_)
   exact vb rfl
 ·refine bV ?_;refine hK _ ?_;clear hK;repeat' (refine aC ?_)
  refine vb ?_;rw [uN,show (decide (1≤n) && decide (n<10) && decide (0≤i) && decide (i<s.ops.length) && !decide ((ah s.ops i.toNat).kind=3))=false from hg,Bool.and_false];rfl
theorem TS (l:List Op) {i:Nat} (hi:i<l.length):Bv (l.take (i+1))=Bv (l.take i)+if (ah l i).kind=1∨(ah l i).kind=2 then 1 else 0:=by
 have e:l.take (i+1)=l.take i ++ [ah l i]:=by rw [Fq hi,List.take_add_one,List.getElem?_eq_getElem hi];rfl
 rw [e,zj,zj,np,je,Jb];rfl
theorem XA (l:List Op) (i:Nat):Bv (l.take i)≤i:=by
 rw [Bv];have:=List.length_filter_le (fun o:Op=>decide (o.kind=1∨o.kind=2)) (l.take i);have:=List.length_take_le i l;omega
theorem UM (s:Script) (hs:ScriptLen s):aB Sg 66 [ag (ay s)] (fun x=>x = .b (I (Bv s.ops))):=by
 obtain ⟨l1,l2,l3⟩:=id hs;refine az Tryz.func66 [.tmp 2] ?_;repeat' (refine aC ?_)
 refine aK (X:=Nat) (fun i=>aP [(3, .b (I (Bv (s.ops.take i)))),(7, .b (.c (.p (kU s.ops)))),(8, .b (I s.ops.length)),(9, .b (I i))] [] 1) (fun i=>i≤s.ops.length) (fun i=>s.ops.length - i) 0 ?_ ?_ ?_
 ·exact Nat.zero_le _
 ·refine ar [] ?_ ?_;and_intros;all_goals try exact ak
 ·intro i hi;rcases Nat.lt_or_ge i s.ops.length with hlt|hge
  ·have hbn:=XA s.ops i;have hst:=TS s.ops hlt;by_cases hk:(ah s.ops i).kind=1∨(ah s.ops i).kind=2
   ·have hq:((s.ops.getD i default).kind == 1 || (s.ops.getD i default).kind == 2)=true:=by rw [Bool.or_eq_true,beq_iff_eq,beq_iff_eq];exact hk
    rw [if_pos hk] at hst
    repeat' (first|refine aj hq ?_|refine aC ?_|(refine aH (fun hb => ?_) (fun hb => ?_) <;> try exact ax))
    rw [ae];refine ao (i+1) ?_ (by omega) (by omega);rw [hst];refine ar [] ?_ ?_;and_intros;all_goals try exact ak
   ·have hq:((s.ops.getD i default).kind == 1 || (s.ops.getD i default).kind == 2)=false:=by
     rw [Bool.or_eq_false_iff,beq_eq_false_iff_ne,beq_eq_false_iff_ne];exact ⟨fun q=>hk (.inl q),fun q=>hk (.inr q)⟩
    rw [if_neg hk] at hst
    repeat' (first|refine aj hq ?_|refine aC ?_|(refine aH (fun hb => ?_) (fun hb => ?_) <;> try exact ax))
    rw [ae];refine ao (i+1) ?_ (by omega) (by omega);rw [hst,Nat.add_zero];refine ar [] ?_ ?_;and_intros;all_goals try exact ak
  ·have hi2:i=s.ops.length:=by omega
   subst hi2
   repeat' (first|refine aC ?_|(refine aH (fun hb => ?_) (fun hb => ?_) <;> try exact ax))
   rw [List.take_length]
end
section
def vI (r:Rx):List PV:=[PI r.1,PI r.2]
attribute [local go_sem] Int.toNat_natCast vP vf0 vf1 vf2 vf3 vf4 vf5 vf6 vf7 vf8 vf9 Qj SA Vl Rs QG vI a0e Xx WR a3w a3I
theorem mR (s:Script) (i n:Nat):kM s i (n+1)=kM s i n ++ if uN s n i=true then [((n:Int),(i:Int))] else []:=by
 rw [kM,List.range_succ,List.filter_append,List.map_append];congr 1;by_cases h:uN s n i=true
 ·rw [if_pos h];simp only [List.filter_cons,h,if_true,List.filter_nil];rfl
 ·rw [if_neg h];simp only [List.filter_cons,h,List.filter_nil];rfl
theorem pG (s:Script) (i:Nat):jv s (i+1)=jv s i ++ kM s i 10:=by rw [jv,List.range_succ,List.flatMap_append,List.flatMap_cons,List.flatMap_nil,List.append_nil];rfl
theorem Tj (s:Script) (i:Nat) {n m:Nat} (h:n≤m):∃ r,kM s i m=kM s i n ++ r:=by
 induction m with
 | zero=>exact ⟨[],by rw [show n=0 by omega,List.append_nil]⟩
 | succ m ih =>
  rcases Nat.lt_or_ge n (m+1) with h1|h1
  ·obtain ⟨r,hr⟩:=ih (by omega);rw [mR,hr,List.append_assoc];exact ⟨_,rfl⟩
  ·exact ⟨[],by rw [show n=m+1 by omega,List.append_nil]⟩
theorem QD (s:Script) {n m:Nat} (h:n≤m):∃ r,jv s m=jv s n ++ r:=by
 induction m with
 | zero=>exact ⟨[],by rw [show n=0 by omega,List.append_nil]⟩
 | succ m ih =>
  rcases Nat.lt_or_ge n (m+1) with h1|h1
  ·obtain ⟨r,hr⟩:=ih (by omega);rw [pG,hr,List.append_assoc];exact ⟨_,rfl⟩
  ·exact ⟨[],by rw [show n=m+1 by omega,List.append_nil]⟩
theorem VT {s:Script} {i n:Nat} (hi:i<s.ops.length) (hn:n<10) (h0:jv s i=[]) (h1:kM s i n=[]) (ha:uN s n i=true):(jv s s.ops.length).head?=some ((n:Int),(i:Int)):=by
 obtain ⟨r,hr⟩:=QD s (n:=i+1) (m:=s.ops.length) hi;obtain ⟨q,hq⟩:=Tj s i (n:=n+1) (m:=10) hn;rw [hr,pG,h0,hq,mR,h1,if_pos ha];rfl
theorem LF {l:List Rx} {x:Rx} {g:Nat→Nat→PV} (hg:∀ j,j<2→g 0 j=(vI x).getD j .any):∀ a,a<l.length+1→∀ j,j<2→PV.le (dV l.length (aQ vI l) g a j) (aQ vI (l ++ [x]) a j):=fun a ha j hj=>by
 have e:dV l.length (aQ vI l) g a j=aQ vI (l ++ [x]) a j:=by
  unfold dV;by_cases h:a<l.length
  ·rw [if_pos h];exact congrArg (fun o=>(vI o).getD j .any) (show l.getD a default=(l ++ [x]).getD a default by rw [List.getD_eq_getElem?_getD,List.getD_eq_getElem?_getD,List.getElem?_append_left h])
  ·have ea:a=l.length:=by omega
   subst ea;rw [if_neg h,Nat.sub_self,hg j hj];exact congrArg (fun o=>(vI o).getD j .any) (show x=(l ++ [x]).getD l.length default by rw [List.getD_eq_getElem?_getD,List.getElem?_append_right (Nat.le_refl _),Nat.sub_self];rfl)
 rw [e];exact fun _ _ _ h=>h
theorem Bz (s:Script) (V:VOps s) (hs:ScriptLen s) (n i:Int):aB Sg 65 [ag (ay s),I n,I i] (fun x=>x = .b (B (uN s n i))):=by
 have h1:=sW s V hs (xg V);have h2:=lu s V hs n i;refine az Tryz.func65 [.tmp 6] ?_;repeat' (first|with_reducible exact cz|refine an (fun K hK => ?_)|refine aa (h1) ?_|refine aA (fun hg=>h2) ?_|refine aw ?_|(refine aq hK ?_;try clear hK K))
theorem RG (s:Script) (hs:ScriptLen s) (he:(gu s).1≠0):aB Sg 129 [ag (ay s)] (fun x=>x = .tup [ag [PI 0,PI 0],B false]):=by
 have h1:=Ns s hs he;refine az Tryz.func129 [.cell 2 81, .tmp 3] ?_
 repeat' (first|refine aw ?_|refine an (fun K hK => ?_)|refine aa (h1) ?_|(refine aH (fun hb => ?_) (fun hb => ?_) <;> try exact ax)|(refine aq hK ?_;try clear hK K))
 ·rfl
 ·exact absurd hb (by decide)
def Ew (l:List Rx):SV:=match l with|[] => .tup [ag [PI 0,PI 0],B false]|r :: _ => .tup [ag (vI r),B true]
theorem pV {l:List Rx} (h:l=[]):Ew l = .tup [ag [PI 0,PI 0],B false]:=by rw [h];rfl
theorem rW {l:List Rx} {r:Rx} (h:l.head?=some r):Ew l = .tup [ag (vI r),B true]:=by
 cases l with
 | nil=>cases h
 | cons a t=>rw [List.head?_cons,Option.some.injEq] at h;rw [h];rfl
theorem PP (s:Script) (V:VOps s) (hs:ScriptLen s):aB Sg 129 [ag (ay s)] (fun x=>x=Ew (fc s)):=by
 have hn:=V.cnt;have h1:=sW s V hs (xg V);rw [fc,if_pos (xg V)];refine az Tryz.func129 [.cell 2 81, .tmp 3] ?_
 repeat' (first|refine aw ?_|refine an (fun K hK => ?_)|refine aa (h1) ?_|(refine aH (fun hb => ?_) (fun hb => ?_) <;> try exact ax)|(refine aq hK ?_;try clear hK K))
 ·exact absurd hb (by decide)
 refine aK (X:=Nat) (fun i=>aP [(1, .b (.c (.ptr 0 0))),(2, .b (.c (.ptr 1 0))),(4, .b (vP s)),(18, .b (I s.ops.length)),(19, .b (I i))]
  [(0, .fix ((ay s).map CV.p)),(1, .fix [.p (PI 0), .p (PI 0)])] 2) (fun i=>i≤s.ops.length∧jv s i=[]) (fun i=>s.ops.length - i) 0 ?_ ?_ ?_
 ·exact ⟨Nat.zero_le _,rfl⟩
 ·refine ar [(1,some 1)] ?_ ?_;and_intros;all_goals try exact ak
 ·rintro i ⟨hi,h0⟩;rcases Nat.lt_or_ge i s.ops.length with hlt|hge
  ·repeat' (first|refine aw ?_|refine an (fun K hK => ?_)|refine aa (iF) ?_|(refine aH (fun hb => ?_) (fun hb => ?_) <;> try exact ax)|(refine aq hK ?_;try clear hK K))
   refine aK (X:=Nat) (fun n=>aP [(1, .b (.c (.ptr 0 0))),(2, .b (.c (.ptr 1 0))),(4, .b (vP s)),(6, .b (I i)),(18, .b (I s.ops.length)),(19, .b (I i)),(23, .b (I 10)),(24, .b (I n))]
    [(0, .fix ((ay s).map CV.p)),(1, .fix [.p (PI 0), .p (PI 0)])] 2) (fun n=>n≤10∧kM s i n=[]) (fun n=>10 - n) 0 ?_ ?_ ?_
   ·exact ⟨Nat.zero_le _,rfl⟩
   ·refine ar [(1,some 1)] ?_ ?_;and_intros;all_goals try exact ak
   ·rintro n ⟨hn10,h2⟩;rcases Nat.lt_or_ge n 10 with hnl|hng
    ·by_cases ha:uN s n i=true
     ·repeat' (first|refine aj ha ?_|refine aw ?_|refine an (fun K hK => ?_)|refine aa (lu s V hs n i) ?_|(refine aH (fun hb => ?_) (fun hb => ?_) <;> try exact ax)|(refine aq hK ?_;try clear hK K))
      rw [rW (VT hlt hnl h0 h2 ha)];rfl
     ·have e:kM s i (n+1)=[]:=by rw [mR,if_neg ha,h2];rfl
      rw [Bool.not_eq_true] at ha
      repeat' (first|refine aj ha ?_|refine aw ?_|refine an (fun K hK => ?_)|refine aa (lu s V hs n i) ?_|(refine aH (fun hb => ?_) (fun hb => ?_) <;> try exact ax)|(refine aq hK ?_;try clear hK K))
      rw [ae];refine ao (n+1) ?_ ⟨by omega,e⟩ (by omega);refine ar [(1,some 1)] ?_ ?_;and_intros;all_goals try exact ak
    ·have hn2:n=10:=by omega
     subst hn2
     repeat' (first|refine aC ?_|(refine aH (fun hb => ?_) (fun hb => ?_) <;> try exact ax))
     rw [ae];refine ao (i+1) ?_ ⟨by omega,by rw [pG,h0,h2];rfl⟩ (by omega);refine ar [(1,some 1)] ?_ ?_;and_intros;all_goals try exact ak
  ·have hi2:i=s.ops.length:=by omega
   subst hi2
   repeat' (first|refine aC ?_|(refine aH (fun hb => ?_) (fun hb => ?_) <;> try exact ax))
   rw [pV h0];rfl
theorem xR (s:Script) (V:VOps s) (hs:ScriptLen s) (r:Rx) (ha:uN s r.1 r.2=true):aB Sg 71 [ag (ay s),ag (vI r)] (fun x=>x = .tup [.c (.p (kU (rf s r.1.toNat r.2.toNat))),I 0]):=by
 have hn:=V.cnt;have h1:=sW s V hs (xg V);have h2:=lu s V hs r.1 r.2;rw [ha] at h2;obtain ⟨n,i⟩:=r;dsimp only at ha h2 ⊢;obtain ⟨⟨g1,g2⟩,g3,g4,g5,g6⟩:=rm ha;obtain ⟨k,rfl⟩:=Int.eq_ofNat_of_zero_le g3;have hi:k<s.ops.length:=g4;have hv:n=1∨n=2∨n=3∨n=4∨n=5∨n=6∨n=7∨n=8∨n=9:=by omega
 rcases hv with rfl|rfl|rfl|rfl|rfl|rfl|rfl|rfl|rfl
 ·have ht:qM 1 1=kA 110:=rfl;refine az Tryz.func71 [.tmp 4, .tmp 5] ?_;repeat' (first|refine bL ?_|((first|refine an (fun K hK => ?_)|refine aa (h1) ?_|refine aa (h2) ?_|refine aa (iF) ?_);and_intros;all_goals first|(refine hK _ ?_;clear hK K)|try exact ai)|(refine aH (fun hb => ?_) (fun hb => ?_);all_goals try exact ax)|(refine bF ?_;(try clear hB KB);(try clear hK K)))
  ·exact absurd hb (by decide)
  ·simp (maxSteps:=1000000) (disch:=omega) only [go_sem,ht,kA,re];refine gZ (nX s V k hi) ?_;refine bV ?_;refine hK _ ?_;clear hK;repeat' (refine bF ?_;(try clear hB KB);(try clear hK K))
   rfl
 ·have ht:qM 2 1=kA 110:=rfl;refine az Tryz.func71 [.tmp 4, .tmp 5] ?_;repeat' (first|refine bL ?_|((first|refine an (fun K hK => ?_)|refine aa (h1) ?_|refine aa (h2) ?_|refine aa (iF) ?_);and_intros;all_goals first|(refine hK _ ?_;clear hK K)|try exact ai)|(refine aH (fun hb => ?_) (fun hb => ?_);all_goals try exact ax)|(refine bF ?_;(try clear hB KB);(try clear hK K)))
  ·exact absurd hb (by decide)
  ·simp (maxSteps:=1000000) (disch:=omega) only [go_sem,ht,kA,re];refine gZ (nX s V k hi) ?_;refine bV ?_;refine hK _ ?_;clear hK;repeat' (refine bF ?_;(try clear hB KB);(try clear hK K))
   rfl
 ·have ht:qM 3 1=kA 110:=rfl;refine az Tryz.func71 [.tmp 4, .tmp 5] ?_;repeat' (first|refine bL ?_|((first|refine an (fun K hK => ?_)|refine aa (h1) ?_|refine aa (h2) ?_|refine aa (iF) ?_);and_intros;all_goals first|(refine hK _ ?_;clear hK K)|try exact ai)|(refine aH (fun hb => ?_) (fun hb => ?_);all_goals try exact ax)|(refine bF ?_;(try clear hB KB);(try clear hK K)))
  ·exact absurd hb (by decide)
  ·simp (maxSteps:=1000000) (disch:=omega) only [go_sem,ht,kA,re];refine gZ (nX s V k hi) ?_;refine bV ?_;refine hK _ ?_;clear hK;repeat' (refine bF ?_;(try clear hB KB);(try clear hK K))
   rfl
 ·have ht:qM 4 1=kA 110:=rfl;refine az Tryz.func71 [.tmp 4, .tmp 5] ?_;repeat' (first|refine bL ?_|((first|refine an (fun K hK => ?_)|refine aa (h1) ?_|refine aa (h2) ?_|refine aa (iF) ?_);and_intros;all_goals first|(refine hK _ ?_;clear hK K)|try exact ai)|(refine aH (fun hb => ?_) (fun hb => ?_);all_goals try exact ax)|(refine bF ?_;(try clear hB KB);(try clear hK K)))
  ·exact absurd hb (by decide)
  ·simp (maxSteps:=1000000) (disch:=omega) only [go_sem,ht,kA,re];refine gZ (nX s V k hi) ?_;refine bV ?_;refine hK _ ?_;clear hK;repeat' (refine bF ?_;(try clear hB KB);(try clear hK K))
   rfl
 ·have ht:qM 5 1=re 116:=rfl;refine az Tryz.func71 [.tmp 4, .tmp 5] ?_;repeat' (first|refine bL ?_|((first|refine an (fun K hK => ?_)|refine aa (h1) ?_|refine aa (h2) ?_|refine aa (iF) ?_);and_intros;all_goals first|(refine hK _ ?_;clear hK K)|try exact ai)|(refine aH (fun hb => ?_) (fun hb => ?_);all_goals try exact ax)|(refine bF ?_;(try clear hB KB);(try clear hK K)))
  ·exact absurd hb (by decide)
  ·simp (maxSteps:=1000000) (disch:=omega) only [go_sem,ht,kA,re];refine gZ (args:=[vP s,I k, .c (.ipt 1 (fun _=>kA 116) 0)]) (a0o s V k hi) ?_;refine bV ?_;refine hK _ ?_;clear hK;repeat' (refine bF ?_;(try clear hB KB);(try clear hK K))
   rfl
 ·have ht:qM 6 1=re 118:=rfl;refine az Tryz.func71 [.tmp 4, .tmp 5] ?_;repeat' (first|refine bL ?_|((first|refine an (fun K hK => ?_)|refine aa (h1) ?_|refine aa (h2) ?_|refine aa (iF) ?_);and_intros;all_goals first|(refine hK _ ?_;clear hK K)|try exact ai)|(refine aH (fun hb => ?_) (fun hb => ?_);all_goals try exact ax)|(refine bF ?_;(try clear hB KB);(try clear hK K)))
  ·exact absurd hb (by decide)
  ·simp (maxSteps:=1000000) (disch:=omega) only [go_sem,ht,kA,re];refine gZ (args:=[vP s,I k, .c (.ipt 1 (fun _=>kA 118) 0)]) (WI s V k hi) ?_;refine bV ?_;refine hK _ ?_;clear hK;repeat' (refine bF ?_;(try clear hB KB);(try clear hK K))
   rfl
 ·have ht:qM 7 1=re 120:=rfl;refine az Tryz.func71 [.tmp 4, .tmp 5] ?_;repeat' (first|refine bL ?_|((first|refine an (fun K hK => ?_)|refine aa (h1) ?_|refine aa (h2) ?_|refine aa (iF) ?_);and_intros;all_goals first|(refine hK _ ?_;clear hK K)|try exact ai)|(refine aH (fun hb => ?_) (fun hb => ?_);all_goals try exact ax)|(refine bF ?_;(try clear hB KB);(try clear hK K)))
  ·exact absurd hb (by decide)
  ·simp (maxSteps:=1000000) (disch:=omega) only [go_sem,ht,kA,re];refine gZ (args:=[vP s,I k, .c (.ipt 1 (fun _=>kA 120) 0)]) (Xc s V k hi) ?_;refine bV ?_;refine hK _ ?_;clear hK;repeat' (refine bF ?_;(try clear hB KB);(try clear hK K))
   rfl
 ·have ht:qM 8 1=re 122:=rfl;refine az Tryz.func71 [.tmp 4, .tmp 5] ?_;repeat' (first|refine bL ?_|((first|refine an (fun K hK => ?_)|refine aa (h1) ?_|refine aa (h2) ?_|refine aa (iF) ?_);and_intros;all_goals first|(refine hK _ ?_;clear hK K)|try exact ai)|(refine aH (fun hb => ?_) (fun hb => ?_);all_goals try exact ax)|(refine bF ?_;(try clear hB KB);(try clear hK K)))
  ·exact absurd hb (by decide)
  ·simp (maxSteps:=1000000) (disch:=omega) only [go_sem,ht,kA,re];refine gZ (args:=[vP s,I k, .c (.ipt 1 (fun _=>kA 122) 0)]) (Wi s V k hi) ?_;refine bV ?_;refine hK _ ?_;clear hK;repeat' (refine bF ?_;(try clear hB KB);(try clear hK K))
   rfl
 ·have ht:qM 9 1=kA 124:=rfl;have hu:(ah s.ops k).kind=2∧1≤jw s.ops k:=by
   have g6:vg s k=true:=g6;simp only [vg,Bool.and_eq_true,decide_eq_true_eq] at g6;exact ⟨g6.1.1.1,by omega⟩
  refine az Tryz.func71 [.tmp 4, .tmp 5] ?_;repeat' (first|refine bL ?_|((first|refine an (fun K hK => ?_)|refine aa (h1) ?_|refine aa (h2) ?_|refine aa (iF) ?_);and_intros;all_goals first|(refine hK _ ?_;clear hK K)|try exact ai)|(refine aH (fun hb => ?_) (fun hb => ?_);all_goals try exact ax)|(refine bF ?_;(try clear hB KB);(try clear hK K)))
  ·exact absurd hb (by decide)
  ·simp (maxSteps:=1000000) (disch:=omega) only [go_sem,ht,kA,re];refine gZ (Fi s V k hi hu.1 hu.2) ?_;refine bV ?_;refine hK _ ?_;clear hK;repeat' (refine aC ?_)
   rfl
end
end Go.Proofs.YtdjmpacladhijaaGreatDoor
