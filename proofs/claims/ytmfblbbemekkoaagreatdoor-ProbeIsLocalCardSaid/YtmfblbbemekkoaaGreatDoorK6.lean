/- Part of the proof: F6, F2, F7, T1, T2, T3, T4. -/
import Derived.Test.YtmfblbbemekkoaaGreatDoorK5
set_option linter.unusedSimpArgs false
set_option linter.unusedVariables false
set_option maxHeartbeats 1000000
set_option maxRecDepth 16000
namespace Go.Proofs.YtmfblbbemekkoaaGreatDoor
open Go Go.SL
open Go.RowKit (wrap64)
theorem fo {a b:Bool} (h:a=true↔b=true):SV.b (B a)=SV.b (B b):=by rw [Bool.eq_iff_iff.2 h]
def mu (r:Rect):Bool:=decide (-1073741824≤r.x0∧r.x0≤1073741824 ∧ -1073741824≤r.y0∧r.y0≤1073741824 ∧ -1073741824≤r.x1∧r.x1≤1073741824 ∧ -1073741824≤r.y1∧r.y1≤1073741824)
def bM (r:Rect):Bool := !mu r || decide (r.x1≤r.x0∨r.y1≤r.y0)
def iX (r:Rect):Rect:=if bM r=true then ⟨0,0,0,0⟩ else r
def iQ (r:Rect):Int:=if bM r=true then 0 else (r.x1 - r.x0) * (r.y1 - r.y0)
theorem sP (r:Rect):aD Sg 120 [ag (fk r)] (fun x=>x = .b (B (mu r))):=by
 refine aC Tryz.func120 [.tmp 2] ?_
 repeat' (first|(refine ai (fun K hK => ?_);and_intros;all_goals first|(refine hK _ ?_;clear hK K)|try exact aa)|(refine an ?_;(try clear hB KB);(try clear hK K)))
 refine fo ?_
 (try simp only [mu,Bool.and_eq_true,Bool.or_eq_true,Bool.not_eq_true',Bool.not_eq_false',decide_eq_true_eq,decide_eq_false_iff_not,ge_iff_le,gt_iff_lt,beq_iff_eq,bne_iff_ne,ne_eq,Bool.or_eq_false_iff,Bool.and_eq_false_imp,Bool.not_true,Bool.not_false])
 try omega
theorem sM (r:Rect):aD Sg 68 [ag (fk r)] (fun x=>x = .b (B (bM r))):=by
 refine aC Tryz.func68 [.tmp 2] ?_
 repeat' (first|((first|refine ai (fun K hK => ?_)|refine ae (sP _) ?_);and_intros;all_goals first|(refine hK _ ?_;clear hK K)|try exact aa)|(refine an ?_;(try clear hB KB);(try clear hK K)))
 refine fo ?_
 simp only [bM,Bool.or_eq_true,decide_eq_true_eq,ge_iff_le,or_assoc]
theorem dR {r:Rect} (h:¬ bM r=true) : -1073741824≤r.x0∧r.x0<r.x1∧r.x1≤1073741824 ∧ -1073741824≤r.y0∧r.y0<r.y1∧r.y1≤1073741824:=by
 simp only [bM,mu,Bool.or_eq_true,Bool.not_eq_true',decide_eq_true_eq,decide_eq_false_iff_not] at h
 omega
theorem BI (r:Rect):IntKind.i64.wrap (IntKind.i64.wrap ((iX r).x1 - (iX r).x0) * IntKind.i64.wrap ((iX r).y1 - (iX r).y0))=iQ r:=by
 by_cases h:bM r=true
 ·simp only [iX,iQ,if_pos h];decide
 ·simp only [iX,iQ,if_neg h]
  have hb:=dR h
  rw [ef (n:=r.x1 - r.x0) (by omega) (by omega),ef (n:=r.y1 - r.y0) (by omega) (by omega)]
  have h1:(r.x1 - r.x0) * (r.y1 - r.y0)≤2147483648 * 2147483648:=Int.mul_le_mul (by omega) (by omega) (by omega) (by omega)
  have h2:0≤(r.x1 - r.x0) * (r.y1 - r.y0):=Int.mul_nonneg (by omega) (by omega)
  exact ef (by omega) (by omega)
def bU (w h:Int):Bool:=decide (1≤w∧1≤h∧w≤16777216∧h≤16777216 / w)
theorem jT (w h:Int):aD Sg 73 [I w,I h] (fun x=>x = .b (B (bU w h))):=by
 refine aC Tryz.func73 [.tmp 4] ?_
 repeat' (first|(refine ai (fun K hK => ?_);and_intros;all_goals first|(refine hK _ ?_;clear hK K)|try exact aa)|(refine an ?_;(try clear hB KB);(try clear hK K)))
 refine fo ?_
 by_cases hw:1≤w
 ·have h1:0≤16777216 / w:=Int.ediv_nonneg (by omega) (by omega)
  have h2:16777216 / w≤16777216:=Int.ediv_le_self _ (by omega)
  rw [ef (by omega) (by omega)]
  simp only [bU,Bool.and_eq_true,decide_eq_true_eq,ge_iff_le,and_assoc]
 ·simp [bU,hw]
theorem dN (b:Int):aD Sg 103 [I b] (fun x=>x = .tup [U (if b=8 then 255 else if b=16 then 65535 else 0),B (decide (b=8∨b=16))]):=by
 refine aC Tryz.func103 [.tmp 2, .tmp 3] ?_
 repeat' (first|refine ak ?_|(refine ai (fun K hK => ?_);and_intros;all_goals first|(refine hK _ ?_;clear hK K)|try exact aa)|(refine bc (fun hb => ?_) (fun hb => ?_);all_goals try exact aJ)|(refine an ?_;(try clear hB KB);(try clear hK K)))
 ·subst hb;rfl
 ·subst hb;rfl
 ·rw [if_neg (by assumption),if_neg (by assumption),decide_eq_false (by omega)]
theorem wG (b:Int):aD Sg 25 [I b] (fun x=>x = .tup [U (if b=8 then 255 else if b=16 then 65535 else 0),B (decide (b=8∨b=16))]):=by
 refine aC Tryz.func25 [.tmp 2, .tmp 3] ?_
 repeat' (first|refine ak ?_|(refine ai (fun K hK => ?_);and_intros;all_goals first|(refine hK _ ?_;clear hK K)|try exact aa)|(refine bc (fun hb => ?_) (fun hb => ?_);all_goals try exact aJ)|(refine an ?_;(try clear hB KB);(try clear hK K)))
 ·subst hb;rfl
 ·subst hb;rfl
 ·rw [if_neg (by assumption),if_neg (by assumption),decide_eq_false (by omega)]
theorem wF (m:Int):aD Sg 214 [I m] (fun x=>x = .b (B (decide (1≤m∧m≤12)))):=by
 refine aC Tryz.func214 [.tmp 2] ?_
 repeat' (first|(refine ai (fun K hK => ?_);and_intros;all_goals first|(refine hK _ ?_;clear hK K)|try exact aa)|(refine an ?_;(try clear hB KB);(try clear hK K)))
 refine fo ?_
 (try simp only [Bool.and_eq_true,Bool.or_eq_true,Bool.not_eq_true',Bool.not_eq_false',decide_eq_true_eq,decide_eq_false_iff_not,ge_iff_le,gt_iff_lt,beq_iff_eq,bne_iff_ne,ne_eq,Bool.or_eq_false_iff,Bool.and_eq_false_imp,Bool.not_true,Bool.not_false])
 try omega
theorem rC (w h:Int) (p:Pixel):aD Sg 54 [I w,I h,ag (aH p)] (fun x=>x = .b (ag (aY ⟨w,h,true,p,⟨0,0,0,[]⟩,⟨0,0,0,[]⟩,⟨0,0,0,[]⟩,⟨0,0,0,[]⟩,⟨0,0,0,[]⟩⟩))):=by
 refine lv ?_
 refine aC Tryz.func54 [.cell 6 47] ?_
 repeat' (first|(refine ai (fun K hK => ?_);and_intros;all_goals first|(refine hK _ ?_;clear hK K)|try exact aa)|(refine an ?_;(try clear hB KB);(try clear hK K)))
 refine Ai (uY ?_)
 simp only [List.map_cons,List.map_nil,lk,pW]
 and_intros
 all_goals first|exact .inl rfl|exact .inl trivial|exact .inr iY|trivial|skip
end Go.Proofs.YtmfblbbemekkoaaGreatDoor
set_option maxRecDepth 16000
namespace Go.Proofs.YtmfblbbemekkoaaGreatDoor
open Go Go.SL
open Go.RowKit (wrap64)
def bY (n m:Int):Int :=
 if n % 8=0 then 0 else if n % 8=1∨n % 8=2 then m else if n % 8=3 then (m+n.tdiv 8 % 2) / 2
 else if n % 8=4 then min m (n.tdiv 8 % 4) else n.tdiv 8 % (m+1)
theorem dk (n m:Int) (h:0≤m):0≤bY n m∧bY n m≤m:=by
 unfold bY
 have h1:=Int.emod_nonneg (n.tdiv 8) (show m+1≠0 by omega)
 have h2:=Int.emod_lt_of_pos (n.tdiv 8) (show 0<m+1 by omega)
 split
 ·omega
 split
 ·omega
 split
 ·omega
 split
 ·omega
 ·omega
theorem pg (n m : Int) (hn : i64 n) (hm : u16 m) :
  aD Sg 56 [I n,U m] (fun r=>r = .b (U (bY n m))):=by
 obtain ⟨hm1,hm2⟩:=hm
 obtain ⟨hn1,hn2⟩:=hn
 have h1:=Int.emod_nonneg (n.tdiv 8) (show m+1≠0 by omega)
 have h2:=Int.emod_lt_of_pos (n.tdiv 8) (show 0<m+1 by omega)
 refine aC Tryz.func56 [.tmp 4] ?_
 repeat' (first|refine ak ?_|((first|refine ai (fun K hK => ?_)|refine ae (cl _ _ (by omega) (by omega)) ?_);and_intros;all_goals first|(refine hK _ ?_;clear hK K)|try exact aa)|((first|apply eE|apply kn);(case hf=>rfl);(case hc=>exact eC);(all_goals first|(intro hb;(try simp only [qK] at hb))|skip))|exact bO|(refine bc (fun hb => ?_) (fun hb => ?_);all_goals try exact aJ)|(refine an ?_;(try clear hB KB);(try clear hK K)))
 ·rw [bY,if_pos (by omega)]
 ·rw [bY,if_neg (by omega),if_pos (by omega)]
 ·rw [bY,if_neg (by omega),if_neg (by omega),if_pos (by omega)]
 ·have:bY n m=min m (n.tdiv 8 % 4):=by rw [bY,if_neg (by omega),if_neg (by omega),if_neg (by omega),if_pos (by omega)]
  rw [this,show (if n.tdiv 8 % 4<m then n.tdiv 8 % 4 else m)=min m (n.tdiv 8 % 4) by split <;> omega]
 ·rw [bY,if_neg (by omega),if_neg (by omega),if_neg (by omega),if_neg (by omega)]
def qF (n:N5) (m:Int):Pixel :=
 let f:=bY n.e m
 let a:=if n.d % 3>0 then bY (n.d.tdiv 3) f else f
 ⟨bY n.a a,bY n.b a,bY n.c a,a,f⟩
structure N5ok (n:N5):Prop where
 a:i64 n.a
 b:i64 n.b
 c:i64 n.c
 d:i64 n.d
 e:i64 n.e
theorem qH (n : N5) (m : Int) (hn : N5ok n) (hm : u16 m) :
  aD Sg 72 [ag (OO n),U m] (fun r=>r = .b (ag (aH (qF n m)))):=by
 obtain ⟨⟨a1,a2⟩,⟨b1,b2⟩,⟨c1,c2⟩,⟨d1,d2⟩,⟨e1,e2⟩⟩:=hn
 have hf:=dk n.e m hm.1
 have ha':=dk (n.d.tdiv 3) (bY n.e m) hf.1
 have hd := @zW n.d 3
 have hd' := @Ar n.d 3 d1 d2 (by omega)
 have hd'':=rI (n.d.tdiv 3)
 rw [hd'] at hd''
 obtain ⟨hm1,hm2⟩:=hm
 refine aC Tryz.func72 [.cell 4 41] ?_
 repeat' (first|refine ak ?_|((first|refine ai (fun K hK => ?_)|refine ae (cl _ _ (by omega) (by omega)) ?_|refine ae (pg _ _ ⟨by omega,by omega⟩ ⟨by omega,by omega⟩) ?_);and_intros;all_goals first|(refine hK _ ?_;clear hK K)|try exact aa)|(apply eE;(case hf=>rfl);(case hc=>exact eC);(all_goals first|(intro hb;(try simp only [qK] at hb))|skip))|exact bO|(refine an ?_;(try clear hB KB);(try clear hK K)))
 ·simp only [qF,gt_iff_lt];rfl
def fG (n c:Int):Int:=if n % 3=0 then c else c+n.tdiv 3 % 9 - 4
theorem xP (n c : Int) (hn : i64 n) (hc1 : -2000000000 ≤ c) (hc2 : c ≤ 2000000000) :
  aD Sg 55 [I n,I c] (fun r=>r = .b (I (fG n c))):=by
 obtain ⟨hn1,hn2⟩:=hn
 refine aC Tryz.func55 [.tmp 4] ?_
 repeat' (first|refine ak ?_|((first|refine ai (fun K hK => ?_)|refine ae (cl _ _ (by omega) (by omega)) ?_);and_intros;all_goals first|(refine hK _ ?_;clear hK K)|try exact aa)|(refine bc (fun hb => ?_) (fun hb => ?_);all_goals try exact aJ)|(refine an ?_;(try clear hB KB);(try clear hK K)))
 ·rw [fG,if_pos hb]
 ·rw [fG,if_neg hb]
end Go.Proofs.YtmfblbbemekkoaaGreatDoor
set_option maxHeartbeats 1000000
set_option maxRecDepth 16000
namespace Go.Proofs.YtmfblbbemekkoaaGreatDoor
open Go Go.SL
open Go.RowKit (wrap64)
def bC (k:Int) (l:List Int):Bool:=l.all fun v=>decide (-k≤v∧v≤k)
theorem xX (k:Int) (l:List Int) (hk:0≤k) (hk2:k≤9223372036854775807) (hl:l.length≤4611686018427387904):aD Sg 168 [I k, .c (.p (eT l))] (fun x=>x = .b (B (bC k l))):=by
 refine aC Tryz.func168 [.tmp 4] ?_
 repeat' (first|refine ak ?_|(refine ai (fun K hK => ?_);and_intros;all_goals first|(refine hK _ ?_;clear hK K)|try exact aa))
 refine aS (X:=Nat) (fun i=>aZ [(0, .b (I k)),(7, .b (.c (.p (eT l)))),(8, .b (I l.length)),(9, .b (I i))] [] 1) (fun i=>i≤l.length∧(l.take i).all (fun v=>decide (-k≤v∧v≤k))=true) (fun i=>l.length - i) 0 ?_ ?_ ?_
 ·exact ⟨by omega,rfl⟩
 ·refine ay [] ?_ ?_
  and_intros
  all_goals first|exact ao|skip
 ·rintro i ⟨hi,ht⟩
  repeat' (first|refine ak ?_|(refine ai (fun K hK => ?_);and_intros;all_goals first|(refine hK _ ?_;clear hK K)|try exact aa)|(refine bc (fun hb => ?_) (fun hb => ?_);all_goals try exact aJ)|(refine an ?_;(try clear hB KB);(try clear hK K)))
  ·have:bC k l=false:=by
    rw [bC,List.all_eq_false]
    refine ⟨l.getD i default, ?_, ?_⟩
    ·rw [List.getD_eq_getElem?_getD,List.getElem?_eq_getElem (by omega)];exact List.getElem_mem _
    ·simp only [decide_eq_true_eq];simp only [Int.toNat_natCast] at hb;omega
   rw [this]
  ·rw [ah]
   refine au (i+1) ?_ ⟨by omega, ?_⟩ (by omega)
   ·refine ay [] ?_ ?_
    and_intros
    all_goals first|exact ao|skip
   ·rw [List.take_add_one,List.all_append,ht,List.getElem?_eq_getElem (by omega)]
    simp only [Int.toNat_natCast,List.getD_eq_getElem?_getD,List.getElem?_eq_getElem (show i<l.length by omega),Option.getD_some] at hb
    simp only [Option.toList_some,List.all_cons,List.all_nil,Bool.and_true,Bool.true_and,decide_eq_true_eq]
    omega
  ·have:bC k l=true:=by
    rw [bC]
    rwa [List.take_of_length_le (by omega)] at ht
   rw [this]
theorem yi (r:Rect):aD Sg 131 [ag (fk r)] (fun x=>x = .b (B (mu r))):=by
 refine aC Tryz.func131 [.tmp 2] ?_
 repeat' (refine ai (fun K hK => ?_);and_intros;all_goals first|(refine hK _ ?_;clear hK K)|try exact aa)
 refine jM ?_ ?_ (by simp (maxSteps:=999999)(disch:=omega) only [go_sem]) ?_ (xX 1073741824 [r.x0,r.y0,r.x1,r.y1] (by omega) (by omega) (by simp))
 try simp (maxSteps:=999999)(disch:=omega) only [go_sem]
 try (refine hK _ ?_;clear hK K)
 ·first|refine iF ?_|refine kW ?_
  simp (maxSteps:=999999)(disch:=omega) only [go_sem]
  refine fo ?_
  simp only [bC,mu,List.all_cons,List.all_nil,Bool.and_true,Bool.and_eq_true,decide_eq_true_eq]
  omega
 ·simp (maxSteps:=1000000) (disch:=omega) only [go_sem,fJ,iq]
  refine ⟨nZ,ql (mC fun i hi j hj => ?_)⟩
  have h1:i=0∨i=1∨i=2∨i=3:=by omega
  have h2:j=0:=by omega
  subst h2
  rcases h1 with rfl|rfl|rfl|rfl <;> rfl
 ·trivial
theorem iH (r:Rect):aD Sg 83 [ag (fk r)] (fun x=>x = .b (B (bM r))):=by
 refine aC Tryz.func83 [.tmp 2] ?_
 repeat' (first|((first|refine ai (fun K hK => ?_)|refine ae (yi _) ?_);and_intros;all_goals first|(refine hK _ ?_;clear hK K)|try exact aa)|(refine an ?_;(try clear hB KB);(try clear hK K)))
 refine fo ?_
 simp only [bM,Bool.or_eq_true,decide_eq_true_eq,ge_iff_le,or_assoc]
theorem wU (r:Rect):aD Sg 172 [ag (fk r)] (fun x=>x = .b (ag (fk (iX r)))):=by
 refine aC Tryz.func172 [.cell 2 33] ?_
 repeat' (first|refine ak ?_|((first|refine ai (fun K hK => ?_)|refine ae (iH _) ?_);and_intros;all_goals first|(refine hK _ ?_;clear hK K)|try exact aa)|(refine bc (fun hb => ?_) (fun hb => ?_);all_goals try exact aJ)|(refine an ?_;(try clear hB KB);(try clear hK K)))
 ·rw [iX,if_pos hb];rfl
 ·rw [iX,if_neg (by simp [hb])];rfl
theorem yL (r:Rect):aD Sg 159 [ag (fk r)] (fun x=>x = .b (I (iQ r))):=by
 refine aC Tryz.func159 [.tmp 2] ?_
 repeat' (first|((first|refine ai (fun K hK => ?_)|refine ae (wU _) ?_);and_intros;all_goals first|(refine hK _ ?_;clear hK K)|try exact aa)|(refine an ?_;(try clear hB KB);(try clear hK K)))
 rw [BI]
def oN (o:Int):List PV:=if 1≤o∧o≤12 then [bF.getD (o.toNat * 4) .any,bF.getD (o.toNat * 4+1) .any,bF.getD (o.toNat * 4+2) .any,bF.getD (o.toNat * 4+3) .any]
 else [.val (.string ⟨#[]⟩),PI 0,PI 0,PI 0]
theorem nW (o:Int):aD Sg 213 [I o] (fun x=>x = .tup [ag (oN o),B (decide (1≤o∧o≤12))]):=by
 refine aC Tryz.func213 [.cell 2 255, .tmp 3] ?_
 repeat' (first|refine ak ?_|(refine ai (fun K hK => ?_);and_intros;all_goals first|(refine hK _ ?_;clear hK K)|try exact aa)|(refine bc (fun hb => ?_) (fun hb => ?_);all_goals try exact aJ)|(refine an ?_;(try clear hB KB);(try clear hK K)))
 ·rw [oN,if_neg (by omega),decide_eq_false (by omega)];rfl
 ·rw [oN,if_pos (by omega),decide_eq_true (by omega)];simp only [Nat.zero_add,Nat.add_zero];rfl
def Cd (o:Int):ByteArray:=match (oN o).getD 0 .any with
 | .val (.string s)=>s
 | _=>⟨#[]⟩
theorem tk (o:Int):∃ a b c,oN o=[.val (.string (Cd o)),PI a,PI b,PI c]∧((Cd o).toList == (ByteArray.mk #[]).toList) = !decide (1≤o∧o≤12):=by
 by_cases h:1≤o∧o≤12
 ·have:o=1∨o=2∨o=3∨o=4∨o=5∨o=6∨o=7∨o=8∨o=9∨o=10∨o=11∨o=12:=by omega
  rcases this with rfl|rfl|rfl|rfl|rfl|rfl|rfl|rfl|rfl|rfl|rfl|rfl <;> exact ⟨_,_,_,rfl,by decide +kernel⟩
 ·have e:oN o=[.val (.string ⟨#[]⟩),PI 0,PI 0,PI 0]:=by rw [oN,if_neg h]
  refine ⟨0,0,0, ?_, ?_⟩
  ·rw [Cd,e];rfl
  ·rw [Cd,e,decide_eq_false h];decide +kernel
theorem wH (o:Int):aD Sg 186 [I o] (fun x=>x = .b (.c (.p (.val (.string (Cd o)))))):=by
 obtain ⟨a,b,c,he,_⟩:=tk o
 have hf:=nW o
 rw [he] at hf
 refine aC Tryz.func186 [.tmp 2] ?_
 repeat' (first|with_reducible exact cn|((first|refine ai (fun K hK => ?_)|refine ae (hf) ?_);and_intros;all_goals first|(refine hK _ ?_;clear hK K)|try exact aa)|(refine an ?_;(try clear hB KB);(try clear hK K)))
def jh (o:Int):Bool:=decide (1≤o∧o≤12)
def QD (m:Int):ByteArray:=match dX.getD m.toNat .any with
 | .val (.string s)=>s
 | _=>⟨#[]⟩
theorem wJ (m:Int) (h:1≤m∧m≤12):dX.getD m.toNat .any = .val (.string (QD m))∧((QD m).toList == (ByteArray.mk #[]).toList)=false:=by
 have:m=1∨m=2∨m=3∨m=4∨m=5∨m=6∨m=7∨m=8∨m=9∨m=10∨m=11∨m=12:=by omega
 rcases this with rfl|rfl|rfl|rfl|rfl|rfl|rfl|rfl|rfl|rfl|rfl|rfl <;> exact ⟨rfl,by decide +kernel⟩
def zo (m:Int):ByteArray:=if 1≤m∧m≤12 then QD m else ⟨#[]⟩
theorem yo (m:Int):((zo m).toList == (ByteArray.mk #[]).toList) = !jh m:=by
 by_cases h:1≤m∧m≤12
 ·rw [zo,if_pos h,(wJ m h).2,jh,decide_eq_true h];rfl
 ·rw [zo,if_neg h,jh,decide_eq_false h];decide +kernel
theorem rm (m:Int):aD Sg 187 [I m] (fun x=>x = .b (.c (.p (.val (.string (zo m)))))):=by
 refine aC Tryz.func187 [.tmp 2] ?_
 repeat' (first|refine ak ?_|((first|refine ai (fun K hK => ?_)|refine ae (wF _) ?_);and_intros;all_goals first|(refine hK _ ?_;clear hK K)|try exact aa)|(refine bc (fun hb => ?_) (fun hb => ?_);all_goals try exact aJ)|(refine an ?_;(try clear hB KB);(try clear hK K)))
 ·rw [zo,if_neg (by omega)]
 ·rw [zo,if_pos (by omega)]
  have h:=wJ m (by omega)
  simp only [Nat.zero_add,Nat.mul_one,Nat.add_zero]
  rw [h.1]
end Go.Proofs.YtmfblbbemekkoaaGreatDoor
namespace Go.Proofs.YtmfblbbemekkoaaGreatDoor
def bG (n d:Int):Int:=if d=0 then 0 else if n % d≥d - n % d then n / d+1 else n / d
theorem lf {n d:Int} (hd:0<d):2 * (d * bG n d)≤2 * n+d∧2 * n<2 * (d * bG n d)+d:=by
 have h1:=Int.mul_ediv_add_emod n d
 have h2:=Int.emod_nonneg n (show d≠0 by omega)
 have h3:=Int.emod_lt_of_pos n hd
 unfold bG
 rw [if_neg (by omega)]
 split
 ·rw [Int.mul_add,Int.mul_one];omega
 ·omega
theorem oz {n d k:Int} (hd:0<d) (h1:2 * (d * k)≤2 * n+d) (h2:2 * n<2 * (d * k)+d):bG n d=k:=by
 obtain ⟨a1,a2⟩:=lf (n:=n) hd
 rcases Int.lt_trichotomy (bG n d) k with h|h|h
 ·have:=Int.mul_le_mul_of_nonneg_left (show bG n d+1≤k by omega) (Int.le_of_lt hd)
  rw [Int.mul_add,Int.mul_one] at this;omega
 ·exact h
 ·have:=Int.mul_le_mul_of_nonneg_left (show k+1≤bG n d by omega) (Int.le_of_lt hd)
  rw [Int.mul_add,Int.mul_one] at this;omega
theorem fz {n n' d:Int} (hd:0<d) (h:n≤n'):bG n d≤bG n' d:=by
 obtain ⟨a1,a2⟩:=lf (n:=n) hd
 obtain ⟨b1,b2⟩:=lf (n:=n') hd
 refine Int.not_lt.1 fun q => ?_
 have:=Int.mul_le_mul_of_nonneg_left (show bG n' d+1≤bG n d by omega) (Int.le_of_lt hd)
 rw [Int.mul_add,Int.mul_one] at this;omega
theorem qq {d k:Int} (hd:0<d):bG (d * k) d=k:=oz hd (by omega) (by omega)
theorem th {d:Int} (hd:0<d):bG 0 d=0:=by
 unfold bG
 split
 ·rfl
 ·rw [Int.zero_emod,Int.zero_ediv,if_neg (by omega)]
theorem cE {n d:Int} (hd:0<d) (h:0≤n):0≤bG n d:=by
 have:=fz hd h
 rwa [th hd] at this
theorem na {n d k:Int} (hd:0<d) (h:n≤d * k):bG n d≤k:=by
 have:=fz hd h
 rwa [qq hd] at this
structure Ex where
 p:Int
 q:Int
 r:Int
 d:Int
 deriving DecidableEq,Inhabited
def ox (x:Ex) (t n:Int):Bool:=decide (n * x.d≤t * x.p∨(n * x.d - t * x.p) * (n * x.d - t * x.p)≤t * x.q * (t * x.q) * x.r)
theorem iO {a b:Int} (ha:0≤a) (h:a≤b):a * a≤b * b:=Int.mul_le_mul h h ha (by omega)
theorem NR {a b:Int} (hb:0≤b) (h:a * a≤b * b):a≤b:=by
 refine Int.not_lt.1 fun q => ?_
 have h1:=Int.mul_lt_mul_of_pos_left q (show 0<a by omega)
 have h2:=Int.mul_le_mul_of_nonneg_right (Int.le_of_lt q) hb
 omega
theorem ru {x:Ex} {t n n':Int} (hd:0≤x.d) (h:ox x t n'=true) (hn:n≤n'):ox x t n=true:=by
 simp only [ox,decide_eq_true_eq] at *
 have hm:=Int.mul_le_mul_of_nonneg_right hn hd
 rcases h with h|h
 ·exact .inl (by omega)
 ·rcases Int.le_total (n * x.d) (t * x.p) with q|q
  ·exact .inl q
  ·exact .inr (Int.le_trans (iO (by omega) (by omega)) h)
def uq (t:Int→Bool):Nat→Int→Int
 | 0,n=>n
 | i+1,n=>uq t i (if t (n+2 ^ i)=true then n+2 ^ i else n)
theorem rz {t:Int→Bool} (hm:∀ a b,a≤b→t b=true→t a=true):∀ (i:Nat) (n:Int),t n=true→t (n+2 ^ i)=false→t (uq t i n)=true∧t (uq t i n+1)=false∧n≤uq t i n∧uq t i n<n+2 ^ i
 | 0,n,h1,h2=>⟨h1,h2,Int.le_refl _,by show n<n+2 ^ 0;rw [show (2:Int) ^ 0=1 from rfl];omega⟩
 | i+1,n,h1,h2=>by
  have e:(2:Int) ^ (i+1)=2 ^ i+2 ^ i:=by rw [Int.pow_succ];omega
  have hp:(0:Int)<2 ^ i:=Int.pow_pos (by decide)
  rw [e] at h2 ⊢
  rw [show uq t (i+1) n=uq t i (if t (n+2 ^ i)=true then n+2 ^ i else n) from rfl]
  split
  ·rename_i h
   have:=rz hm i _ h (by rw [show n+2 ^ i+2 ^ i=n+(2 ^ i+2 ^ i) by omega];exact h2)
   exact ⟨this.1,this.2.1,by omega,by omega⟩
  ·rename_i h
   have:=rz hm i _ h1 (by simpa using h)
   exact ⟨this.1,this.2.1,by omega,by omega⟩
def cD (x:Ex):Int:=uq (ox x 1) 63 0
def hx (x:Ex):Int:=if ox x 2 (2 * cD x+1)=true then cD x+1 else cD x
structure ExOk (x:Ex):Prop where
 p0:0≤x.p
 p1:x.p<79228162514264337593543950336
 q0:0≤x.q
 q1:x.q<70368744177664
 r0:0≤x.r
 r1:x.r<8589934592
 d0:1≤x.d
 d1:x.d<18446744073709551616
 b:ox x 1 4611686018427387904=false
theorem fQ {x:Ex} (h:ExOk x):ox x 1 (cD x)=true∧ox x 1 (cD x+1)=false∧0≤cD x∧cD x<4611686018427387904:=by
 have hm:∀ a b,a≤b→ox x 1 b=true→ox x 1 a=true:=fun a b hab hb=>ru (by have:=h.d0;omega) hb hab
 have h0:ox x 1 0=true:=by
  have:=h.p0
  simp only [ox,decide_eq_true_eq];omega
 have h63:ox x 1 (0+2 ^ 63)=false:=by
  rw [← Bool.not_eq_true]
  intro q
  have:=hm 4611686018427387904 _ (by decide) q
  rw [h.b] at this;cases this
 obtain ⟨a,b,c,d⟩:=rz hm _ _ h0 h63
 refine ⟨a,b,c,Int.not_le.1 fun q => ?_⟩
 have:=hm _ _ q a
 rw [h.b] at this;cases this
theorem nj {x:Ex} (h:ExOk x):ox x 2 (2 * hx x - 1)=true∧ox x 2 (2 * hx x+1)=false∧0≤hx x:=by
 obtain ⟨h1,h2,h3,h4⟩:=fQ h
 have hd:=h.d0
 have dbl:∀ n,ox x 1 n=ox x 2 (2 * n):=fun n=>by
  simp only [ox]
  congr 1
  refine propext ⟨fun q => ?_,fun q => ?_⟩
  ·rcases q with q|q
   ·exact .inl (by rw [Int.mul_assoc];omega)
   ·refine .inr ?_
    have e1:(2 * n * x.d - 2 * x.p)=2 * (n * x.d - 1 * x.p):=by rw [Int.mul_assoc];omega
    rw [e1]
    generalize n * x.d - 1 * x.p=u at *
    simp only [Int.one_mul] at q
    have e2:2 * u * (2 * u)=4 * (u * u):=by grind
    have e3:2 * x.q * (2 * x.q) * x.r=4 * (x.q * x.q * x.r):=by grind
    omega
  ·rcases q with q|q
   ·exact .inl (by rw [Int.mul_assoc] at q;omega)
   ·refine .inr ?_
    have e1:(2 * n * x.d - 2 * x.p)=2 * (n * x.d - 1 * x.p):=by rw [Int.mul_assoc];omega
    rw [e1] at q
    generalize n * x.d - 1 * x.p=u at *
    simp only [Int.one_mul]
    have e2:2 * u * (2 * u)=4 * (u * u):=by grind
    have e3:2 * x.q * (2 * x.q) * x.r=4 * (x.q * x.q * x.r):=by grind
    omega
 rw [dbl] at h1 h2
 unfold hx
 split
 ·rename_i h5
  refine ⟨by rw [show 2 * (cD x+1) - 1=2 * cD x+1 by omega];exact h5, ?_,by omega⟩
  rw [← Bool.not_eq_true]
  intro q
  have:=ru (by omega) q (show 2 * (cD x+1)≤2 * (cD x+1)+1 by omega)
  rw [h2] at this;cases this
 ·rename_i h5
  exact ⟨ru (by omega) h1 (by omega),by simpa using h5,h3⟩
theorem Jj {x:Ex} {n m:Int} (h:ExOk x) (hm:0<m) (h1:x.p * m≤n * x.d) (h2:x.q * x.q * x.r * (m * m)≤(n * x.d - x.p * m) * (n * x.d - x.p * m)):hx x≤bG n m:=by
 obtain ⟨a1,_,a3⟩:=nj h
 obtain ⟨b1,b2⟩:=lf (n:=n) hm
 have hd:=h.d0
 have key:(2 * hx x - 1) * m≤2 * n:=by
  simp only [ox,decide_eq_true_eq] at a1
  generalize hx x=k at *
  have dm:(2 * k - 1) * m * x.d≤2 * n * x.d:=by
   rcases a1 with a1|a1
   ·have:=Int.mul_le_mul_of_nonneg_right a1 (Int.le_of_lt hm)
    grind
   ·have e1:((2 * k - 1) * x.d - 2 * x.p) * m * (((2 * k - 1) * x.d - 2 * x.p) * m)=((2 * k - 1) * x.d - 2 * x.p) * ((2 * k - 1) * x.d - 2 * x.p) * (m * m):=by grind
    have e2:=Int.mul_le_mul_of_nonneg_right a1 (Int.le_of_lt (Int.mul_pos hm hm))
    have e3:2 * (n * x.d - x.p * m) * (2 * (n * x.d - x.p * m))=4 * ((n * x.d - x.p * m) * (n * x.d - x.p * m)):=by grind
    have e4:2 * x.q * (2 * x.q) * x.r * (m * m)=4 * (x.q * x.q * x.r * (m * m)):=by grind
    have e5:=NR (a:=((2 * k - 1) * x.d - 2 * x.p) * m) (b:=2 * (n * x.d - x.p * m)) (by omega) (by omega)
    grind
  exact Int.le_of_mul_le_mul_right dm (by omega)
 refine Int.not_lt.1 fun q => ?_
 have:=Int.mul_le_mul_of_nonneg_left (show bG n m+1≤hx x by omega) (Int.le_of_lt hm)
 rw [Int.mul_add,Int.mul_one] at this
 have e:(2 * hx x - 1) * m=2 * (m * hx x) - m:=by grind
 omega
end Go.Proofs.YtmfblbbemekkoaaGreatDoor
namespace Go.Proofs.YtmfblbbemekkoaaGreatDoor
def kJ (s a d b:Int):Int:=if 2 * s≤a then 2 * s * d else a * b - 2 * (b - d) * (a - s)
def pk (s a d b:Int):Ex :=
 if b=0 then ⟨0,0,0,1⟩ else if 2 * s≤a then ⟨d * a * b - (a - 2 * s) * d * (b - d),0,0,b⟩
 else if 4 * d≤b then ⟨d * a * (b * b)+(2 * s - a) * d * (16 * d * d+3 * b * b - 12 * d * b),0,0,b * b⟩ else ⟨2 * d * (a - s),2 * s - a,d * b,1⟩
def pT (s a d b:Int):Ex:=if d=0 then ⟨0,0,0,1⟩ else if b * (a - s)≤d * a then ⟨a * b,0,0,1⟩ else ⟨a * a * d,0,0,a - s⟩
def wW (s a d b:Int):Ex:=if d=b then ⟨a * b,0,0,1⟩ else if s * b≤(b - d) * a then ⟨0,0,0,1⟩ else ⟨a * b * s - (b - d) * a * a,0,0,s⟩
def aR (mode s a d b:Int):Ex :=
 if mode=1 then ⟨s * b,0,0,1⟩ else if mode=2 then ⟨s * d,0,0,1⟩ else if mode=3 then ⟨s * b+d * a - s * d,0,0,1⟩
 else if mode=4 then ⟨kJ d b s a,0,0,1⟩ else if mode=5 then ⟨min (s * b) (d * a),0,0,1⟩ else if mode=6 then ⟨max (s * b) (d * a),0,0,1⟩
 else if mode=7 then pT s a d b else if mode=8 then wW s a d b else if mode=9 then ⟨kJ s a d b,0,0,1⟩ else if mode=10 then pk s a d b
 else if mode=11 then ⟨max (s * b) (d * a) - min (s * b) (d * a),0,0,1⟩ else ⟨s * b+d * a - 2 * s * d,0,0,1⟩
def jq (op a b m:Int):Int :=
 if op=2∨op=4 then m else if op=5∨op=8∨op=11∨op=12 then m - b else if op=6∨op=10 then b else 0
def lT (op a b m:Int):Int :=
 if op=3∨op=5 then m else if op=4∨op=9∨op=10∨op=12 then m - a else if op=7∨op=11 then a else 0
def cT (op mode m cs sl cb ab:Int):Ex :=
 ⟨(aR mode cs sl cb ab).p * jq op sl ab m+(m - ab) * cs * jq op sl ab m * (aR mode cs sl cb ab).d+lT op sl ab m * cb * m * (aR mode cs sl cb ab).d,
  jq op sl ab m * (aR mode cs sl cb ab).q,(aR mode cs sl cb ab).r,m * m * (aR mode cs sl cb ab).d⟩
def fq (op mode m cs sl cb ab:Int):Int:=hx (cT op mode m cs sl cb ab)
def dA (op a b m:Int):Int:=bG (jq op a b m * a+lT op a b m * b) m
def fj (op f g m:Int):Int :=
 if op=2∨op=8∨op=11 then f else if op=3∨op=9∨op=10 then g else if op=4∨op=5∨op=12 then bG (m * f+(m - f) * g) m
 else if op=6∨op=7 then bG (f * g) m else 0
def dq (mode m cs sl fs c cb ab:Int):Ex :=
 ⟨(aR mode cs sl cb ab).p+((m - fs) * c+(fs - sl) * cb+(m - ab) * cs) * (aR mode cs sl cb ab).d,(aR mode cs sl cb ab).q,(aR mode cs sl cb ab).r,m * (aR mode cs sl cb ab).d⟩
def eF (mode m cs sl fs c cb ab:Int):Int:=hx (dq mode m cs sl fs c cb ab)
def dG (m a f acc b:Int):Int:=bG ((m - f) * acc+(f - a) * b+m * a) m
structure Full (m:Int):Prop where
 h:m=255∨m=65535
theorem Full.pos {m:Int} (h:Full m):0<m:=by rcases h.h with q|q <;> omega
theorem Full.le {m:Int} (h:Full m):m≤65535:=by rcases h.h with q|q <;> omega
structure Pre (s a m:Int):Prop where
 s0:0≤s
 sa:s≤a
 am:a≤m
structure TermOk (x:Ex) (a b:Int):Prop where
 p0:0≤x.p
 q0:0≤x.q
 q1:x.q≤65535
 r0:0≤x.r
 r1:x.r≤4294836225
 d0:1≤x.d
 d1:x.d≤4294836225
 le:x.p≤a * b * x.d
 sq:x.q * x.q * x.r≤(a * b * x.d - x.p) * (a * b * x.d - x.p)
theorem aq {a b:Int} (ha:0≤a) (hb:0≤b):0≤a * b:=Int.mul_nonneg ha hb
theorem aw {a b c d:Int} (h1:a≤c) (h2:b≤d) (h3:0≤b) (h4:0≤c):a * b≤c * d:=Int.mul_le_mul h1 h2 h3 h4
theorem rH (a:Int):0≤a * a:=by
 rcases Int.le_total 0 a with h|h
 ·exact Int.mul_nonneg h h
 ·exact Int.mul_nonneg_of_nonpos_of_nonpos h h
theorem bV {p a b:Int} (h0:0≤p) (h1:p≤a * b):TermOk ⟨p,0,0,1⟩ a b :=
 ⟨h0,Int.le_refl _,by dsimp only;omega,Int.le_refl _,by dsimp only;omega,by dsimp only;omega,by dsimp only;omega,by rw [Int.mul_one];exact h1,by simpa using rH _⟩
theorem lI {p d a b:Int} (hd:1≤d) (hd1:d≤4294836225) (h0:0≤p) (h1:p≤a * b * d):TermOk ⟨p,0,0,d⟩ a b :=
 ⟨h0,Int.le_refl _,by dsimp only;omega,Int.le_refl _,by dsimp only;omega,hd,hd1,h1,by simpa using rH _⟩
theorem pK {s a d b:Int} (hs:0≤s) (hsa:s≤a) (hd:0≤d) (hdb:d≤b):0≤kJ s a d b∧kJ s a d b≤a * b:=by
 unfold kJ
 split
 ·have h1:0≤s * d:=aq hs hd
  have h2:2 * s * d≤a * b:=aw (by omega) hdb hd (by omega)
  have e:2 * s * d=2 * (s * d):=by grind
  omega
 ·have h1:0≤(b - d) * (a - s):=aq (by omega) (by omega)
  have h2:(b - d) * (2 * (a - s))≤b * a:=aw (by omega) (by omega) (by omega) (by omega)
  have e:2 * (b - d) * (a - s)=2 * ((b - d) * (a - s)):=by grind
  have e2:(b - d) * (2 * (a - s))=2 * ((b - d) * (a - s)):=by grind
  have e3:b * a=a * b:=Int.mul_comm _ _
  omega
theorem zp {s a d b:Int} (hs0:0≤s) (hsa:s≤a) (ham:a≤65535) (hd0:0≤d) (hdb:d≤b) (hbm:b≤65535):TermOk (pT s a d b) a b:=by
 have ab0:0≤a * b:=aq (by omega) (by omega)
 unfold pT
 split
 ·exact bV (Int.le_refl _) ab0
 split
 ·exact bV ab0 (Int.le_refl _)
 ·rename_i h1 h2
  have has:0<a - s:=by
   refine Int.not_le.1 fun q=>h2 ?_
   rw [show a - s=0 by omega,Int.mul_zero];exact aq hd0 (by omega)
  refine lI (by omega) (by omega) (aq (aq (by omega) (by omega)) hd0) ?_
  have:=Int.mul_le_mul_of_nonneg_left (show d * a≤b * (a - s) from Int.le_of_lt (Int.not_le.1 h2)) (show 0≤a by omega)
  have e1:a * a * d=a * (d * a):=by grind
  have e2:a * b * (a - s)=a * (b * (a - s)):=by grind
  rw [e1,e2];exact this
theorem tW {s a d b:Int} (hs0:0≤s) (hsa:s≤a) (ham:a≤65535) (hd0:0≤d) (hdb:d≤b) (hbm:b≤65535):TermOk (wW s a d b) a b:=by
 have ab0:0≤a * b:=aq (by omega) (by omega)
 unfold wW
 split
 ·exact bV ab0 (Int.le_refl _)
 split
 ·exact bV (Int.le_refl _) ab0
 ·rename_i h1 h2
  have hs1:0<s:=by
   refine Int.not_le.1 fun q=>h2 ?_
   rw [show s=0 by omega,Int.zero_mul];exact aq (by omega) (by omega)
  have h3:a * b * s - (b - d) * a * a=a * (s * b - (b - d) * a):=by grind
  refine lI (by omega) (by omega) ?_ ?_
  ·rw [h3];exact aq (by omega) (Int.sub_nonneg_of_le (Int.le_of_lt (Int.not_le.1 h2)))
  ·have:=aq (aq (show 0≤b - d by omega) (show 0≤a by omega)) (show 0≤a by omega)
   exact Int.sub_le_self _ this
theorem ub {d b:Int} (hd0:0≤d) (h4:4 * d≤b):0≤16 * d * d+3 * b * b - 12 * d * b∧16 * d * d+3 * b * b - 12 * d * b≤3 * (b * b):=by
 have g1:0≤(b - 4 * d) * (b - 4 * d):=rH _
 have g2:0≤(b - 4 * d) * b:=aq (by omega) (by omega)
 have g3:0≤(b - 4 * d) * d:=aq (by omega) (by omega)
 have g4:0≤b * d:=aq (by omega) (by omega)
 have e1:(b - 4 * d) * (b - 4 * d)=b * b - 8 * (b * d)+16 * (d * d):=by grind
 have e2:(b - 4 * d) * b=b * b - 4 * (b * d):=by grind
 have e3:(b - 4 * d) * d=b * d - 4 * (d * d):=by grind
 have e4:16 * d * d+3 * b * b - 12 * d * b=16 * (d * d)+3 * (b * b) - 12 * (b * d):=by grind
 rw [e4]
 generalize b * b=x at *
 generalize b * d=y at *
 generalize d * d=z at *
 omega
theorem tN {s a d b:Int} (hs0:0≤s) (hsa:s≤a) (ham:a≤65535) (hd0:0≤d) (hdb:d≤b) (hbm:b≤65535):TermOk (pk s a d b) a b:=by
 have ab0:0≤a * b:=aq (by omega) (by omega)
 have da0:0≤d * a:=aq hd0 (by omega)
 have da1:d * a≤a * b:=by rw [Int.mul_comm a b];exact aw hdb (Int.le_refl _) (by omega) (by omega)
 unfold pk
 split
 ·exact bV (Int.le_refl _) ab0
 rename_i hb0
 split
 ·rename_i hs2
  refine lI (by omega) (by omega) ?_ ?_
  ·have h1:(a - 2 * s) * (b - d)≤a * b:=aw (by omega) (by omega) (by omega) (by omega)
   have h2:=Int.mul_le_mul_of_nonneg_left h1 hd0
   have e1:(a - 2 * s) * d * (b - d)=d * ((a - 2 * s) * (b - d)):=by grind
   have e2:d * a * b=d * (a * b):=Int.mul_assoc _ _ _
   rw [e1,e2];exact Int.sub_nonneg_of_le h2
  ·have h1:0≤(a - 2 * s) * d * (b - d):=aq (aq (by omega) hd0) (by omega)
   have h2:=Int.mul_le_mul_of_nonneg_right da1 (show 0≤b by omega)
   exact Int.le_trans (Int.sub_le_self _ h1) h2
 rename_i hsa2
 split
 ·rename_i h4
  have hbb:b * b≤65535 * 65535:=aw (by omega) (by omega) (by omega) (by omega)
  have hb1:1 * 1≤b * b:=aw (by omega) (by omega) (by omega) (by omega)
  obtain ⟨hpol,hpol2⟩:=ub hd0 h4
  refine lI (by omega) (by omega) ?_ ?_
  ·exact Int.add_nonneg (aq da0 (by omega)) (aq (aq (by omega) hd0) hpol)
  ·have h1:(2 * s - a) * d * (16 * d * d+3 * b * b - 12 * d * b)≤a * d * (3 * (b * b)) :=
    aw (aw (by omega) (Int.le_refl _) hd0 (by omega)) hpol2 hpol (aq (by omega) hd0)
   have h2:=Int.mul_le_mul_of_nonneg_left h4 (aq (show 0≤a by omega) (show 0≤b * b by omega))
   have e1:a * (b * b) * (4 * d)=d * a * (b * b)+a * d * (3 * (b * b)):=by grind
   have e2:a * (b * b) * b=a * b * (b * b):=by grind
   rw [e1,e2] at h2
   exact Int.le_trans (Int.add_le_add_left h1 _) h2
 ·rename_i h4
  have h1:0≤d * (a - s):=aq hd0 (by omega)
  have h2:d * (a - s)≤b * (a - s):=aw hdb (Int.le_refl _) (by omega) (by omega)
  have e1:2 * d * (a - s)=2 * (d * (a - s)):=by grind
  have e3:a * b * 1 - 2 * d * (a - s)=(2 * s - a) * b+2 * (b * (a - s) - d * (a - s)):=by grind
  have h3:0≤(2 * s - a) * b:=aq (by omega) (by omega)
  have h4:(2 * s - a) * (2 * s - a) * (d * b)≤(2 * s - a) * (2 * s - a) * (b * b):=Int.mul_le_mul_of_nonneg_left (aw hdb (Int.le_refl _) (by omega) (by omega)) (rH _)
  have h5:(2 * s - a) * b * ((2 * s - a) * b)≤(a * b * 1 - 2 * d * (a - s)) * (a * b * 1 - 2 * d * (a - s)):=iO h3 (by rw [e3];omega)
  have e4:(2 * s - a) * b * ((2 * s - a) * b)=(2 * s - a) * (2 * s - a) * (b * b):=by grind
  have hdb2:d * b≤65535 * 65535:=aw (by omega) (by omega) (by omega) (by omega)
  rw [e4] at h5
  refine ⟨?_, ?_, ?_, ?_, ?_, ?_, ?_, ?_, ?_⟩
  ·show 0≤2 * d * (a - s);omega
  ·show 0≤2 * s - a;omega
  ·show 2 * s - a≤_;omega
  ·exact aq hd0 (by omega)
  ·exact hdb2
  ·exact Int.le_refl _
  ·show (1:Int)≤4294836225;decide
  ·show 2 * d * (a - s)≤a * b * 1;omega
  ·exact Int.le_trans h4 h5
theorem ic {p:Prop} [Decidable p] {x y:Ex} {a b:Int} (h1:TermOk x a b) (h2:TermOk y a b):TermOk (if p then x else y) a b:=by
 split
 ·exact h1
 ·exact h2
theorem lQ {mode s a d b m:Int} (hm:Full m) (hs:Pre s a m) (hd:Pre d b m):TermOk (aR mode s a d b) a b:=by
 obtain ⟨hs0,hsa,ham⟩:=hs
 obtain ⟨hd0,hdb,hbm⟩:=hd
 have hmle:=hm.le
 have sb0:0≤s * b:=aq hs0 (by omega)
 have da0:0≤d * a:=aq hd0 (by omega)
 have sd0:0≤s * d:=aq hs0 hd0
 have sb1:s * b≤a * b:=aw hsa (Int.le_refl _) (by omega) (by omega)
 have da1:d * a≤a * b:=by rw [Int.mul_comm a b];exact aw hdb (Int.le_refl _) (by omega) (by omega)
 have sd1:s * d≤a * b:=aw hsa hdb hd0 (by omega)
 have sd2:s * d≤s * b:=aw (Int.le_refl _) hdb hd0 hs0
 have sd3:s * d≤d * a:=by rw [Int.mul_comm s d];exact aw (Int.le_refl _) hsa hs0 hd0
 have scr:0≤(a - s) * (b - d):=aq (by omega) (by omega)
 have escr:(a - s) * (b - d)=a * b - s * b - d * a+s * d:=by grind
 have e2:2 * s * d=2 * (s * d):=Int.mul_assoc _ _ _
 rw [escr] at scr
 have hh1:=pK hs0 hsa hd0 hdb
 have hh2:=pK hd0 hdb hs0 hsa
 rw [Int.mul_comm b a] at hh2
 have t7:=zp hs0 hsa (by omega) hd0 hdb (by omega)
 have t8:=tW hs0 hsa (by omega) hd0 hdb (by omega)
 have t10:=tN hs0 hsa (by omega) hd0 hdb (by omega)
 have t3:TermOk ⟨s * b+d * a - s * d,0,0,1⟩ a b:=bV (by clear t7 t8 t10 hh1 hh2;omega) (by clear t7 t8 t10 hh1 hh2;omega)
 have t5:TermOk ⟨min (s * b) (d * a),0,0,1⟩ a b:=bV (by clear t7 t8 t10 hh1 hh2 scr escr e2;omega) (by clear t7 t8 t10 hh1 hh2 scr escr e2;omega)
 have t6:TermOk ⟨max (s * b) (d * a),0,0,1⟩ a b:=bV (by clear t7 t8 t10 hh1 hh2 scr escr e2;omega) (by clear t7 t8 t10 hh1 hh2 scr escr e2;omega)
 have t11:TermOk ⟨max (s * b) (d * a) - min (s * b) (d * a),0,0,1⟩ a b:=bV (by clear t7 t8 t10 hh1 hh2 scr escr e2;omega) (by clear t7 t8 t10 hh1 hh2 scr escr e2;omega)
 have t12:TermOk ⟨s * b+d * a - 2 * s * d,0,0,1⟩ a b:=bV (by rw [e2];clear t7 t8 t10 hh1 hh2 scr escr;omega) (by rw [e2];clear t7 t8 t10 hh1 hh2;omega)
 exact ic (bV sb0 sb1) (ic (bV sd0 sd1) (ic t3 (ic (bV hh2.1 hh2.2) (ic t5 (ic t6 (ic t7 (ic t8 (ic (bV hh1.1 hh1.2) (ic t10 (ic t11 t12))))))))))
end Go.Proofs.YtmfblbbemekkoaaGreatDoor
namespace Go.Proofs.YtmfblbbemekkoaaGreatDoor
theorem lS {op a b m:Int} (ha:0≤a) (ham:a≤m) (hb:0≤b) (hbm:b≤m):0≤jq op a b m∧jq op a b m≤m:=by
 unfold jq;repeat' split
 all_goals omega
theorem mJ {op a b m:Int} (ha:0≤a) (ham:a≤m) (hb:0≤b) (hbm:b≤m):0≤lT op a b m∧lT op a b m≤m:=by
 unfold lT;repeat' split
 all_goals omega
theorem Jh {x : Ex} {A : Int} (p0 : 0 ≤ x.p) (q0 : 0 ≤ x.q) (q1 : x.q < 70368744177664) (r0 : 0 ≤ x.r) (r1 : x.r < 8589934592) (d0 : 1 ≤ x.d) (d1 : x.d < 18446744073709551616)
  (pA:x.p≤A) (sq:x.q * x.q * x.r≤(A - x.p) * (A - x.p)) (hA:A≤131072 * x.d):ExOk x:=by
 refine ⟨p0,by omega,q0,q1,r0,r1,d0,d1, ?_⟩
 simp only [ox,decide_eq_false_iff_not,Int.one_mul]
 rintro (h|h)
 ·omega
 ·have h1:(A - x.p+1) * (A - x.p+1)≤(4611686018427387904 * x.d - x.p) * (4611686018427387904 * x.d - x.p):=iO (by omega) (by omega)
  have e:(A - x.p+1) * (A - x.p+1)=(A - x.p) * (A - x.p)+2 * (A - x.p)+1:=by grind
  omega
theorem Ph {m:Int} (hm:Full m):m * m≤4294836225∧1≤m * m:=by
 rcases hm.h with rfl|rfl <;> decide
section
variable {op mode m cs sl cb ab:Int}
def mX (op m sl ab:Int):Int:=jq op sl ab m * sl+lT op sl ab m * ab
theorem FV (hm:Full m) (h1:0≤sl) (h2:sl≤m) (h3:0≤ab) (h4:ab≤m):0≤mX op m sl ab∧mX op m sl ab≤131070 * m:=by
 have ⟨a1,a2⟩:=lS (op:=op) h1 h2 h3 h4
 have ⟨b1,b2⟩:=mJ (op:=op) h1 h2 h3 h4
 have hle:=hm.le
 have e1:jq op sl ab m * sl≤m * 65535:=aw a2 (by omega) h1 (by omega)
 have e2:lT op sl ab m * ab≤m * 65535:=aw b2 (by omega) h3 (by omega)
 have e3:=aq a1 h1
 have e4:=aq b1 h3
 unfold mX;omega
theorem wa (hm : Full m) (hs : Pre cs sl m) (hd : Pre cb ab m) :
  0≤(cT op mode m cs sl cb ab).p∧(cT op mode m cs sl cb ab).p≤mX op m sl ab * m * (aR mode cs sl cb ab).d ∧
   (cT op mode m cs sl cb ab).q * (cT op mode m cs sl cb ab).q * (cT op mode m cs sl cb ab).r ≤
    (mX op m sl ab * m * (aR mode cs sl cb ab).d - (cT op mode m cs sl cb ab).p) * (mX op m sl ab * m * (aR mode cs sl cb ab).d - (cT op mode m cs sl cb ab).p):=by
 have ht:=lQ (mode:=mode) hm hs hd
 obtain ⟨s0,sa,am⟩:=hs
 obtain ⟨d0,db,bm⟩:=hd
 have ⟨a1,a2⟩:=lS (op:=op) (show 0≤sl by omega) am (show 0≤ab by omega) bm
 have ⟨b1,b2⟩:=mJ (op:=op) (show 0≤sl by omega) am (show 0≤ab by omega) bm
 have hp:=hm.pos
 obtain ⟨p0,q0,q1,r0,r1,dd0,dd1,ple,psq⟩:=ht
 unfold cT mX
 generalize aR mode cs sl cb ab=t at *
 generalize jq op sl ab m=fa at *
 generalize lT op sl ab m=fb at *
 dsimp only
 have k1:0≤fa * ((m - ab) * (sl - cs) * t.d):=aq a1 (aq (aq (by omega) (by omega)) (by omega))
 have k2:0≤fb * ((ab - cb) * m * t.d):=aq b1 (aq (aq (by omega) (by omega)) (by omega))
 have k3:0≤fa * (sl * ab * t.d - t.p):=aq a1 (by omega)
 have e:(fa * sl+fb * ab) * m * t.d - (t.p * fa+(m - ab) * cs * fa * t.d+fb * cb * m * t.d)=fa * (sl * ab * t.d - t.p)+fa * ((m - ab) * (sl - cs) * t.d)+fb * ((ab - cb) * m * t.d):=by grind
 refine ⟨?_,by omega, ?_⟩
 ·exact Int.add_nonneg (Int.add_nonneg (aq p0 a1) (aq (aq (aq (by omega) s0) a1) (by omega))) (aq (aq (aq b1 d0) (by omega)) (by omega))
 ·rw [e]
  have h1:fa * (sl * ab * t.d - t.p) * (fa * (sl * ab * t.d - t.p))≤(fa * (sl * ab * t.d - t.p)+fa * ((m - ab) * (sl - cs) * t.d)+fb * ((ab - cb) * m * t.d)) * (fa * (sl * ab * t.d - t.p)+fa * ((m - ab) * (sl - cs) * t.d)+fb * ((ab - cb) * m * t.d)) :=
   iO k3 (by omega)
  refine Int.le_trans ?_ h1
  have h2:=Int.mul_le_mul_of_nonneg_left psq (rH fa)
  have e2:fa * t.q * (fa * t.q) * t.r=fa * fa * (t.q * t.q * t.r):=by grind
  have e3:fa * (sl * ab * t.d - t.p) * (fa * (sl * ab * t.d - t.p))=fa * fa * ((sl * ab * t.d - t.p) * (sl * ab * t.d - t.p)):=by grind
  rw [e2,e3];exact h2
theorem mL (hm:Full m) (hs:Pre cs sl m) (hd:Pre cb ab m):ExOk (cT op mode m cs sl cb ab):=by
 obtain ⟨v0,v1,v2⟩:=wa (op:=op) (mode:=mode) hm hs hd
 have ht:=lQ (mode:=mode) hm hs hd
 have ⟨n0,n1⟩:=FV (op:=op) hm (show 0≤sl by have:=hs.s0;have:=hs.sa;omega) hs.am (show 0≤ab by have:=hd.s0;have:=hd.sa;omega) hd.am
 have ⟨a1,a2⟩:=lS (op:=op) (show 0≤sl by have:=hs.s0;have:=hs.sa;omega) hs.am (show 0≤ab by have:=hd.s0;have:=hd.sa;omega) hd.am
 have hmle:=hm.le
 have hp:=hm.pos
 obtain ⟨mm1,mm2⟩:=Ph hm
 refine Jh v0 ?_ ?_ ht.r0 ?_ ?_ ?_ v1 v2 ?_
 ·exact aq a1 ht.q0
 ·show jq op sl ab m * (aR mode cs sl cb ab).q<_
  have:jq op sl ab m * (aR mode cs sl cb ab).q≤65535 * 65535:=aw (by omega) ht.q1 ht.q0 (by omega)
  omega
 ·have:=ht.r1
  show (aR mode cs sl cb ab).r<_
  omega
 ·show 1≤m * m * (aR mode cs sl cb ab).d
  have:1 * 1≤m * m * (aR mode cs sl cb ab).d:=aw mm2 ht.d0 (by omega) (by omega)
  omega
 ·show m * m * (aR mode cs sl cb ab).d<_
  have:m * m * (aR mode cs sl cb ab).d≤4294836225 * 4294836225:=aw mm1 ht.d1 (by have:=ht.d0;omega) (by omega)
  omega
 ·show mX op m sl ab * m * (aR mode cs sl cb ab).d≤131072 * (m * m * (aR mode cs sl cb ab).d)
  have hd0:=ht.d0
  generalize (aR mode cs sl cb ab).d=D at *
  have e1:mX op m sl ab * m * D≤131070 * m * m * D:=aw (aw n1 (Int.le_refl _) (by omega) (by omega)) (Int.le_refl _) (by omega) (aq (by omega) (by omega))
  have e2:131070 * m * m * D=131070 * (m * m * D):=by grind
  have e3:0≤m * m * D:=aq (by omega) (by omega)
  omega
theorem qX (hm:Full m) (hs:Pre cs sl m) (hd:Pre cb ab m):0≤fq op mode m cs sl cb ab:=(nj (mL hm hs hd)).2.2
theorem mP (hm:Full m) (hs:Pre cs sl m) (hd:Pre cb ab m):fq op mode m cs sl cb ab≤dA op sl ab m:=by
 obtain ⟨v0,v1,v2⟩:=wa (op:=op) (mode:=mode) hm hs hd
 refine Jj (mL hm hs hd) hm.pos ?_ ?_
 ·show (cT op mode m cs sl cb ab).p * m≤mX op m sl ab * (m * m * (aR mode cs sl cb ab).d)
  have:=Int.mul_le_mul_of_nonneg_right v1 (Int.le_of_lt hm.pos)
  grind
 ·have e:mX op m sl ab * (m * m * (aR mode cs sl cb ab).d) - (cT op mode m cs sl cb ab).p * m=(mX op m sl ab * m * (aR mode cs sl cb ab).d - (cT op mode m cs sl cb ab).p) * m:=by grind
  show (cT op mode m cs sl cb ab).q * (cT op mode m cs sl cb ab).q * (cT op mode m cs sl cb ab).r * (m * m)≤(mX op m sl ab * (m * m * (aR mode cs sl cb ab).d) - (cT op mode m cs sl cb ab).p * m) * (mX op m sl ab * (m * m * (aR mode cs sl cb ab).d) - (cT op mode m cs sl cb ab).p * m)
  rw [e]
  have:=Int.mul_le_mul_of_nonneg_right v2 (rH m)
  have e2:∀ u:Int,u * m * (u * m)=u * u * (m * m):=fun u=>by grind
  rw [e2];exact this
variable {fs c acc:Int}
def zD (m fs sl acc ab:Int):Int:=(m - fs) * acc+(fs - sl) * ab+m * sl
theorem xq (hm : Full m) (hs : Pre cs sl m) (hd : Pre cb ab m) (hf : sl ≤ fs) (hfm : fs ≤ m) (hc : 0 ≤ c) (hca : c ≤ acc) :
  0≤(dq mode m cs sl fs c cb ab).p∧(dq mode m cs sl fs c cb ab).p≤zD m fs sl acc ab * (aR mode cs sl cb ab).d ∧
   (dq mode m cs sl fs c cb ab).q * (dq mode m cs sl fs c cb ab).q * (dq mode m cs sl fs c cb ab).r ≤
    (zD m fs sl acc ab * (aR mode cs sl cb ab).d - (dq mode m cs sl fs c cb ab).p) * (zD m fs sl acc ab * (aR mode cs sl cb ab).d - (dq mode m cs sl fs c cb ab).p):=by
 have ht:=lQ (mode:=mode) hm hs hd
 obtain ⟨s0,sa,am⟩:=hs
 obtain ⟨d0,db,bm⟩:=hd
 have hp:=hm.pos
 obtain ⟨p0,q0,q1,r0,r1,dd0,dd1,ple,psq⟩:=ht
 unfold dq zD
 generalize aR mode cs sl cb ab=t at *
 dsimp only
 have k1:0≤(m - fs) * (acc - c) * t.d:=aq (aq (by omega) (by omega)) (by omega)
 have k2:0≤(fs - sl) * (ab - cb) * t.d:=aq (aq (by omega) (by omega)) (by omega)
 have k3:0≤(m - ab) * (sl - cs) * t.d:=aq (aq (by omega) (by omega)) (by omega)
 have e:((m - fs) * acc+(fs - sl) * ab+m * sl) * t.d - (t.p+((m - fs) * c+(fs - sl) * cb+(m - ab) * cs) * t.d)=(sl * ab * t.d - t.p)+(m - fs) * (acc - c) * t.d+(fs - sl) * (ab - cb) * t.d+(m - ab) * (sl - cs) * t.d:=by grind
 refine ⟨?_,by omega, ?_⟩
 ·exact Int.add_nonneg p0 (aq (Int.add_nonneg (Int.add_nonneg (aq (by omega) hc) (aq (by omega) d0)) (aq (by omega) s0)) (by omega))
 ·rw [e]
  exact Int.le_trans psq (iO (by omega) (by omega))
theorem Ei (hm:Full m) (h1:0≤sl) (h2:sl≤fs) (h3:fs≤m) (h4:0≤acc) (h5:acc≤m) (h6:0≤ab) (h7:ab≤m):0≤zD m fs sl acc ab∧zD m fs sl acc ab≤m * m:=by
 have k1:0≤(m - fs) * (m - acc):=aq (by omega) (by omega)
 have k2:0≤(fs - sl) * (m - ab):=aq (by omega) (by omega)
 have k4:0≤(m - fs) * acc:=aq (by omega) h4
 have k5:0≤(fs - sl) * ab:=aq (by omega) h6
 have k6:0≤m * sl:=aq (by omega) h1
 have e:m * m - ((m - fs) * acc+(fs - sl) * ab+m * sl)=(m - fs) * (m - acc)+(fs - sl) * (m - ab):=by grind
 unfold zD;omega
theorem sA (hm:Full m) (hs:Pre cs sl m) (hd:Pre cb ab m) (hf:sl≤fs) (hfm:fs≤m) (hc:0≤c) (hcm:c≤m):ExOk (dq mode m cs sl fs c cb ab):=by
 obtain ⟨v0,v1,v2⟩:=xq (mode:=mode) (acc:=m) hm hs hd hf hfm hc hcm
 have ht:=lQ (mode:=mode) hm hs hd
 have hp:=hm.pos
 have hle:=hm.le
 have ⟨n0,n1⟩:=Ei (acc:=m) hm (show 0≤sl by have:=hs.s0;have:=hs.sa;omega) hf hfm (by omega) (Int.le_refl _) (show 0≤ab by have:=hd.s0;have:=hd.sa;omega) hd.am
 refine Jh v0 ht.q0 ?_ ht.r0 ?_ ?_ ?_ v1 v2 ?_
 ·have:=ht.q1
  show (aR mode cs sl cb ab).q<_
  omega
 ·have:=ht.r1
  show (aR mode cs sl cb ab).r<_
  omega
 ·show 1≤m * (aR mode cs sl cb ab).d
  have:1 * 1≤m * (aR mode cs sl cb ab).d:=aw hp ht.d0 (by omega) (by omega)
  omega
 ·show m * (aR mode cs sl cb ab).d<_
  have:m * (aR mode cs sl cb ab).d≤65535 * 4294836225:=aw hle ht.d1 (by have:=ht.d0;omega) (by omega)
  omega
 ·show zD m fs sl m ab * (aR mode cs sl cb ab).d≤131072 * (m * (aR mode cs sl cb ab).d)
  have hd0:=ht.d0
  generalize (aR mode cs sl cb ab).d=D at *
  have e1:zD m fs sl m ab * D≤65535 * m * D:=aw (Int.le_trans n1 (aw hle (Int.le_refl _) (by omega) (by omega))) (Int.le_refl _) (by omega) (by omega)
  have e2:65535 * m * D=65535 * (m * D):=Int.mul_assoc _ _ _
  have e3:0≤m * D:=aq (by omega) (by omega)
  omega
theorem se (hm:Full m) (hs:Pre cs sl m) (hd:Pre cb ab m) (hf:sl≤fs) (hfm:fs≤m) (hc:0≤c) (hcm:c≤m):0≤eF mode m cs sl fs c cb ab:=(nj (sA hm hs hd hf hfm hc hcm)).2.2
theorem nH (hm:Full m) (hs:Pre cs sl m) (hd:Pre cb ab m) (hf:sl≤fs) (hfm:fs≤m) (hc:0≤c) (hca:c≤acc) (ham:acc≤m):eF mode m cs sl fs c cb ab≤dG m sl fs acc ab:=by
 obtain ⟨v0,v1,v2⟩:=xq (mode:=mode) hm hs hd hf hfm hc hca
 refine Jj (sA hm hs hd hf hfm hc (by omega)) hm.pos ?_ ?_
 ·show (dq mode m cs sl fs c cb ab).p * m≤zD m fs sl acc ab * (m * (aR mode cs sl cb ab).d)
  have:=Int.mul_le_mul_of_nonneg_right v1 (Int.le_of_lt hm.pos)
  grind
 ·have e:zD m fs sl acc ab * (m * (aR mode cs sl cb ab).d) - (dq mode m cs sl fs c cb ab).p * m=(zD m fs sl acc ab * (aR mode cs sl cb ab).d - (dq mode m cs sl fs c cb ab).p) * m:=by grind
  show (dq mode m cs sl fs c cb ab).q * (dq mode m cs sl fs c cb ab).q * (dq mode m cs sl fs c cb ab).r * (m * m)≤(zD m fs sl acc ab * (m * (aR mode cs sl cb ab).d) - (dq mode m cs sl fs c cb ab).p * m) * (zD m fs sl acc ab * (m * (aR mode cs sl cb ab).d) - (dq mode m cs sl fs c cb ab).p * m)
  rw [e]
  have:=Int.mul_le_mul_of_nonneg_right v2 (rH m)
  have e2:∀ u:Int,u * m * (u * m)=u * u * (m * m):=fun u=>by grind
  rw [e2];exact this
end
end Go.Proofs.YtmfblbbemekkoaaGreatDoor
namespace Go.Proofs.YtmfblbbemekkoaaGreatDoor
section
variable {op m a b f g:Int}
theorem Fz (hm:Full m) (ha:0≤a) (ham:a≤m) (hb:0≤b) (hbm:b≤m):0≤dA op a b m:=by
 have ⟨a1,a2⟩:=lS (op:=op) ha ham hb hbm
 have ⟨b1,b2⟩:=mJ (op:=op) ha ham hb hbm
 exact cE hm.pos (Int.add_nonneg (aq a1 ha) (aq b1 hb))
def LC (op f g m:Int):Int :=
 if op=2∨op=8∨op=11 then m * f else if op=3∨op=9∨op=10 then m * g else if op=4∨op=5∨op=12 then m * f+(m - f) * g
 else if op=6∨op=7 then f * g else 0
theorem mv (hm:Full m):fj op f g m=bG (LC op f g m) m:=by
 unfold fj LC
 repeat' split
 all_goals first|rfl|exact (qq hm.pos).symm|exact (th hm.pos).symm
theorem Mg (hf:0≤f) (hfm:f≤m) (hg:0≤g) (hgm:g≤m):0≤LC op f g m∧LC op f g m≤m * m:=by
 have k1:0≤m * f:=aq (by omega) hf
 have k2:0≤m * g:=aq (by omega) hg
 have k3:0≤(m - f) * g:=aq (by omega) hg
 have k4:0≤f * g:=aq hf hg
 have k5:m * f≤m * m:=aw (Int.le_refl _) hfm hf (by omega)
 have k6:m * g≤m * m:=aw (Int.le_refl _) hgm hg (by omega)
 have k7:(m - f) * g≤(m - f) * m:=aw (Int.le_refl _) hgm hg (by omega)
 have k8:f * g≤m * m:=aw hfm hgm hg (by omega)
 have e:(m - f) * m=m * m - m * f:=by grind
 have k9:0≤m * m:=aq (by omega) (by omega)
 unfold LC
 repeat' split
 all_goals omega
theorem nw (hm:Full m) (hf:0≤f) (hfm:f≤m) (hg:0≤g) (hgm:g≤m):0≤fj op f g m∧fj op f g m≤m:=by
 rw [mv hm]
 obtain ⟨h1,h2⟩:=Mg (op:=op) hf hfm hg hgm
 exact ⟨cE hm.pos h1,na hm.pos h2⟩
theorem pf (hm:Full m) (ha:0≤a) (haf:a≤f) (hfm:f≤m) (hb:0≤b) (hbg:b≤g) (hgm:g≤m):dA op a b m≤fj op f g m:=by
 rw [mv hm]
 refine fz hm.pos ?_
 have k1:m * a≤m * f:=aw (Int.le_refl _) haf ha (by omega)
 have k2:m * b≤m * g:=aw (Int.le_refl _) hbg hb (by omega)
 have k3:0≤a * b:=aq ha hb
 have k4:a * b≤f * g:=aw haf hbg hb (by omega)
 have k5:0≤(m - g) * (f - a):=aq (by omega) (by omega)
 have k6:0≤(m - a) * (g - b):=aq (by omega) (by omega)
 have k7:0≤m * a:=aq (by omega) ha
 have k8:0≤m * b:=aq (by omega) hb
 have k9:0≤(m - b) * (f - a):=aq (by omega) (by omega)
 have k10:0≤(m - f) * (g - b):=aq (by omega) (by omega)
 have e1:(m - g) * (f - a)=m * f - m * a - f * g+a * g:=by grind
 have e2:(m - a) * (g - b)=m * g - m * b - a * g+a * b:=by grind
 have e3:(m - b) * a=m * a - a * b:=by grind
 have e4:(m - a) * b=m * b - a * b:=by grind
 have e5:(m - f) * g=m * g - f * g:=by grind
 have e6:b * a=a * b:=Int.mul_comm _ _
 unfold LC jq lT
 by_cases h1:op=1∨op=2∨op=3∨op=4∨op=5∨op=6∨op=7∨op=8∨op=9∨op=10∨op=11∨op=12
 ·rcases h1 with rfl|rfl|rfl|rfl|rfl|rfl|rfl|rfl|rfl|rfl|rfl|rfl <;> simp only [Int.reduceEq,or_self,or_true,true_or,or_false,false_or,if_true,if_false,Int.zero_mul,Int.add_zero,Int.zero_add] <;> omega
 ·repeat rw [if_neg (by omega)]
  omega
theorem qP (hm:Full m) (ha:0≤a) (ham:a≤m) (hb:0≤b) (hbm:b≤m):dA op a b m≤m :=
 Int.le_trans (pf hm ha (Int.le_refl _) ham hb (Int.le_refl _) hbm) (nw hm ha ham hb hbm).2
theorem AU {a b b':Int} (hm:Full m) (ha:0≤a) (ham:a≤m) (h:b≤b'):dA 4 a b m≤dA 4 a b' m:=by
 refine fz hm.pos ?_
 rw [show jq 4 a b m=m from rfl,show lT 4 a b m=m - a from rfl,show jq 4 a b' m=m from rfl,show lT 4 a b' m=m - a from rfl]
 have:=Int.mul_le_mul_of_nonneg_left h (show 0≤m - a by omega)
 omega
end
section
variable {m a f acc acc' b:Int}
theorem ln (hm:Full m) (ha:0≤a) (haf:a≤f) (hfm:f≤m) (h1:0≤acc) (h2:acc≤m) (h3:0≤b) (h4:b≤m):0≤dG m a f acc b∧dG m a f acc b≤m:=by
 have ⟨n0,n1⟩:=Ei (fs:=f) (sl:=a) (acc:=acc) (ab:=b) hm ha haf hfm h1 h2 h3 h4
 exact ⟨cE hm.pos n0,na hm.pos n1⟩
theorem wx {b':Int} (hm:Full m) (haf:a≤f) (hfm:f≤m) (h:acc≤acc') (hb:b≤b'):dG m a f acc b≤dG m a f acc' b':=by
 refine fz hm.pos ?_
 have h1:=Int.mul_le_mul_of_nonneg_left h (show 0≤m - f by omega)
 have h2:=Int.mul_le_mul_of_nonneg_left hb (show 0≤f - a by omega)
 omega
theorem ve {g:Int} (hm:Full m) (ha:0≤a) (haf:a≤f) (hfm:f≤m) (h1:0≤acc) (hg:acc≤g) (hgm:g≤m):dG m a f acc 0≤fj 4 f g m:=by
 rw [mv hm]
 refine fz hm.pos ?_
 rw [show LC 4 f g m=m * f+(m - f) * g from rfl]
 have h2:=Int.mul_le_mul_of_nonneg_left hg (show 0≤m - f by omega)
 have h3:=Int.mul_le_mul_of_nonneg_left haf (show 0≤m by omega)
 omega
end
structure Acc where
 c0:Int
 c1:Int
 c2:Int
 a:Int
 own:Int
 f:Int
 deriving DecidableEq,Inhabited
structure PixV (p:Pixel) (m:Int):Prop where
 n0:0≤p.c0
 n1:0≤p.c1
 n2:0≤p.c2
 l0:p.c0≤p.a
 l1:p.c1≤p.a
 l2:p.c2≤p.a
 af:p.a≤p.f
 fm:p.f≤m
structure AccV (x:Acc) (b:Pixel) (m:Int):Prop where
 n0:0≤x.c0
 n1:0≤x.c1
 n2:0≤x.c2
 l0:x.c0≤x.a
 l1:x.c1≤x.a
 l2:x.c2≤x.a
 o0:0≤x.own
 oa:x.own≤x.a
 of:x.own≤x.f
 am:x.a≤m
 fm:x.f≤m
 bk:PixV b m
 bf:b.f=b.a
theorem PixV.a0 {p:Pixel} {m:Int} (h:PixV p m):0≤p.a:=Int.le_trans h.n0 h.l0
theorem PixV.am {p:Pixel} {m:Int} (h:PixV p m):p.a≤m:=Int.le_trans h.af h.fm
theorem PixV.f0 {p:Pixel} {m:Int} (h:PixV p m):0≤p.f:=Int.le_trans h.a0 h.af
theorem AccV.a0 {x:Acc} {b:Pixel} {m:Int} (h:AccV x b m):0≤x.a:=Int.le_trans h.n0 h.l0
theorem AccV.f0 {x:Acc} {b:Pixel} {m:Int} (h:AccV x b m):0≤x.f:=Int.le_trans h.o0 h.of
theorem AccV.om {x:Acc} {b:Pixel} {m:Int} (h:AccV x b m):x.own≤m:=Int.le_trans h.oa h.am
def aG:Pixel:=⟨0,0,0,0,0⟩
def FA:Acc:=⟨0,0,0,0,0,0⟩
theorem qY {m:Int} (hm:Full m):PixV aG m:=by
 have:=hm.pos
 constructor <;> simp only [aG] <;> omega
theorem La {m:Int} (hm:Full m):AccV FA aG m:=by
 have:=hm.pos
 refine ⟨?_, ?_, ?_, ?_, ?_, ?_, ?_, ?_, ?_, ?_, ?_,qY hm,rfl⟩ <;> simp only [FA] <;> omega
def fZ (isolated knockout:Bool) (outer:Acc) (back:Pixel):Pixel :=
 if isolated=true then aG else if knockout=true then back else ⟨outer.c0,outer.c1,outer.c2,outer.a,outer.a⟩
def EL (b:Pixel):Acc:=⟨b.c0,b.c1,b.c2,b.a,0,0⟩
def iL (ko:Bool) (op mode m:Int) (s:Pixel) (x:Acc) (b:Pixel):Acc :=
 if ko=true then ⟨eF mode m s.c0 s.a s.f x.c0 b.c0 b.a,eF mode m s.c1 s.a s.f x.c1 b.c1 b.a,eF mode m s.c2 s.a s.f x.c2 b.c2 b.a,dG m s.a s.f x.a b.a,dG m s.a s.f x.own 0,fj op s.f x.f m⟩
 else ⟨fq op mode m s.c0 s.a x.c0 x.a,fq op mode m s.c1 s.a x.c1 x.a,fq op mode m s.c2 s.a x.c2 x.a,dA op s.a x.a m,dA op s.a x.own m,fj op s.f x.f m⟩
def kt (c k own m:Int):Int:=if (m - own) * k<m * c then min (bG (m * c - (m - own) * k) m) own else 0
def bl (x:Acc) (b:Pixel) (m:Int):Pixel:=⟨kt x.c0 b.c0 x.own m,kt x.c1 b.c1 x.own m,kt x.c2 b.c2 x.own m,x.own,x.f⟩
def aX (p:Pixel) (k m:Int):Pixel:=⟨bG (p.c0 * k) m,bG (p.c1 * k) m,bG (p.c2 * k) m,bG (p.a * k) m,bG (p.f * k) m⟩
theorem Ig {i k:Bool} {x:Acc} {b:Pixel} {m:Int} (hm:Full m) (h:AccV x b m):PixV (fZ i k x b) m∧(fZ i k x b).f=(fZ i k x b).a:=by
 have hp:=hm.pos
 unfold fZ
 split
 ·exact ⟨qY hm,rfl⟩
 split
 ·exact ⟨h.bk,h.bf⟩
 ·exact ⟨⟨h.n0,h.n1,h.n2,h.l0,h.l1,h.l2,Int.le_refl _,h.am⟩,rfl⟩
theorem Ih {b:Pixel} {m:Int} (h:PixV b m) (hf:b.f=b.a):AccV (EL b) b m :=
 ⟨h.n0,h.n1,h.n2,h.l0,h.l1,h.l2,Int.le_refl _,h.a0,Int.le_refl _,h.am,Int.le_trans h.f0 h.fm,h,hf⟩
theorem jD {p:Pixel} {k m:Int} (hm:Full m) (h:PixV p m) (hk:0≤k) (hkm:k≤m):PixV (aX p k m) m:=by
 have mono:∀ {x y:Int},x≤y→bG (x * k) m≤bG (y * k) m:=fun q=>fz hm.pos (Int.mul_le_mul_of_nonneg_right q hk)
 refine ⟨cE hm.pos (aq h.n0 hk),cE hm.pos (aq h.n1 hk),cE hm.pos (aq h.n2 hk),mono h.l0,mono h.l1,mono h.l2,mono h.af,na hm.pos ?_⟩
 rw [Int.mul_comm m m]
 exact aw h.fm hkm hk (Int.le_of_lt hm.pos)
theorem hZ {p:Pixel} {m:Int} (hm:Full m):aX p m m=p:=by
 have e:∀ x:Int,bG (x * m) m=x:=fun x=>by rw [Int.mul_comm,qq hm.pos]
 simp only [aX,e]
theorem kz {x:Acc} {b:Pixel} {m:Int} (hm:Full m) (h:AccV x b m):PixV (bl x b m) m:=by
 have c0:∀ {c k:Int},0≤kt c k x.own m:=fun {c k}=>by
  unfold kt
  split
  ·have:=cE (n:=m * c - (m - x.own) * k) hm.pos (by omega)
   have:=h.o0
   omega
  ·exact Int.le_refl _
 have c1:∀ {c k:Int},kt c k x.own m≤x.own:=fun {c k}=>by
  unfold kt
  split
  ·exact Int.min_le_right _ _
  ·exact h.o0
 exact ⟨c0,c0,c0,c1,c1,c1,h.of,h.fm⟩
theorem Lg {ko:Bool} {op mode m:Int} {s:Pixel} {x:Acc} {b:Pixel} (hm:Full m) (hs:PixV s m) (h:AccV x b m) (hop:op=4∨ko=false∧x.own=x.a):AccV (iL ko op mode m s x b) b m:=by
 have b0:=h.bk
 unfold iL
 split
 ·rename_i hk
  have h4:op=4:=hop.elim id fun q=>by rw [hk] at q;cases q.1
  subst h4
  have kb:=ln (a:=s.a) (f:=s.f) (acc:=x.a) (b:=b.a) hm hs.a0 hs.af hs.fm h.a0 h.am b0.a0 b0.am
  have ko':=ln (a:=s.a) (f:=s.f) (acc:=x.own) (b:=0) hm hs.a0 hs.af hs.fm h.o0 h.om (Int.le_refl _) (Int.le_of_lt hm.pos)
  have p0:Pre s.c0 s.a m:=⟨hs.n0,hs.l0,hs.am⟩
  have p1:Pre s.c1 s.a m:=⟨hs.n1,hs.l1,hs.am⟩
  have p2:Pre s.c2 s.a m:=⟨hs.n2,hs.l2,hs.am⟩
  have d0:Pre b.c0 b.a m:=⟨b0.n0,b0.l0,b0.am⟩
  have d1:Pre b.c1 b.a m:=⟨b0.n1,b0.l1,b0.am⟩
  have d2:Pre b.c2 b.a m:=⟨b0.n2,b0.l2,b0.am⟩
  have t0:=h.l0
  have t1:=h.l1
  have t2:=h.l2
  have t3:=h.am
  have sh:=(nw (op:=4) hm hs.f0 hs.fm h.f0 h.fm).2
  exact ⟨se hm p0 d0 hs.af hs.fm h.n0 (by omega),se hm p1 d1 hs.af hs.fm h.n1 (by omega),se hm p2 d2 hs.af hs.fm h.n2 (by omega),
   nH hm p0 d0 hs.af hs.fm h.n0 t0 t3,nH hm p1 d1 hs.af hs.fm h.n1 t1 t3,nH hm p2 d2 hs.af hs.fm h.n2 t2 t3,ko'.1,
   wx hm hs.af hs.fm h.oa b0.a0,ve hm hs.a0 hs.af hs.fm h.o0 h.of h.fm,kb.2,sh,b0,h.bf⟩
 ·have p0:Pre s.c0 s.a m:=⟨hs.n0,hs.l0,hs.am⟩
  have p1:Pre s.c1 s.a m:=⟨hs.n1,hs.l1,hs.am⟩
  have p2:Pre s.c2 s.a m:=⟨hs.n2,hs.l2,hs.am⟩
  have d0:Pre x.c0 x.a m:=⟨h.n0,h.l0,h.am⟩
  have d1:Pre x.c1 x.a m:=⟨h.n1,h.l1,h.am⟩
  have d2:Pre x.c2 x.a m:=⟨h.n2,h.l2,h.am⟩
  have hoa:dA op s.a x.own m≤dA op s.a x.a m:=by
   rcases hop with rfl|⟨_,q⟩
   ·exact AU hm hs.a0 hs.am h.oa
   ·rw [q];exact Int.le_refl _
  have sh:=(nw (op:=op) hm hs.f0 hs.fm h.f0 h.fm).2
  exact ⟨qX hm p0 d0,qX hm p1 d1,qX hm p2 d2,mP hm p0 d0,mP hm p1 d1,mP hm p2 d2,Fz hm hs.a0 hs.am h.o0 h.om,hoa,
   pf hm hs.a0 hs.af hs.fm h.o0 h.of h.fm,qP hm hs.a0 hs.am h.a0 h.am,sh,b0,h.bf⟩
theorem EE {ko:Bool} {op mode m:Int} {s:Pixel} {x:Acc} {b:Pixel} (hb:b.a=0) (h:x.own=x.a):(iL ko op mode m s x b).own=(iL ko op mode m s x b).a:=by
 unfold iL
 split
 ·show dG m s.a s.f x.own 0=dG m s.a s.f x.a b.a
  rw [h,hb]
 ·show dA op s.a x.own m=dA op s.a x.a m
  rw [h]
end Go.Proofs.YtmfblbbemekkoaaGreatDoor
