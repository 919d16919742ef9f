/- Part of the proof: F6, F2, F7, T1, T2, T3, T4. -/
import Derived.Test.YtcbifofjjpfbcaaGreatDoorM5
set_option linter.unusedSimpArgs false
set_option linter.unusedVariables false
set_option maxHeartbeats 1000000
set_option maxRecDepth 16000
namespace Go.Proofs.YtcbifofjjpfbcaaGreatDoor
open Go Go.SL
open Go.RowKit (wrap64)
theorem dS {a b:Bool} (h:a=true↔b=true):SV.b (B a)=SV.b (B b):=by rw [Bool.eq_iff_iff.2 h]
def kI (r:Rect):Bool:=decide (-1073741824≤r.x0∧r.x0≤1073741824 ∧ -1073741824≤r.y0∧r.y0≤1073741824 ∧ -1073741824≤r.x1∧r.x1≤1073741824 ∧ -1073741824≤r.y1∧r.y1≤1073741824)
def aU (r:Rect):Bool := !kI r || decide (r.x1≤r.x0∨r.y1≤r.y0)
def gi (r:Rect):Rect:=if aU r=true then ⟨0,0,0,0⟩ else r
def iZ (r:Rect):Int:=if aU r=true then 0 else (r.x1 - r.x0) * (r.y1 - r.y0)
theorem wj (r:Rect):aF Sg 78 [ag (bc r)] (fun x=>x = .b (B (kI r))):=by
 refine aI Tryz.func78 [.tmp 2] ?_
 repeat' (first|(refine aj (fun K hK => ?_);and_intros;all_goals first|(refine hK _ ?_;clear hK K)|try exact aa)|(refine ai ?_;(try clear hB KB);(try clear hK K)))
 refine dS ?_
 (try simp only [kI,Bool.and_eq_true,Bool.or_eq_true,Bool.not_eq_true',Bool.not_eq_false',decide_eq_true_eq,decide_eq_false_iff_not,ge_iff_le,gt_iff_lt,beq_iff_eq,bne_iff_ne,ne_eq,Bool.or_eq_false_iff,Bool.and_eq_false_imp,Bool.not_true,Bool.not_false])
 try omega
theorem bo (r:Rect):aF Sg 49 [ag (bc r)] (fun x=>x = .b (B (aU r))):=by
 refine aI Tryz.func49 [.tmp 2] ?_
 repeat' (first|((first|refine aj (fun K hK => ?_)|refine ae (wj _) ?_);and_intros;all_goals first|(refine hK _ ?_;clear hK K)|try exact aa)|(refine ai ?_;(try clear hB KB);(try clear hK K)))
 refine dS ?_
 simp only [aU,Bool.or_eq_true,decide_eq_true_eq,ge_iff_le,or_assoc]
theorem fF {r:Rect} (h:¬ aU r=true) : -1073741824≤r.x0∧r.x0<r.x1∧r.x1≤1073741824 ∧ -1073741824≤r.y0∧r.y0<r.y1∧r.y1≤1073741824:=by
 simp only [aU,kI,Bool.or_eq_true,Bool.not_eq_true',decide_eq_true_eq,decide_eq_false_iff_not] at h
 omega
theorem xE (r:Rect):IntKind.i64.wrap (IntKind.i64.wrap ((gi r).x1 - (gi r).x0) * IntKind.i64.wrap ((gi r).y1 - (gi r).y0))=iZ r:=by
 by_cases h:aU r=true
 ·simp only [gi,iZ,if_pos h];decide
 ·simp only [gi,iZ,if_neg h]
  have hb:=fF h
  rw [fA (n:=r.x1 - r.x0) (by omega) (by omega),fA (n:=r.y1 - r.y0) (by omega) (by omega)]
  have h1:(r.x1 - r.x0) * (r.y1 - r.y0)≤2147483648 * 2147483648:=Int.mul_le_mul (by omega) (by omega) (by omega) (by omega)
  have h2:0≤(r.x1 - r.x0) * (r.y1 - r.y0):=Int.mul_nonneg (by omega) (by omega)
  exact fA (by omega) (by omega)
def cl (w h:Int):Bool:=decide (1≤w∧1≤h∧w≤16777216∧h≤16777216 / w)
theorem gN (w h:Int):aF Sg 45 [I w,I h] (fun x=>x = .b (B (cl w h))):=by
 refine aI Tryz.func45 [.tmp 4] ?_
 repeat' (first|(refine aj (fun K hK => ?_);and_intros;all_goals first|(refine hK _ ?_;clear hK K)|try exact aa)|(refine ai ?_;(try clear hB KB);(try clear hK K)))
 refine dS ?_
 by_cases hw:1≤w
 ·have h1:0≤16777216 / w:=Int.ediv_nonneg (by omega) (by omega)
  have h2:16777216 / w≤16777216:=Int.ediv_le_self _ (by omega)
  rw [fA (by omega) (by omega)]
  simp only [cl,Bool.and_eq_true,decide_eq_true_eq,ge_iff_le,and_assoc]
 ·simp [cl,hw]
theorem fv (b:Int):aF Sg 68 [I b] (fun x=>x = .tup [U (if b=8 then 255 else if b=16 then 65535 else 0),B (decide (b=8∨b=16))]):=by
 refine aI Tryz.func68 [.tmp 2, .tmp 3] ?_
 repeat' (first|refine an ?_|(refine aj (fun K hK => ?_);and_intros;all_goals first|(refine hK _ ?_;clear hK K)|try exact aa)|(refine aH (fun hb => ?_) (fun hb => ?_);all_goals try exact ax)|(refine ai ?_;(try clear hB KB);(try clear hK K)))
 ·subst hb;rfl
 ·subst hb;rfl
 ·rw [if_neg (by assumption),if_neg (by assumption),decide_eq_false (by omega)]
theorem Bl (m:Int):aF Sg 185 [I m] (fun x=>x = .b (B (decide (1≤m∧m≤12)))):=by
 refine aI Tryz.func185 [.tmp 2] ?_
 repeat' (first|(refine aj (fun K hK => ?_);and_intros;all_goals first|(refine hK _ ?_;clear hK K)|try exact aa)|(refine ai ?_;(try clear hB KB);(try clear hK K)))
 refine dS ?_
 (try simp only [Bool.and_eq_true,Bool.or_eq_true,Bool.not_eq_true',Bool.not_eq_false',decide_eq_true_eq,decide_eq_false_iff_not,ge_iff_le,gt_iff_lt,beq_iff_eq,bne_iff_ne,ne_eq,Bool.or_eq_false_iff,Bool.and_eq_false_imp,Bool.not_true,Bool.not_false])
 try omega
theorem vD (w h:Int) (p:Pixel):aF Sg 34 [I w,I h,ag (aW p)] (fun x=>x = .b (ag (bl ⟨w,h,true,p,⟨0,0,0,[]⟩,⟨0,0,0,[]⟩,⟨0,0,0,[]⟩,⟨0,0,0,[]⟩,⟨0,0,0,[]⟩⟩))):=by
 refine fV ?_
 refine aI Tryz.func34 [.cell 6 43] ?_
 repeat' (first|(refine aj (fun K hK => ?_);and_intros;all_goals first|(refine hK _ ?_;clear hK K)|try exact aa)|(refine ai ?_;(try clear hB KB);(try clear hK K)))
 refine Ey (lS ?_)
 simp only [List.map_cons,List.map_nil,gm,jR]
 and_intros
 all_goals first|exact .inl rfl|exact .inl trivial|exact .inr fq|trivial|skip
end Go.Proofs.YtcbifofjjpfbcaaGreatDoor
set_option maxRecDepth 16000
namespace Go.Proofs.YtcbifofjjpfbcaaGreatDoor
open Go Go.SL
open Go.RowKit (wrap64)
def cJ (n m:Int):Int :=
 if n % 8=0 then 0 else if n % 8=1∨n % 8=2 then m else if n % 8=3 then (m+n.tdiv 8 % 2) / 2
 else if n % 8=4 then min m (n.tdiv 8 % 4) else n.tdiv 8 % (m+1)
theorem eJ (n m:Int) (h:0≤m):0≤cJ n m∧cJ n m≤m:=by
 unfold cJ
 have h1:=Int.emod_nonneg (n.tdiv 8) (show m+1≠0 by omega)
 have h2:=Int.emod_lt_of_pos (n.tdiv 8) (show 0<m+1 by omega)
 split
 ·omega
 split
 ·omega
 split
 ·omega
 split
 ·omega
 ·omega
theorem rJ (n m : Int) (hn : i64 n) (hm : u16 m) :
  aF Sg 63 [I n,U m] (fun r=>r = .b (U (cJ n m))):=by
 obtain ⟨hm1,hm2⟩:=hm
 obtain ⟨hn1,hn2⟩:=hn
 have h1:=Int.emod_nonneg (n.tdiv 8) (show m+1≠0 by omega)
 have h2:=Int.emod_lt_of_pos (n.tdiv 8) (show 0<m+1 by omega)
 refine aI Tryz.func63 [.tmp 4] ?_
 repeat' (first|refine an ?_|((first|refine aj (fun K hK => ?_)|refine ae (cL _ _ (by omega) (by omega)) ?_);and_intros;all_goals first|(refine hK _ ?_;clear hK K)|try exact aa)|((first|apply aC|apply ay);(case hf=>rfl);(case hc=>exact aS);(all_goals first|(intro hb;(try simp only [bZ] at hb))|skip))|exact ao|(refine aH (fun hb => ?_) (fun hb => ?_);all_goals try exact ax)|(refine ai ?_;(try clear hB KB);(try clear hK K)))
 ·rw [cJ,if_pos (by omega)]
 ·rw [cJ,if_neg (by omega),if_pos (by omega)]
 ·rw [cJ,if_neg (by omega),if_neg (by omega),if_pos (by omega)]
 ·have:cJ n m=min m (n.tdiv 8 % 4):=by rw [cJ,if_neg (by omega),if_neg (by omega),if_neg (by omega),if_pos (by omega)]
  rw [this,show (if n.tdiv 8 % 4<m then n.tdiv 8 % 4 else m)=min m (n.tdiv 8 % 4) by split <;> omega]
 ·rw [cJ,if_neg (by omega),if_neg (by omega),if_neg (by omega),if_neg (by omega)]
def vh (n:N5) (m:Int):Pixel :=
 let f:=cJ n.e m
 let a:=if n.d % 3>0 then cJ (n.d.tdiv 3) f else f
 ⟨cJ n.a a,cJ n.b a,cJ n.c a,a,f⟩
structure N5ok (n:N5):Prop where
 a:i64 n.a
 b:i64 n.b
 c:i64 n.c
 d:i64 n.d
 e:i64 n.e
theorem CG (n : N5) (m : Int) (hn : N5ok n) (hm : u16 m) :
  aF Sg 98 [ag (VM n),U m] (fun r=>r = .b (ag (aW (vh n m)))):=by
 obtain ⟨⟨a1,a2⟩,⟨b1,b2⟩,⟨c1,c2⟩,⟨d1,d2⟩,⟨e1,e2⟩⟩:=hn
 have hf:=eJ n.e m hm.1
 have ha':=eJ (n.d.tdiv 3) (cJ n.e m) hf.1
 have hd := @EG n.d 3
 have hd' := @Ee n.d 3 d1 d2 (by omega)
 have hd'':=vH (n.d.tdiv 3)
 rw [hd'] at hd''
 obtain ⟨hm1,hm2⟩:=hm
 refine aI Tryz.func98 [.cell 4 37] ?_
 repeat' (first|refine an ?_|((first|refine aj (fun K hK => ?_)|refine ae (cL _ _ (by omega) (by omega)) ?_|refine ae (rJ _ _ ⟨by omega,by omega⟩ ⟨by omega,by omega⟩) ?_);and_intros;all_goals first|(refine hK _ ?_;clear hK K)|try exact aa)|(apply aC;(case hf=>rfl);(case hc=>exact aS);(all_goals first|(intro hb;(try simp only [bZ] at hb))|skip))|exact ao|(refine ai ?_;(try clear hB KB);(try clear hK K)))
 ·simp only [vh,gt_iff_lt];rfl
def iq (n c:Int):Int:=if n % 3=0 then c else c+n.tdiv 3 % 9 - 4
theorem Ba (n c : Int) (hn : i64 n) (hc1 : -2000000000 ≤ c) (hc2 : c ≤ 2000000000) :
  aF Sg 62 [I n,I c] (fun r=>r = .b (I (iq n c))):=by
 obtain ⟨hn1,hn2⟩:=hn
 refine aI Tryz.func62 [.tmp 4] ?_
 repeat' (first|refine an ?_|((first|refine aj (fun K hK => ?_)|refine ae (cL _ _ (by omega) (by omega)) ?_);and_intros;all_goals first|(refine hK _ ?_;clear hK K)|try exact aa)|(refine aH (fun hb => ?_) (fun hb => ?_);all_goals try exact ax)|(refine ai ?_;(try clear hB KB);(try clear hK K)))
 ·rw [iq,if_pos hb]
 ·rw [iq,if_neg hb]
end Go.Proofs.YtcbifofjjpfbcaaGreatDoor
set_option maxHeartbeats 1000000
set_option maxRecDepth 16000
namespace Go.Proofs.YtcbifofjjpfbcaaGreatDoor
open Go Go.SL
open Go.RowKit (wrap64)
def bJ (k:Int) (l:List Int):Bool:=l.all fun v=>decide (-k≤v∧v≤k)
theorem Ak (k:Int) (l:List Int) (hk:0≤k) (hk2:k≤9223372036854775807) (hl:l.length≤4611686018427387904):aF Sg 116 [I k, .c (.p (eZ l))] (fun x=>x = .b (B (bJ k l))):=by
 refine aI Tryz.func116 [.tmp 4] ?_
 repeat' (first|refine an ?_|(refine aj (fun K hK => ?_);and_intros;all_goals first|(refine hK _ ?_;clear hK K)|try exact aa))
 refine aM (X:=Nat) (fun i=>bg [(0, .b (I k)),(7, .b (.c (.p (eZ l)))),(8, .b (I l.length)),(9, .b (I i))] [] 1) (fun i=>i≤l.length∧(l.take i).all (fun v=>decide (-k≤v∧v≤k))=true) (fun i=>l.length - i) 0 ?_ ?_ ?_
 ·exact ⟨by omega,rfl⟩
 ·refine aE [] ?_ ?_
  and_intros
  all_goals first|exact aw|skip
 ·rintro i ⟨hi,ht⟩
  repeat' (first|refine an ?_|(refine aj (fun K hK => ?_);and_intros;all_goals first|(refine hK _ ?_;clear hK K)|try exact aa)|(refine aH (fun hb => ?_) (fun hb => ?_);all_goals try exact ax)|(refine ai ?_;(try clear hB KB);(try clear hK K)))
  ·have:bJ k l=false:=by
    rw [bJ,List.all_eq_false]
    refine ⟨l.getD i default, ?_, ?_⟩
    ·rw [List.getD_eq_getElem?_getD,List.getElem?_eq_getElem (by omega)];exact List.getElem_mem _
    ·simp only [decide_eq_true_eq];simp only [Int.toNat_natCast] at hb;omega
   rw [this]
  ·rw [ah]
   refine au (i+1) ?_ ⟨by omega, ?_⟩ (by omega)
   ·refine aE [] ?_ ?_
    and_intros
    all_goals first|exact aw|skip
   ·rw [List.take_add_one,List.all_append,ht,List.getElem?_eq_getElem (by omega)]
    simp only [Int.toNat_natCast,List.getD_eq_getElem?_getD,List.getElem?_eq_getElem (show i<l.length by omega),Option.getD_some] at hb
    simp only [Option.toList_some,List.all_cons,List.all_nil,Bool.and_true,Bool.true_and,decide_eq_true_eq]
    omega
  ·have:bJ k l=true:=by
    rw [bJ]
    rwa [List.take_of_length_le (by omega)] at ht
   rw [this]
theorem zX (r:Rect):aF Sg 79 [ag (bc r)] (fun x=>x = .b (B (kI r))):=by
 refine aI Tryz.func79 [.tmp 2] ?_
 repeat' (refine aj (fun K hK => ?_);and_intros;all_goals first|(refine hK _ ?_;clear hK K)|try exact aa)
 refine fk ?_ ?_ (by simp (maxSteps:=999999)(disch:=omega) only [go_sem]) ?_ (Ak 1073741824 [r.x0,r.y0,r.x1,r.y1] (by omega) (by omega) (by simp))
 try simp (maxSteps:=999999)(disch:=omega) only [go_sem]
 try (refine hK _ ?_;clear hK K)
 ·first|refine kq ?_|refine ml ?_
  simp (maxSteps:=999999)(disch:=omega) only [go_sem]
  refine dS ?_
  simp only [bJ,kI,List.all_cons,List.all_nil,Bool.and_true,Bool.and_eq_true,decide_eq_true_eq]
  omega
 ·simp (maxSteps:=1000000) (disch:=omega) only [go_sem,dU,eE]
  refine ⟨lq,mA (gj fun i hi j hj => ?_)⟩
  have h1:i=0∨i=1∨i=2∨i=3:=by omega
  have h2:j=0:=by omega
  subst h2
  rcases h1 with rfl|rfl|rfl|rfl <;> rfl
 ·trivial
theorem cN (r:Rect):aF Sg 51 [ag (bc r)] (fun x=>x = .b (B (aU r))):=by
 refine aI Tryz.func51 [.tmp 2] ?_
 repeat' (first|((first|refine aj (fun K hK => ?_)|refine ae (zX _) ?_);and_intros;all_goals first|(refine hK _ ?_;clear hK K)|try exact aa)|(refine ai ?_;(try clear hB KB);(try clear hK K)))
 refine dS ?_
 simp only [aU,Bool.or_eq_true,decide_eq_true_eq,ge_iff_le,or_assoc]
theorem sy (r:Rect):aF Sg 121 [ag (bc r)] (fun x=>x = .b (ag (bc (gi r)))):=by
 refine aI Tryz.func121 [.cell 2 28] ?_
 repeat' (first|refine an ?_|((first|refine aj (fun K hK => ?_)|refine ae (cN _) ?_);and_intros;all_goals first|(refine hK _ ?_;clear hK K)|try exact aa)|(refine aH (fun hb => ?_) (fun hb => ?_);all_goals try exact ax)|(refine ai ?_;(try clear hB KB);(try clear hK K)))
 ·rw [gi,if_pos hb];rfl
 ·rw [gi,if_neg (by simp [hb])];rfl
theorem CS (r:Rect):aF Sg 105 [ag (bc r)] (fun x=>x = .b (I (iZ r))):=by
 refine aI Tryz.func105 [.tmp 2] ?_
 repeat' (first|((first|refine aj (fun K hK => ?_)|refine ae (sy _) ?_);and_intros;all_goals first|(refine hK _ ?_;clear hK K)|try exact aa)|(refine ai ?_;(try clear hB KB);(try clear hK K)))
 rw [xE]
def oe (o:Int):List PV:=if 1≤o∧o≤12 then [ck.getD (o.toNat * 4) .any,ck.getD (o.toNat * 4+1) .any,ck.getD (o.toNat * 4+2) .any,ck.getD (o.toNat * 4+3) .any]
 else [.val (.string ⟨#[]⟩),PI 0,PI 0,PI 0]
theorem nj (o:Int):aF Sg 184 [I o] (fun x=>x = .tup [ag (oe o),B (decide (1≤o∧o≤12))]):=by
 refine aI Tryz.func184 [.cell 2 236, .tmp 3] ?_
 repeat' (first|refine an ?_|(refine aj (fun K hK => ?_);and_intros;all_goals first|(refine hK _ ?_;clear hK K)|try exact aa)|(refine aH (fun hb => ?_) (fun hb => ?_);all_goals try exact ax)|(refine ai ?_;(try clear hB KB);(try clear hK K)))
 ·rw [oe,if_neg (by omega),decide_eq_false (by omega)];rfl
 ·rw [oe,if_pos (by omega),decide_eq_true (by omega)];simp only [Nat.zero_add,Nat.add_zero];rfl
def yo (o:Int):ByteArray:=match (oe o).getD 0 .any with
 | .val (.string s)=>s
 | _=>⟨#[]⟩
theorem nA (o:Int):∃ a b c,oe o=[.val (.string (yo o)),PI a,PI b,PI c]∧((yo o).toList == (ByteArray.mk #[]).toList) = !decide (1≤o∧o≤12):=by
 by_cases h:1≤o∧o≤12
 ·have:o=1∨o=2∨o=3∨o=4∨o=5∨o=6∨o=7∨o=8∨o=9∨o=10∨o=11∨o=12:=by omega
  rcases this with rfl|rfl|rfl|rfl|rfl|rfl|rfl|rfl|rfl|rfl|rfl|rfl <;> exact ⟨_,_,_,rfl,by decide +kernel⟩
 ·have e:oe o=[.val (.string ⟨#[]⟩),PI 0,PI 0,PI 0]:=by rw [oe,if_neg h]
  refine ⟨0,0,0, ?_, ?_⟩
  ·rw [yo,e];rfl
  ·rw [yo,e,decide_eq_false h];decide +kernel
theorem AU (o:Int):aF Sg 152 [I o] (fun x=>x = .b (.c (.p (.val (.string (yo o)))))):=by
 obtain ⟨a,b,c,he,_⟩:=nA o
 have hf:=nj o
 rw [he] at hf
 refine aI Tryz.func152 [.tmp 2] ?_
 repeat' (first|with_reducible exact aK|((first|refine aj (fun K hK => ?_)|refine ae (hf) ?_);and_intros;all_goals first|(refine hK _ ?_;clear hK K)|try exact aa)|(refine ai ?_;(try clear hB KB);(try clear hK K)))
def jj (o:Int):Bool:=decide (1≤o∧o≤12)
def WY (m:Int):ByteArray:=match fH.getD m.toNat .any with
 | .val (.string s)=>s
 | _=>⟨#[]⟩
theorem BH (m:Int) (h:1≤m∧m≤12):fH.getD m.toNat .any = .val (.string (WY m))∧((WY m).toList == (ByteArray.mk #[]).toList)=false:=by
 have:m=1∨m=2∨m=3∨m=4∨m=5∨m=6∨m=7∨m=8∨m=9∨m=10∨m=11∨m=12:=by omega
 rcases this with rfl|rfl|rfl|rfl|rfl|rfl|rfl|rfl|rfl|rfl|rfl|rfl <;> exact ⟨rfl,by decide +kernel⟩
def yR (m:Int):ByteArray:=if 1≤m∧m≤12 then WY m else ⟨#[]⟩
theorem ub (m:Int):((yR m).toList == (ByteArray.mk #[]).toList) = !jj m:=by
 by_cases h:1≤m∧m≤12
 ·rw [yR,if_pos h,(BH m h).2,jj,decide_eq_true h];rfl
 ·rw [yR,if_neg h,jj,decide_eq_false h];decide +kernel
theorem ue (m:Int):aF Sg 153 [I m] (fun x=>x = .b (.c (.p (.val (.string (yR m)))))):=by
 refine aI Tryz.func153 [.tmp 2] ?_
 repeat' (first|refine an ?_|((first|refine aj (fun K hK => ?_)|refine ae (Bl _) ?_);and_intros;all_goals first|(refine hK _ ?_;clear hK K)|try exact aa)|(refine aH (fun hb => ?_) (fun hb => ?_);all_goals try exact ax)|(refine ai ?_;(try clear hB KB);(try clear hK K)))
 ·rw [yR,if_neg (by omega)]
 ·rw [yR,if_pos (by omega)]
  have h:=BH m (by omega)
  simp only [Nat.zero_add,Nat.mul_one,Nat.add_zero]
  rw [h.1]
end Go.Proofs.YtcbifofjjpfbcaaGreatDoor
namespace Go.Proofs.YtcbifofjjpfbcaaGreatDoor
def cf (n d:Int):Int:=if d=0 then 0 else if n % d≥d - n % d then n / d+1 else n / d
theorem lh {n d:Int} (hd:0<d):2 * (d * cf n d)≤2 * n+d∧2 * n<2 * (d * cf n d)+d:=by
 have h1:=Int.mul_ediv_add_emod n d
 have h2:=Int.emod_nonneg n (show d≠0 by omega)
 have h3:=Int.emod_lt_of_pos n hd
 unfold cf
 rw [if_neg (by omega)]
 split
 ·rw [Int.mul_add,Int.mul_one];omega
 ·omega
theorem rq {n d k:Int} (hd:0<d) (h1:2 * (d * k)≤2 * n+d) (h2:2 * n<2 * (d * k)+d):cf n d=k:=by
 obtain ⟨a1,a2⟩:=lh (n:=n) hd
 rcases Int.lt_trichotomy (cf n d) k with h|h|h
 ·have:=Int.mul_le_mul_of_nonneg_left (show cf n d+1≤k by omega) (Int.le_of_lt hd)
  rw [Int.mul_add,Int.mul_one] at this;omega
 ·exact h
 ·have:=Int.mul_le_mul_of_nonneg_left (show k+1≤cf n d by omega) (Int.le_of_lt hd)
  rw [Int.mul_add,Int.mul_one] at this;omega
theorem hZ {n n' d:Int} (hd:0<d) (h:n≤n'):cf n d≤cf n' d:=by
 obtain ⟨a1,a2⟩:=lh (n:=n) hd
 obtain ⟨b1,b2⟩:=lh (n:=n') hd
 refine Int.not_lt.1 fun q => ?_
 have:=Int.mul_le_mul_of_nonneg_left (show cf n' d+1≤cf n d by omega) (Int.le_of_lt hd)
 rw [Int.mul_add,Int.mul_one] at this;omega
theorem iA {d k:Int} (hd:0<d):cf (d * k) d=k:=rq hd (by omega) (by omega)
theorem nJ {d:Int} (hd:0<d):cf 0 d=0:=by
 unfold cf
 split
 ·rfl
 ·rw [Int.zero_emod,Int.zero_ediv,if_neg (by omega)]
theorem dC {n d:Int} (hd:0<d) (h:0≤n):0≤cf n d:=by
 have:=hZ hd h
 rwa [nJ hd] at this
theorem pd {n d k:Int} (hd:0<d) (h:n≤d * k):cf n d≤k:=by
 have:=hZ hd h
 rwa [iA hd] at this
structure Ex where
 p:Int
 q:Int
 r:Int
 d:Int
 deriving DecidableEq,Inhabited
def oA (x:Ex) (t n:Int):Bool:=decide (n * x.d≤t * x.p∨(n * x.d - t * x.p) * (n * x.d - t * x.p)≤t * x.q * (t * x.q) * x.r)
theorem ks {a b:Int} (ha:0≤a) (h:a≤b):a * a≤b * b:=Int.mul_le_mul h h ha (by omega)
theorem TC {a b:Int} (hb:0≤b) (h:a * a≤b * b):a≤b:=by
 refine Int.not_lt.1 fun q => ?_
 have h1:=Int.mul_lt_mul_of_pos_left q (show 0<a by omega)
 have h2:=Int.mul_le_mul_of_nonneg_right (Int.le_of_lt q) hb
 omega
theorem mC {x:Ex} {t n n':Int} (hd:0≤x.d) (h:oA x t n'=true) (hn:n≤n'):oA x t n=true:=by
 simp only [oA,decide_eq_true_eq] at *
 have hm:=Int.mul_le_mul_of_nonneg_right hn hd
 rcases h with h|h
 ·exact .inl (by omega)
 ·rcases Int.le_total (n * x.d) (t * x.p) with q|q
  ·exact .inl q
  ·exact .inr (Int.le_trans (ks (by omega) (by omega)) h)
def wA (t:Int→Bool):Nat→Int→Int
 | 0,n=>n
 | i+1,n=>wA t i (if t (n+2 ^ i)=true then n+2 ^ i else n)
theorem tG {t:Int→Bool} (hm:∀ a b,a≤b→t b=true→t a=true):∀ (i:Nat) (n:Int),t n=true→t (n+2 ^ i)=false→t (wA t i n)=true∧t (wA t i n+1)=false∧n≤wA t i n∧wA t i n<n+2 ^ i
 | 0,n,h1,h2=>⟨h1,h2,Int.le_refl _,by show n<n+2 ^ 0;rw [show (2:Int) ^ 0=1 from rfl];omega⟩
 | i+1,n,h1,h2=>by
  have e:(2:Int) ^ (i+1)=2 ^ i+2 ^ i:=by rw [Int.pow_succ];omega
  have hp:(0:Int)<2 ^ i:=Int.pow_pos (by decide)
  rw [e] at h2 ⊢
  rw [show wA t (i+1) n=wA t i (if t (n+2 ^ i)=true then n+2 ^ i else n) from rfl]
  split
  ·rename_i h
   have:=tG hm i _ h (by rw [show n+2 ^ i+2 ^ i=n+(2 ^ i+2 ^ i) by omega];exact h2)
   exact ⟨this.1,this.2.1,by omega,by omega⟩
  ·rename_i h
   have:=tG hm i _ h1 (by simpa using h)
   exact ⟨this.1,this.2.1,by omega,by omega⟩
def dz (x:Ex):Int:=wA (oA x 1) 63 0
def hx (x:Ex):Int:=if oA x 2 (2 * dz x+1)=true then dz x+1 else dz x
structure ExOk (x:Ex):Prop where
 p0:0≤x.p
 p1:x.p<79228162514264337593543950336
 q0:0≤x.q
 q1:x.q<70368744177664
 r0:0≤x.r
 r1:x.r<8589934592
 d0:1≤x.d
 d1:x.d<18446744073709551616
 b:oA x 1 4611686018427387904=false
theorem iJ {x:Ex} (h:ExOk x):oA x 1 (dz x)=true∧oA x 1 (dz x+1)=false∧0≤dz x∧dz x<4611686018427387904:=by
 have hm:∀ a b,a≤b→oA x 1 b=true→oA x 1 a=true:=fun a b hab hb=>mC (by have:=h.d0;omega) hb hab
 have h0:oA x 1 0=true:=by
  have:=h.p0
  simp only [oA,decide_eq_true_eq];omega
 have h63:oA x 1 (0+2 ^ 63)=false:=by
  rw [← Bool.not_eq_true]
  intro q
  have:=hm 4611686018427387904 _ (by decide) q
  rw [h.b] at this;cases this
 obtain ⟨a,b,c,d⟩:=tG hm _ _ h0 h63
 refine ⟨a,b,c,Int.not_le.1 fun q => ?_⟩
 have:=hm _ _ q a
 rw [h.b] at this;cases this
theorem nC {x:Ex} (h:ExOk x):oA x 2 (2 * hx x - 1)=true∧oA x 2 (2 * hx x+1)=false∧0≤hx x:=by
 obtain ⟨h1,h2,h3,h4⟩:=iJ h
 have hd:=h.d0
 have dbl:∀ n,oA x 1 n=oA x 2 (2 * n):=fun n=>by
  simp only [oA]
  congr 1
  refine propext ⟨fun q => ?_,fun q => ?_⟩
  ·rcases q with q|q
   ·exact .inl (by rw [Int.mul_assoc];omega)
   ·refine .inr ?_
    have e1:(2 * n * x.d - 2 * x.p)=2 * (n * x.d - 1 * x.p):=by rw [Int.mul_assoc];omega
    rw [e1]
    generalize n * x.d - 1 * x.p=u at *
    simp only [Int.one_mul] at q
    have e2:2 * u * (2 * u)=4 * (u * u):=by grind
    have e3:2 * x.q * (2 * x.q) * x.r=4 * (x.q * x.q * x.r):=by grind
    omega
  ·rcases q with q|q
   ·exact .inl (by rw [Int.mul_assoc] at q;omega)
   ·refine .inr ?_
    have e1:(2 * n * x.d - 2 * x.p)=2 * (n * x.d - 1 * x.p):=by rw [Int.mul_assoc];omega
    rw [e1] at q
    generalize n * x.d - 1 * x.p=u at *
    simp only [Int.one_mul]
    have e2:2 * u * (2 * u)=4 * (u * u):=by grind
    have e3:2 * x.q * (2 * x.q) * x.r=4 * (x.q * x.q * x.r):=by grind
    omega
 rw [dbl] at h1 h2
 unfold hx
 split
 ·rename_i h5
  refine ⟨by rw [show 2 * (dz x+1) - 1=2 * dz x+1 by omega];exact h5, ?_,by omega⟩
  rw [← Bool.not_eq_true]
  intro q
  have:=mC (by omega) q (show 2 * (dz x+1)≤2 * (dz x+1)+1 by omega)
  rw [h2] at this;cases this
 ·rename_i h5
  exact ⟨mC (by omega) h1 (by omega),by simpa using h5,h3⟩
theorem Ny {x:Ex} (h:ExOk x) {k:Int} (h1:oA x 2 (2 * k - 1)=true) (h2:oA x 2 (2 * k+1)=false):hx x=k:=by
 obtain ⟨a1,a2,_⟩:=nC h
 have hd:=h.d0
 rcases Int.lt_trichotomy (hx x) k with q|q|q
 ·have:=mC (by omega) h1 (show 2 * hx x+1≤2 * k - 1 by omega)
  rw [a2] at this;cases this
 ·exact q
 ·have:=mC (by omega) a1 (show 2 * k+1≤2 * hx x - 1 by omega)
  rw [h2] at this;cases this
theorem PE {x:Ex} {n m:Int} (h:ExOk x) (hm:0<m) (h1:x.p * m≤n * x.d) (h2:x.q * x.q * x.r * (m * m)≤(n * x.d - x.p * m) * (n * x.d - x.p * m)):hx x≤cf n m:=by
 obtain ⟨a1,_,a3⟩:=nC h
 obtain ⟨b1,b2⟩:=lh (n:=n) hm
 have hd:=h.d0
 have key:(2 * hx x - 1) * m≤2 * n:=by
  simp only [oA,decide_eq_true_eq] at a1
  generalize hx x=k at *
  have dm:(2 * k - 1) * m * x.d≤2 * n * x.d:=by
   rcases a1 with a1|a1
   ·have:=Int.mul_le_mul_of_nonneg_right a1 (Int.le_of_lt hm)
    grind
   ·have e1:((2 * k - 1) * x.d - 2 * x.p) * m * (((2 * k - 1) * x.d - 2 * x.p) * m)=((2 * k - 1) * x.d - 2 * x.p) * ((2 * k - 1) * x.d - 2 * x.p) * (m * m):=by grind
    have e2:=Int.mul_le_mul_of_nonneg_right a1 (Int.le_of_lt (Int.mul_pos hm hm))
    have e3:2 * (n * x.d - x.p * m) * (2 * (n * x.d - x.p * m))=4 * ((n * x.d - x.p * m) * (n * x.d - x.p * m)):=by grind
    have e4:2 * x.q * (2 * x.q) * x.r * (m * m)=4 * (x.q * x.q * x.r * (m * m)):=by grind
    have e5:=TC (a:=((2 * k - 1) * x.d - 2 * x.p) * m) (b:=2 * (n * x.d - x.p * m)) (by omega) (by omega)
    grind
  exact Int.le_of_mul_le_mul_right dm (by omega)
 refine Int.not_lt.1 fun q => ?_
 have:=Int.mul_le_mul_of_nonneg_left (show cf n m+1≤hx x by omega) (Int.le_of_lt hm)
 rw [Int.mul_add,Int.mul_one] at this
 have e:(2 * hx x - 1) * m=2 * (m * hx x) - m:=by grind
 omega
end Go.Proofs.YtcbifofjjpfbcaaGreatDoor
namespace Go.Proofs.YtcbifofjjpfbcaaGreatDoor
def mF (s a d b:Int):Int:=if 2 * s≤a then 2 * s * d else a * b - 2 * (b - d) * (a - s)
def rP (s a d b:Int):Ex :=
 if b=0 then ⟨0,0,0,1⟩ else if 2 * s≤a then ⟨d * a * b - (a - 2 * s) * d * (b - d),0,0,b⟩
 else if 4 * d≤b then ⟨d * a * (b * b)+(2 * s - a) * d * (16 * d * d+3 * b * b - 12 * d * b),0,0,b * b⟩ else ⟨2 * d * (a - s),2 * s - a,d * b,1⟩
def vC (s a d b:Int):Ex:=if d=0 then ⟨0,0,0,1⟩ else if b * (a - s)≤d * a then ⟨a * b,0,0,1⟩ else ⟨a * a * d,0,0,a - s⟩
def Ac (s a d b:Int):Ex:=if d=b then ⟨a * b,0,0,1⟩ else if s * b≤(b - d) * a then ⟨0,0,0,1⟩ else ⟨a * b * s - (b - d) * a * a,0,0,s⟩
def aQ (mode s a d b:Int):Ex :=
 if mode=1 then ⟨s * b,0,0,1⟩ else if mode=2 then ⟨s * d,0,0,1⟩ else if mode=3 then ⟨s * b+d * a - s * d,0,0,1⟩
 else if mode=4 then ⟨mF d b s a,0,0,1⟩ else if mode=5 then ⟨min (s * b) (d * a),0,0,1⟩ else if mode=6 then ⟨max (s * b) (d * a),0,0,1⟩
 else if mode=7 then vC s a d b else if mode=8 then Ac s a d b else if mode=9 then ⟨mF s a d b,0,0,1⟩ else if mode=10 then rP s a d b
 else if mode=11 then ⟨max (s * b) (d * a) - min (s * b) (d * a),0,0,1⟩ else ⟨s * b+d * a - 2 * s * d,0,0,1⟩
def gR (op a b m:Int):Int :=
 if op=2∨op=4 then m else if op=5∨op=8∨op=11∨op=12 then m - b else if op=6∨op=10 then b else 0
def lC (op a b m:Int):Int :=
 if op=3∨op=5 then m else if op=4∨op=9∨op=10∨op=12 then m - a else if op=7∨op=11 then a else 0
def dK (op mode m cs sl cb ab:Int):Ex :=
 ⟨(aQ mode cs sl cb ab).p * gR op sl ab m+(m - ab) * cs * gR op sl ab m * (aQ mode cs sl cb ab).d+lC op sl ab m * cb * m * (aQ mode cs sl cb ab).d,
  gR op sl ab m * (aQ mode cs sl cb ab).q,(aQ mode cs sl cb ab).r,m * m * (aQ mode cs sl cb ab).d⟩
def fB (op mode m cs sl cb ab:Int):Int:=hx (dK op mode m cs sl cb ab)
def ec (op a b m:Int):Int:=cf (gR op a b m * a+lC op a b m * b) m
def fL (op f g m:Int):Int :=
 if op=2∨op=8∨op=11 then f else if op=3∨op=9∨op=10 then g else if op=4∨op=5∨op=12 then cf (m * f+(m - f) * g) m
 else if op=6∨op=7 then cf (f * g) m else 0
def eI (mode m cs sl fs c cb ab:Int):Ex :=
 ⟨(aQ mode cs sl cb ab).p+((m - fs) * c+(fs - sl) * cb+(m - ab) * cs) * (aQ mode cs sl cb ab).d,(aQ mode cs sl cb ab).q,(aQ mode cs sl cb ab).r,m * (aQ mode cs sl cb ab).d⟩
def fi (mode m cs sl fs c cb ab:Int):Int:=hx (eI mode m cs sl fs c cb ab)
def eo (m a f acc b:Int):Int:=cf ((m - f) * acc+(f - a) * b+m * a) m
structure Full (m:Int):Prop where
 h:m=255∨m=65535
theorem Full.pos {m:Int} (h:Full m):0<m:=by rcases h.h with q|q <;> omega
theorem Full.le {m:Int} (h:Full m):m≤65535:=by rcases h.h with q|q <;> omega
structure Pre (s a m:Int):Prop where
 s0:0≤s
 sa:s≤a
 am:a≤m
structure TermOk (x:Ex) (a b:Int):Prop where
 p0:0≤x.p
 q0:0≤x.q
 q1:x.q≤65535
 r0:0≤x.r
 r1:x.r≤4294836225
 d0:1≤x.d
 d1:x.d≤4294836225
 le:x.p≤a * b * x.d
 sq:x.q * x.q * x.r≤(a * b * x.d - x.p) * (a * b * x.d - x.p)
theorem az {a b:Int} (ha:0≤a) (hb:0≤b):0≤a * b:=Int.mul_nonneg ha hb
theorem aJ {a b c d:Int} (h1:a≤c) (h2:b≤d) (h3:0≤b) (h4:0≤c):a * b≤c * d:=Int.mul_le_mul h1 h2 h3 h4
theorem si (a:Int):0≤a * a:=by
 rcases Int.le_total 0 a with h|h
 ·exact Int.mul_nonneg h h
 ·exact Int.mul_nonneg_of_nonpos_of_nonpos h h
theorem cF {p a b:Int} (h0:0≤p) (h1:p≤a * b):TermOk ⟨p,0,0,1⟩ a b :=
 ⟨h0,Int.le_refl _,by dsimp only;omega,Int.le_refl _,by dsimp only;omega,by dsimp only;omega,by dsimp only;omega,by rw [Int.mul_one];exact h1,by simpa using si _⟩
theorem nV {p d a b:Int} (hd:1≤d) (hd1:d≤4294836225) (h0:0≤p) (h1:p≤a * b * d):TermOk ⟨p,0,0,d⟩ a b :=
 ⟨h0,Int.le_refl _,by dsimp only;omega,Int.le_refl _,by dsimp only;omega,hd,hd1,h1,by simpa using si _⟩
theorem sP {s a d b:Int} (hs:0≤s) (hsa:s≤a) (hd:0≤d) (hdb:d≤b):0≤mF s a d b∧mF s a d b≤a * b:=by
 unfold mF
 split
 ·have h1:0≤s * d:=az hs hd
  have h2:2 * s * d≤a * b:=aJ (by omega) hdb hd (by omega)
  have e:2 * s * d=2 * (s * d):=by grind
  omega
 ·have h1:0≤(b - d) * (a - s):=az (by omega) (by omega)
  have h2:(b - d) * (2 * (a - s))≤b * a:=aJ (by omega) (by omega) (by omega) (by omega)
  have e:2 * (b - d) * (a - s)=2 * ((b - d) * (a - s)):=by grind
  have e2:(b - d) * (2 * (a - s))=2 * ((b - d) * (a - s)):=by grind
  have e3:b * a=a * b:=Int.mul_comm _ _
  omega
theorem Dv {s a d b:Int} (hs0:0≤s) (hsa:s≤a) (ham:a≤65535) (hd0:0≤d) (hdb:d≤b) (hbm:b≤65535):TermOk (vC s a d b) a b:=by
 have ab0:0≤a * b:=az (by omega) (by omega)
 unfold vC
 split
 ·exact cF (Int.le_refl _) ab0
 split
 ·exact cF ab0 (Int.le_refl _)
 ·rename_i h1 h2
  have has:0<a - s:=by
   refine Int.not_le.1 fun q=>h2 ?_
   rw [show a - s=0 by omega,Int.mul_zero];exact az hd0 (by omega)
  refine nV (by omega) (by omega) (az (az (by omega) (by omega)) hd0) ?_
  have:=Int.mul_le_mul_of_nonneg_left (show d * a≤b * (a - s) from Int.le_of_lt (Int.not_le.1 h2)) (show 0≤a by omega)
  have e1:a * a * d=a * (d * a):=by grind
  have e2:a * b * (a - s)=a * (b * (a - s)):=by grind
  rw [e1,e2];exact this
theorem wP {s a d b:Int} (hs0:0≤s) (hsa:s≤a) (ham:a≤65535) (hd0:0≤d) (hdb:d≤b) (hbm:b≤65535):TermOk (Ac s a d b) a b:=by
 have ab0:0≤a * b:=az (by omega) (by omega)
 unfold Ac
 split
 ·exact cF ab0 (Int.le_refl _)
 split
 ·exact cF (Int.le_refl _) ab0
 ·rename_i h1 h2
  have hs1:0<s:=by
   refine Int.not_le.1 fun q=>h2 ?_
   rw [show s=0 by omega,Int.zero_mul];exact az (by omega) (by omega)
  have h3:a * b * s - (b - d) * a * a=a * (s * b - (b - d) * a):=by grind
  refine nV (by omega) (by omega) ?_ ?_
  ·rw [h3];exact az (by omega) (Int.sub_nonneg_of_le (Int.le_of_lt (Int.not_le.1 h2)))
  ·have:=az (az (show 0≤b - d by omega) (show 0≤a by omega)) (show 0≤a by omega)
   exact Int.sub_le_self _ this
theorem xe {d b:Int} (hd0:0≤d) (h4:4 * d≤b):0≤16 * d * d+3 * b * b - 12 * d * b∧16 * d * d+3 * b * b - 12 * d * b≤3 * (b * b):=by
 have g1:0≤(b - 4 * d) * (b - 4 * d):=si _
 have g2:0≤(b - 4 * d) * b:=az (by omega) (by omega)
 have g3:0≤(b - 4 * d) * d:=az (by omega) (by omega)
 have g4:0≤b * d:=az (by omega) (by omega)
 have e1:(b - 4 * d) * (b - 4 * d)=b * b - 8 * (b * d)+16 * (d * d):=by grind
 have e2:(b - 4 * d) * b=b * b - 4 * (b * d):=by grind
 have e3:(b - 4 * d) * d=b * d - 4 * (d * d):=by grind
 have e4:16 * d * d+3 * b * b - 12 * d * b=16 * (d * d)+3 * (b * b) - 12 * (b * d):=by grind
 rw [e4]
 generalize b * b=x at *
 generalize b * d=y at *
 generalize d * d=z at *
 omega
theorem wU {s a d b:Int} (hs0:0≤s) (hsa:s≤a) (ham:a≤65535) (hd0:0≤d) (hdb:d≤b) (hbm:b≤65535):TermOk (rP s a d b) a b:=by
 have ab0:0≤a * b:=az (by omega) (by omega)
 have da0:0≤d * a:=az hd0 (by omega)
 have da1:d * a≤a * b:=by rw [Int.mul_comm a b];exact aJ hdb (Int.le_refl _) (by omega) (by omega)
 unfold rP
 split
 ·exact cF (Int.le_refl _) ab0
 rename_i hb0
 split
 ·rename_i hs2
  refine nV (by omega) (by omega) ?_ ?_
  ·have h1:(a - 2 * s) * (b - d)≤a * b:=aJ (by omega) (by omega) (by omega) (by omega)
   have h2:=Int.mul_le_mul_of_nonneg_left h1 hd0
   have e1:(a - 2 * s) * d * (b - d)=d * ((a - 2 * s) * (b - d)):=by grind
   have e2:d * a * b=d * (a * b):=Int.mul_assoc _ _ _
   rw [e1,e2];exact Int.sub_nonneg_of_le h2
  ·have h1:0≤(a - 2 * s) * d * (b - d):=az (az (by omega) hd0) (by omega)
   have h2:=Int.mul_le_mul_of_nonneg_right da1 (show 0≤b by omega)
   exact Int.le_trans (Int.sub_le_self _ h1) h2
 rename_i hsa2
 split
 ·rename_i h4
  have hbb:b * b≤65535 * 65535:=aJ (by omega) (by omega) (by omega) (by omega)
  have hb1:1 * 1≤b * b:=aJ (by omega) (by omega) (by omega) (by omega)
  obtain ⟨hpol,hpol2⟩:=xe hd0 h4
  refine nV (by omega) (by omega) ?_ ?_
  ·exact Int.add_nonneg (az da0 (by omega)) (az (az (by omega) hd0) hpol)
  ·have h1:(2 * s - a) * d * (16 * d * d+3 * b * b - 12 * d * b)≤a * d * (3 * (b * b)) :=
    aJ (aJ (by omega) (Int.le_refl _) hd0 (by omega)) hpol2 hpol (az (by omega) hd0)
   have h2:=Int.mul_le_mul_of_nonneg_left h4 (az (show 0≤a by omega) (show 0≤b * b by omega))
   have e1:a * (b * b) * (4 * d)=d * a * (b * b)+a * d * (3 * (b * b)):=by grind
   have e2:a * (b * b) * b=a * b * (b * b):=by grind
   rw [e1,e2] at h2
   exact Int.le_trans (Int.add_le_add_left h1 _) h2
 ·rename_i h4
  have h1:0≤d * (a - s):=az hd0 (by omega)
  have h2:d * (a - s)≤b * (a - s):=aJ hdb (Int.le_refl _) (by omega) (by omega)
  have e1:2 * d * (a - s)=2 * (d * (a - s)):=by grind
  have e3:a * b * 1 - 2 * d * (a - s)=(2 * s - a) * b+2 * (b * (a - s) - d * (a - s)):=by grind
  have h3:0≤(2 * s - a) * b:=az (by omega) (by omega)
  have h4:(2 * s - a) * (2 * s - a) * (d * b)≤(2 * s - a) * (2 * s - a) * (b * b):=Int.mul_le_mul_of_nonneg_left (aJ hdb (Int.le_refl _) (by omega) (by omega)) (si _)
  have h5:(2 * s - a) * b * ((2 * s - a) * b)≤(a * b * 1 - 2 * d * (a - s)) * (a * b * 1 - 2 * d * (a - s)):=ks h3 (by rw [e3];omega)
  have e4:(2 * s - a) * b * ((2 * s - a) * b)=(2 * s - a) * (2 * s - a) * (b * b):=by grind
  have hdb2:d * b≤65535 * 65535:=aJ (by omega) (by omega) (by omega) (by omega)
  rw [e4] at h5
  refine ⟨?_, ?_, ?_, ?_, ?_, ?_, ?_, ?_, ?_⟩
  ·show 0≤2 * d * (a - s);omega
  ·show 0≤2 * s - a;omega
  ·show 2 * s - a≤_;omega
  ·exact az hd0 (by omega)
  ·exact hdb2
  ·exact Int.le_refl _
  ·show (1:Int)≤4294836225;decide
  ·show 2 * d * (a - s)≤a * b * 1;omega
  ·exact Int.le_trans h4 h5
theorem jI {p:Prop} [Decidable p] {x y:Ex} {a b:Int} (h1:TermOk x a b) (h2:TermOk y a b):TermOk (if p then x else y) a b:=by
 split
 ·exact h1
 ·exact h2
theorem lA {mode s a d b m:Int} (hm:Full m) (hs:Pre s a m) (hd:Pre d b m):TermOk (aQ mode s a d b) a b:=by
 obtain ⟨hs0,hsa,ham⟩:=hs
 obtain ⟨hd0,hdb,hbm⟩:=hd
 have hmle:=hm.le
 have sb0:0≤s * b:=az hs0 (by omega)
 have da0:0≤d * a:=az hd0 (by omega)
 have sd0:0≤s * d:=az hs0 hd0
 have sb1:s * b≤a * b:=aJ hsa (Int.le_refl _) (by omega) (by omega)
 have da1:d * a≤a * b:=by rw [Int.mul_comm a b];exact aJ hdb (Int.le_refl _) (by omega) (by omega)
 have sd1:s * d≤a * b:=aJ hsa hdb hd0 (by omega)
 have sd2:s * d≤s * b:=aJ (Int.le_refl _) hdb hd0 hs0
 have sd3:s * d≤d * a:=by rw [Int.mul_comm s d];exact aJ (Int.le_refl _) hsa hs0 hd0
 have scr:0≤(a - s) * (b - d):=az (by omega) (by omega)
 have escr:(a - s) * (b - d)=a * b - s * b - d * a+s * d:=by grind
 have e2:2 * s * d=2 * (s * d):=Int.mul_assoc _ _ _
 rw [escr] at scr
 have hh1:=sP hs0 hsa hd0 hdb
 have hh2:=sP hd0 hdb hs0 hsa
 rw [Int.mul_comm b a] at hh2
 have t7:=Dv hs0 hsa (by omega) hd0 hdb (by omega)
 have t8:=wP hs0 hsa (by omega) hd0 hdb (by omega)
 have t10:=wU hs0 hsa (by omega) hd0 hdb (by omega)
 have t3:TermOk ⟨s * b+d * a - s * d,0,0,1⟩ a b:=cF (by clear t7 t8 t10 hh1 hh2;omega) (by clear t7 t8 t10 hh1 hh2;omega)
 have t5:TermOk ⟨min (s * b) (d * a),0,0,1⟩ a b:=cF (by clear t7 t8 t10 hh1 hh2 scr escr e2;omega) (by clear t7 t8 t10 hh1 hh2 scr escr e2;omega)
 have t6:TermOk ⟨max (s * b) (d * a),0,0,1⟩ a b:=cF (by clear t7 t8 t10 hh1 hh2 scr escr e2;omega) (by clear t7 t8 t10 hh1 hh2 scr escr e2;omega)
 have t11:TermOk ⟨max (s * b) (d * a) - min (s * b) (d * a),0,0,1⟩ a b:=cF (by clear t7 t8 t10 hh1 hh2 scr escr e2;omega) (by clear t7 t8 t10 hh1 hh2 scr escr e2;omega)
 have t12:TermOk ⟨s * b+d * a - 2 * s * d,0,0,1⟩ a b:=cF (by rw [e2];clear t7 t8 t10 hh1 hh2 scr escr;omega) (by rw [e2];clear t7 t8 t10 hh1 hh2;omega)
 exact jI (cF sb0 sb1) (jI (cF sd0 sd1) (jI t3 (jI (cF hh2.1 hh2.2) (jI t5 (jI t6 (jI t7 (jI t8 (jI (cF hh1.1 hh1.2) (jI t10 (jI t11 t12))))))))))
end Go.Proofs.YtcbifofjjpfbcaaGreatDoor
namespace Go.Proofs.YtcbifofjjpfbcaaGreatDoor
theorem nK {op a b m:Int} (ha:0≤a) (ham:a≤m) (hb:0≤b) (hbm:b≤m):0≤gR op a b m∧gR op a b m≤m:=by
 unfold gR;repeat' split
 all_goals omega
theorem pc {op a b m:Int} (ha:0≤a) (ham:a≤m) (hb:0≤b) (hbm:b≤m):0≤lC op a b m∧lC op a b m≤m:=by
 unfold lC;repeat' split
 all_goals omega
theorem PM {x : Ex} {A : Int} (p0 : 0 ≤ x.p) (q0 : 0 ≤ x.q) (q1 : x.q < 70368744177664) (r0 : 0 ≤ x.r) (r1 : x.r < 8589934592) (d0 : 1 ≤ x.d) (d1 : x.d < 18446744073709551616)
  (pA:x.p≤A) (sq:x.q * x.q * x.r≤(A - x.p) * (A - x.p)) (hA:A≤131072 * x.d):ExOk x:=by
 refine ⟨p0,by omega,q0,q1,r0,r1,d0,d1, ?_⟩
 simp only [oA,decide_eq_false_iff_not,Int.one_mul]
 rintro (h|h)
 ·omega
 ·have h1:(A - x.p+1) * (A - x.p+1)≤(4611686018427387904 * x.d - x.p) * (4611686018427387904 * x.d - x.p):=ks (by omega) (by omega)
  have e:(A - x.p+1) * (A - x.p+1)=(A - x.p) * (A - x.p)+2 * (A - x.p)+1:=by grind
  omega
theorem Xz {m:Int} (hm:Full m):m * m≤4294836225∧1≤m * m:=by
 rcases hm.h with rfl|rfl <;> decide
section
variable {op mode m cs sl cb ab:Int}
def pH (op m sl ab:Int):Int:=gR op sl ab m * sl+lC op sl ab m * ab
theorem Ln (hm:Full m) (h1:0≤sl) (h2:sl≤m) (h3:0≤ab) (h4:ab≤m):0≤pH op m sl ab∧pH op m sl ab≤131070 * m:=by
 have ⟨a1,a2⟩:=nK (op:=op) h1 h2 h3 h4
 have ⟨b1,b2⟩:=pc (op:=op) h1 h2 h3 h4
 have hle:=hm.le
 have e1:gR op sl ab m * sl≤m * 65535:=aJ a2 (by omega) h1 (by omega)
 have e2:lC op sl ab m * ab≤m * 65535:=aJ b2 (by omega) h3 (by omega)
 have e3:=az a1 h1
 have e4:=az b1 h3
 unfold pH;omega
theorem zL (hm : Full m) (hs : Pre cs sl m) (hd : Pre cb ab m) :
  0≤(dK op mode m cs sl cb ab).p∧(dK op mode m cs sl cb ab).p≤pH op m sl ab * m * (aQ mode cs sl cb ab).d ∧
   (dK op mode m cs sl cb ab).q * (dK op mode m cs sl cb ab).q * (dK op mode m cs sl cb ab).r ≤
    (pH op m sl ab * m * (aQ mode cs sl cb ab).d - (dK op mode m cs sl cb ab).p) * (pH op m sl ab * m * (aQ mode cs sl cb ab).d - (dK op mode m cs sl cb ab).p):=by
 have ht:=lA (mode:=mode) hm hs hd
 obtain ⟨s0,sa,am⟩:=hs
 obtain ⟨d0,db,bm⟩:=hd
 have ⟨a1,a2⟩:=nK (op:=op) (show 0≤sl by omega) am (show 0≤ab by omega) bm
 have ⟨b1,b2⟩:=pc (op:=op) (show 0≤sl by omega) am (show 0≤ab by omega) bm
 have hp:=hm.pos
 obtain ⟨p0,q0,q1,r0,r1,dd0,dd1,ple,psq⟩:=ht
 unfold dK pH
 generalize aQ mode cs sl cb ab=t at *
 generalize gR op sl ab m=fa at *
 generalize lC op sl ab m=fb at *
 dsimp only
 have k1:0≤fa * ((m - ab) * (sl - cs) * t.d):=az a1 (az (az (by omega) (by omega)) (by omega))
 have k2:0≤fb * ((ab - cb) * m * t.d):=az b1 (az (az (by omega) (by omega)) (by omega))
 have k3:0≤fa * (sl * ab * t.d - t.p):=az a1 (by omega)
 have e:(fa * sl+fb * ab) * m * t.d - (t.p * fa+(m - ab) * cs * fa * t.d+fb * cb * m * t.d)=fa * (sl * ab * t.d - t.p)+fa * ((m - ab) * (sl - cs) * t.d)+fb * ((ab - cb) * m * t.d):=by grind
 refine ⟨?_,by omega, ?_⟩
 ·exact Int.add_nonneg (Int.add_nonneg (az p0 a1) (az (az (az (by omega) s0) a1) (by omega))) (az (az (az b1 d0) (by omega)) (by omega))
 ·rw [e]
  have h1:fa * (sl * ab * t.d - t.p) * (fa * (sl * ab * t.d - t.p))≤(fa * (sl * ab * t.d - t.p)+fa * ((m - ab) * (sl - cs) * t.d)+fb * ((ab - cb) * m * t.d)) * (fa * (sl * ab * t.d - t.p)+fa * ((m - ab) * (sl - cs) * t.d)+fb * ((ab - cb) * m * t.d)) :=
   ks k3 (by omega)
  refine Int.le_trans ?_ h1
  have h2:=Int.mul_le_mul_of_nonneg_left psq (si fa)
  have e2:fa * t.q * (fa * t.q) * t.r=fa * fa * (t.q * t.q * t.r):=by grind
  have e3:fa * (sl * ab * t.d - t.p) * (fa * (sl * ab * t.d - t.p))=fa * fa * ((sl * ab * t.d - t.p) * (sl * ab * t.d - t.p)):=by grind
  rw [e2,e3];exact h2
theorem mU (hm:Full m) (hs:Pre cs sl m) (hd:Pre cb ab m):ExOk (dK op mode m cs sl cb ab):=by
 obtain ⟨v0,v1,v2⟩:=zL (op:=op) (mode:=mode) hm hs hd
 have ht:=lA (mode:=mode) hm hs hd
 have ⟨n0,n1⟩:=Ln (op:=op) hm (show 0≤sl by have:=hs.s0;have:=hs.sa;omega) hs.am (show 0≤ab by have:=hd.s0;have:=hd.sa;omega) hd.am
 have ⟨a1,a2⟩:=nK (op:=op) (show 0≤sl by have:=hs.s0;have:=hs.sa;omega) hs.am (show 0≤ab by have:=hd.s0;have:=hd.sa;omega) hd.am
 have hmle:=hm.le
 have hp:=hm.pos
 obtain ⟨mm1,mm2⟩:=Xz hm
 refine PM v0 ?_ ?_ ht.r0 ?_ ?_ ?_ v1 v2 ?_
 ·exact az a1 ht.q0
 ·show gR op sl ab m * (aQ mode cs sl cb ab).q<_
  have:gR op sl ab m * (aQ mode cs sl cb ab).q≤65535 * 65535:=aJ (by omega) ht.q1 ht.q0 (by omega)
  omega
 ·have:=ht.r1
  show (aQ mode cs sl cb ab).r<_
  omega
 ·show 1≤m * m * (aQ mode cs sl cb ab).d
  have:1 * 1≤m * m * (aQ mode cs sl cb ab).d:=aJ mm2 ht.d0 (by omega) (by omega)
  omega
 ·show m * m * (aQ mode cs sl cb ab).d<_
  have:m * m * (aQ mode cs sl cb ab).d≤4294836225 * 4294836225:=aJ mm1 ht.d1 (by have:=ht.d0;omega) (by omega)
  omega
 ·show pH op m sl ab * m * (aQ mode cs sl cb ab).d≤131072 * (m * m * (aQ mode cs sl cb ab).d)
  have hd0:=ht.d0
  generalize (aQ mode cs sl cb ab).d=D at *
  have e1:pH op m sl ab * m * D≤131070 * m * m * D:=aJ (aJ n1 (Int.le_refl _) (by omega) (by omega)) (Int.le_refl _) (by omega) (az (by omega) (by omega))
  have e2:131070 * m * m * D=131070 * (m * m * D):=by grind
  have e3:0≤m * m * D:=az (by omega) (by omega)
  omega
theorem vu (hm:Full m) (hs:Pre cs sl m) (hd:Pre cb ab m):0≤fB op mode m cs sl cb ab:=(nC (mU hm hs hd)).2.2
theorem qo (hm:Full m) (hs:Pre cs sl m) (hd:Pre cb ab m):fB op mode m cs sl cb ab≤ec op sl ab m:=by
 obtain ⟨v0,v1,v2⟩:=zL (op:=op) (mode:=mode) hm hs hd
 refine PE (mU hm hs hd) hm.pos ?_ ?_
 ·show (dK op mode m cs sl cb ab).p * m≤pH op m sl ab * (m * m * (aQ mode cs sl cb ab).d)
  have:=Int.mul_le_mul_of_nonneg_right v1 (Int.le_of_lt hm.pos)
  grind
 ·have e:pH op m sl ab * (m * m * (aQ mode cs sl cb ab).d) - (dK op mode m cs sl cb ab).p * m=(pH op m sl ab * m * (aQ mode cs sl cb ab).d - (dK op mode m cs sl cb ab).p) * m:=by grind
  show (dK op mode m cs sl cb ab).q * (dK op mode m cs sl cb ab).q * (dK op mode m cs sl cb ab).r * (m * m)≤(pH op m sl ab * (m * m * (aQ mode cs sl cb ab).d) - (dK op mode m cs sl cb ab).p * m) * (pH op m sl ab * (m * m * (aQ mode cs sl cb ab).d) - (dK op mode m cs sl cb ab).p * m)
  rw [e]
  have:=Int.mul_le_mul_of_nonneg_right v2 (si m)
  have e2:∀ u:Int,u * m * (u * m)=u * u * (m * m):=fun u=>by grind
  rw [e2];exact this
variable {fs c acc:Int}
def Eo (m fs sl acc ab:Int):Int:=(m - fs) * acc+(fs - sl) * ab+m * sl
theorem AX (hm : Full m) (hs : Pre cs sl m) (hd : Pre cb ab m) (hf : sl ≤ fs) (hfm : fs ≤ m) (hc : 0 ≤ c) (hca : c ≤ acc) :
  0≤(eI mode m cs sl fs c cb ab).p∧(eI mode m cs sl fs c cb ab).p≤Eo m fs sl acc ab * (aQ mode cs sl cb ab).d ∧
   (eI mode m cs sl fs c cb ab).q * (eI mode m cs sl fs c cb ab).q * (eI mode m cs sl fs c cb ab).r ≤
    (Eo m fs sl acc ab * (aQ mode cs sl cb ab).d - (eI mode m cs sl fs c cb ab).p) * (Eo m fs sl acc ab * (aQ mode cs sl cb ab).d - (eI mode m cs sl fs c cb ab).p):=by
 have ht:=lA (mode:=mode) hm hs hd
 obtain ⟨s0,sa,am⟩:=hs
 obtain ⟨d0,db,bm⟩:=hd
 have hp:=hm.pos
 obtain ⟨p0,q0,q1,r0,r1,dd0,dd1,ple,psq⟩:=ht
 unfold eI Eo
 generalize aQ mode cs sl cb ab=t at *
 dsimp only
 have k1:0≤(m - fs) * (acc - c) * t.d:=az (az (by omega) (by omega)) (by omega)
 have k2:0≤(fs - sl) * (ab - cb) * t.d:=az (az (by omega) (by omega)) (by omega)
 have k3:0≤(m - ab) * (sl - cs) * t.d:=az (az (by omega) (by omega)) (by omega)
 have e:((m - fs) * acc+(fs - sl) * ab+m * sl) * t.d - (t.p+((m - fs) * c+(fs - sl) * cb+(m - ab) * cs) * t.d)=(sl * ab * t.d - t.p)+(m - fs) * (acc - c) * t.d+(fs - sl) * (ab - cb) * t.d+(m - ab) * (sl - cs) * t.d:=by grind
 refine ⟨?_,by omega, ?_⟩
 ·exact Int.add_nonneg p0 (az (Int.add_nonneg (Int.add_nonneg (az (by omega) hc) (az (by omega) d0)) (az (by omega) s0)) (by omega))
 ·rw [e]
  exact Int.le_trans psq (ks (by omega) (by omega))
theorem Ku (hm:Full m) (h1:0≤sl) (h2:sl≤fs) (h3:fs≤m) (h4:0≤acc) (h5:acc≤m) (h6:0≤ab) (h7:ab≤m):0≤Eo m fs sl acc ab∧Eo m fs sl acc ab≤m * m:=by
 have k1:0≤(m - fs) * (m - acc):=az (by omega) (by omega)
 have k2:0≤(fs - sl) * (m - ab):=az (by omega) (by omega)
 have k4:0≤(m - fs) * acc:=az (by omega) h4
 have k5:0≤(fs - sl) * ab:=az (by omega) h6
 have k6:0≤m * sl:=az (by omega) h1
 have e:m * m - ((m - fs) * acc+(fs - sl) * ab+m * sl)=(m - fs) * (m - acc)+(fs - sl) * (m - ab):=by grind
 unfold Eo;omega
theorem qp (hm:Full m) (hs:Pre cs sl m) (hd:Pre cb ab m) (hf:sl≤fs) (hfm:fs≤m) (hc:0≤c) (hcm:c≤m):ExOk (eI mode m cs sl fs c cb ab):=by
 obtain ⟨v0,v1,v2⟩:=AX (mode:=mode) (acc:=m) hm hs hd hf hfm hc hcm
 have ht:=lA (mode:=mode) hm hs hd
 have hp:=hm.pos
 have hle:=hm.le
 have ⟨n0,n1⟩:=Ku (acc:=m) hm (show 0≤sl by have:=hs.s0;have:=hs.sa;omega) hf hfm (by omega) (Int.le_refl _) (show 0≤ab by have:=hd.s0;have:=hd.sa;omega) hd.am
 refine PM v0 ht.q0 ?_ ht.r0 ?_ ?_ ?_ v1 v2 ?_
 ·have:=ht.q1
  show (aQ mode cs sl cb ab).q<_
  omega
 ·have:=ht.r1
  show (aQ mode cs sl cb ab).r<_
  omega
 ·show 1≤m * (aQ mode cs sl cb ab).d
  have:1 * 1≤m * (aQ mode cs sl cb ab).d:=aJ hp ht.d0 (by omega) (by omega)
  omega
 ·show m * (aQ mode cs sl cb ab).d<_
  have:m * (aQ mode cs sl cb ab).d≤65535 * 4294836225:=aJ hle ht.d1 (by have:=ht.d0;omega) (by omega)
  omega
 ·show Eo m fs sl m ab * (aQ mode cs sl cb ab).d≤131072 * (m * (aQ mode cs sl cb ab).d)
  have hd0:=ht.d0
  generalize (aQ mode cs sl cb ab).d=D at *
  have e1:Eo m fs sl m ab * D≤65535 * m * D:=aJ (Int.le_trans n1 (aJ hle (Int.le_refl _) (by omega) (by omega))) (Int.le_refl _) (by omega) (by omega)
  have e2:65535 * m * D=65535 * (m * D):=Int.mul_assoc _ _ _
  have e3:0≤m * D:=az (by omega) (by omega)
  omega
theorem vJ (hm:Full m) (hs:Pre cs sl m) (hd:Pre cb ab m) (hf:sl≤fs) (hfm:fs≤m) (hc:0≤c) (hcm:c≤m):0≤fi mode m cs sl fs c cb ab:=(nC (qp hm hs hd hf hfm hc hcm)).2.2
theorem pU (hm:Full m) (hs:Pre cs sl m) (hd:Pre cb ab m) (hf:sl≤fs) (hfm:fs≤m) (hc:0≤c) (hca:c≤acc) (ham:acc≤m):fi mode m cs sl fs c cb ab≤eo m sl fs acc ab:=by
 obtain ⟨v0,v1,v2⟩:=AX (mode:=mode) hm hs hd hf hfm hc hca
 refine PE (qp hm hs hd hf hfm hc (by omega)) hm.pos ?_ ?_
 ·show (eI mode m cs sl fs c cb ab).p * m≤Eo m fs sl acc ab * (m * (aQ mode cs sl cb ab).d)
  have:=Int.mul_le_mul_of_nonneg_right v1 (Int.le_of_lt hm.pos)
  grind
 ·have e:Eo m fs sl acc ab * (m * (aQ mode cs sl cb ab).d) - (eI mode m cs sl fs c cb ab).p * m=(Eo m fs sl acc ab * (aQ mode cs sl cb ab).d - (eI mode m cs sl fs c cb ab).p) * m:=by grind
  show (eI mode m cs sl fs c cb ab).q * (eI mode m cs sl fs c cb ab).q * (eI mode m cs sl fs c cb ab).r * (m * m)≤(Eo m fs sl acc ab * (m * (aQ mode cs sl cb ab).d) - (eI mode m cs sl fs c cb ab).p * m) * (Eo m fs sl acc ab * (m * (aQ mode cs sl cb ab).d) - (eI mode m cs sl fs c cb ab).p * m)
  rw [e]
  have:=Int.mul_le_mul_of_nonneg_right v2 (si m)
  have e2:∀ u:Int,u * m * (u * m)=u * u * (m * m):=fun u=>by grind
  rw [e2];exact this
end
end Go.Proofs.YtcbifofjjpfbcaaGreatDoor
namespace Go.Proofs.YtcbifofjjpfbcaaGreatDoor
section
variable {op m a b f g:Int}
theorem JE (hm:Full m) (ha:0≤a) (ham:a≤m) (hb:0≤b) (hbm:b≤m):0≤ec op a b m:=by
 have ⟨a1,a2⟩:=nK (op:=op) ha ham hb hbm
 have ⟨b1,b2⟩:=pc (op:=op) ha ham hb hbm
 exact dC hm.pos (Int.add_nonneg (az a1 ha) (az b1 hb))
def RG (op f g m:Int):Int :=
 if op=2∨op=8∨op=11 then m * f else if op=3∨op=9∨op=10 then m * g else if op=4∨op=5∨op=12 then m * f+(m - f) * g
 else if op=6∨op=7 then f * g else 0
theorem oM (hm:Full m):fL op f g m=cf (RG op f g m) m:=by
 unfold fL RG
 repeat' split
 all_goals first|rfl|exact (iA hm.pos).symm|exact (nJ hm.pos).symm
theorem Qx (hf:0≤f) (hfm:f≤m) (hg:0≤g) (hgm:g≤m):0≤RG op f g m∧RG op f g m≤m * m:=by
 have k1:0≤m * f:=az (by omega) hf
 have k2:0≤m * g:=az (by omega) hg
 have k3:0≤(m - f) * g:=az (by omega) hg
 have k4:0≤f * g:=az hf hg
 have k5:m * f≤m * m:=aJ (Int.le_refl _) hfm hf (by omega)
 have k6:m * g≤m * m:=aJ (Int.le_refl _) hgm hg (by omega)
 have k7:(m - f) * g≤(m - f) * m:=aJ (Int.le_refl _) hgm hg (by omega)
 have k8:f * g≤m * m:=aJ hfm hgm hg (by omega)
 have e:(m - f) * m=m * m - m * f:=by grind
 have k9:0≤m * m:=az (by omega) (by omega)
 unfold RG
 repeat' split
 all_goals omega
theorem pz (hm:Full m) (hf:0≤f) (hfm:f≤m) (hg:0≤g) (hgm:g≤m):0≤fL op f g m∧fL op f g m≤m:=by
 rw [oM hm]
 obtain ⟨h1,h2⟩:=Qx (op:=op) hf hfm hg hgm
 exact ⟨dC hm.pos h1,pd hm.pos h2⟩
theorem rV (hm:Full m) (ha:0≤a) (haf:a≤f) (hfm:f≤m) (hb:0≤b) (hbg:b≤g) (hgm:g≤m):ec op a b m≤fL op f g m:=by
 rw [oM hm]
 refine hZ hm.pos ?_
 have k1:m * a≤m * f:=aJ (Int.le_refl _) haf ha (by omega)
 have k2:m * b≤m * g:=aJ (Int.le_refl _) hbg hb (by omega)
 have k3:0≤a * b:=az ha hb
 have k4:a * b≤f * g:=aJ haf hbg hb (by omega)
 have k5:0≤(m - g) * (f - a):=az (by omega) (by omega)
 have k6:0≤(m - a) * (g - b):=az (by omega) (by omega)
 have k7:0≤m * a:=az (by omega) ha
 have k8:0≤m * b:=az (by omega) hb
 have k9:0≤(m - b) * (f - a):=az (by omega) (by omega)
 have k10:0≤(m - f) * (g - b):=az (by omega) (by omega)
 have e1:(m - g) * (f - a)=m * f - m * a - f * g+a * g:=by grind
 have e2:(m - a) * (g - b)=m * g - m * b - a * g+a * b:=by grind
 have e3:(m - b) * a=m * a - a * b:=by grind
 have e4:(m - a) * b=m * b - a * b:=by grind
 have e5:(m - f) * g=m * g - f * g:=by grind
 have e6:b * a=a * b:=Int.mul_comm _ _
 unfold RG gR lC
 by_cases h1:op=1∨op=2∨op=3∨op=4∨op=5∨op=6∨op=7∨op=8∨op=9∨op=10∨op=11∨op=12
 ·rcases h1 with rfl|rfl|rfl|rfl|rfl|rfl|rfl|rfl|rfl|rfl|rfl|rfl <;> simp only [Int.reduceEq,or_self,or_true,true_or,or_false,false_or,if_true,if_false,Int.zero_mul,Int.add_zero,Int.zero_add] <;> omega
 ·repeat rw [if_neg (by omega)]
  omega
theorem vn (hm:Full m) (ha:0≤a) (ham:a≤m) (hb:0≤b) (hbm:b≤m):ec op a b m≤m :=
 Int.le_trans (rV hm ha (Int.le_refl _) ham hb (Int.le_refl _) hbm) (pz hm ha ham hb hbm).2
theorem Ft {a b b':Int} (hm:Full m) (ha:0≤a) (ham:a≤m) (h:b≤b'):ec 4 a b m≤ec 4 a b' m:=by
 refine hZ hm.pos ?_
 rw [show gR 4 a b m=m from rfl,show lC 4 a b m=m - a from rfl,show gR 4 a b' m=m from rfl,show lC 4 a b' m=m - a from rfl]
 have:=Int.mul_le_mul_of_nonneg_left h (show 0≤m - a by omega)
 omega
end
section
variable {m a f acc acc' b:Int}
theorem nF (hm:Full m) (ha:0≤a) (haf:a≤f) (hfm:f≤m) (h1:0≤acc) (h2:acc≤m) (h3:0≤b) (h4:b≤m):0≤eo m a f acc b∧eo m a f acc b≤m:=by
 have ⟨n0,n1⟩:=Ku (fs:=f) (sl:=a) (acc:=acc) (ab:=b) hm ha haf hfm h1 h2 h3 h4
 exact ⟨dC hm.pos n0,pd hm.pos n1⟩
theorem BX {b':Int} (hm:Full m) (haf:a≤f) (hfm:f≤m) (h:acc≤acc') (hb:b≤b'):eo m a f acc b≤eo m a f acc' b':=by
 refine hZ hm.pos ?_
 have h1:=Int.mul_le_mul_of_nonneg_left h (show 0≤m - f by omega)
 have h2:=Int.mul_le_mul_of_nonneg_left hb (show 0≤f - a by omega)
 omega
theorem xS {g:Int} (hm:Full m) (ha:0≤a) (haf:a≤f) (hfm:f≤m) (h1:0≤acc) (hg:acc≤g) (hgm:g≤m):eo m a f acc 0≤fL 4 f g m:=by
 rw [oM hm]
 refine hZ hm.pos ?_
 rw [show RG 4 f g m=m * f+(m - f) * g from rfl]
 have h2:=Int.mul_le_mul_of_nonneg_left hg (show 0≤m - f by omega)
 have h3:=Int.mul_le_mul_of_nonneg_left haf (show 0≤m by omega)
 omega
end
structure Acc where
 c0:Int
 c1:Int
 c2:Int
 a:Int
 own:Int
 f:Int
 deriving DecidableEq,Inhabited
structure PixV (p:Pixel) (m:Int):Prop where
 n0:0≤p.c0
 n1:0≤p.c1
 n2:0≤p.c2
 l0:p.c0≤p.a
 l1:p.c1≤p.a
 l2:p.c2≤p.a
 af:p.a≤p.f
 fm:p.f≤m
structure AccV (x:Acc) (b:Pixel) (m:Int):Prop where
 n0:0≤x.c0
 n1:0≤x.c1
 n2:0≤x.c2
 l0:x.c0≤x.a
 l1:x.c1≤x.a
 l2:x.c2≤x.a
 o0:0≤x.own
 oa:x.own≤x.a
 of:x.own≤x.f
 am:x.a≤m
 fm:x.f≤m
 bk:PixV b m
 bf:b.f=b.a
theorem PixV.a0 {p:Pixel} {m:Int} (h:PixV p m):0≤p.a:=Int.le_trans h.n0 h.l0
theorem PixV.am {p:Pixel} {m:Int} (h:PixV p m):p.a≤m:=Int.le_trans h.af h.fm
theorem PixV.f0 {p:Pixel} {m:Int} (h:PixV p m):0≤p.f:=Int.le_trans h.a0 h.af
theorem AccV.a0 {x:Acc} {b:Pixel} {m:Int} (h:AccV x b m):0≤x.a:=Int.le_trans h.n0 h.l0
theorem AccV.f0 {x:Acc} {b:Pixel} {m:Int} (h:AccV x b m):0≤x.f:=Int.le_trans h.o0 h.of
theorem AccV.om {x:Acc} {b:Pixel} {m:Int} (h:AccV x b m):x.own≤m:=Int.le_trans h.oa h.am
def ba:Pixel:=⟨0,0,0,0,0⟩
def tN:Acc:=⟨0,0,0,0,0,0⟩
theorem ru {m:Int} (hm:Full m):PixV ba m:=by
 have:=hm.pos
 constructor <;> simp only [ba] <;> omega
theorem QL {m:Int} (hm:Full m):AccV tN ba m:=by
 have:=hm.pos
 refine ⟨?_, ?_, ?_, ?_, ?_, ?_, ?_, ?_, ?_, ?_, ?_,ru hm,rfl⟩ <;> simp only [tN] <;> omega
def en (isolated knockout:Bool) (outer:Acc) (back:Pixel):Pixel :=
 if isolated=true then ba else if knockout=true then back else ⟨outer.c0,outer.c1,outer.c2,outer.a,outer.a⟩
def sw (b:Pixel):Acc:=⟨b.c0,b.c1,b.c2,b.a,0,0⟩
def dI (ko:Bool) (op mode m:Int) (s:Pixel) (x:Acc) (b:Pixel):Acc :=
 if ko=true then ⟨fi mode m s.c0 s.a s.f x.c0 b.c0 b.a,fi mode m s.c1 s.a s.f x.c1 b.c1 b.a,fi mode m s.c2 s.a s.f x.c2 b.c2 b.a,eo m s.a s.f x.a b.a,eo m s.a s.f x.own 0,fL op s.f x.f m⟩
 else ⟨fB op mode m s.c0 s.a x.c0 x.a,fB op mode m s.c1 s.a x.c1 x.a,fB op mode m s.c2 s.a x.c2 x.a,ec op s.a x.a m,ec op s.a x.own m,fL op s.f x.f m⟩
def iM (c k own m:Int):Int:=if (m - own) * k<m * c then min (cf (m * c - (m - own) * k) m) own else 0
def bB (x:Acc) (b:Pixel) (m:Int):Pixel:=⟨iM x.c0 b.c0 x.own m,iM x.c1 b.c1 x.own m,iM x.c2 b.c2 x.own m,x.own,x.f⟩
def cc (p:Pixel) (k m:Int):Pixel:=⟨cf (p.c0 * k) m,cf (p.c1 * k) m,cf (p.c2 * k) m,cf (p.a * k) m,cf (p.f * k) m⟩
theorem Lc {i k:Bool} {x:Acc} {b:Pixel} {m:Int} (hm:Full m) (h:AccV x b m):PixV (en i k x b) m∧(en i k x b).f=(en i k x b).a:=by
 have hp:=hm.pos
 unfold en
 split
 ·exact ⟨ru hm,rfl⟩
 split
 ·exact ⟨h.bk,h.bf⟩
 ·exact ⟨⟨h.n0,h.n1,h.n2,h.l0,h.l1,h.l2,Int.le_refl _,h.am⟩,rfl⟩
theorem Lf {b:Pixel} {m:Int} (h:PixV b m) (hf:b.f=b.a):AccV (sw b) b m :=
 ⟨h.n0,h.n1,h.n2,h.l0,h.l1,h.l2,Int.le_refl _,h.a0,Int.le_refl _,h.am,Int.le_trans h.f0 h.fm,h,hf⟩
theorem pT {p:Pixel} {k m:Int} (hm:Full m) (h:PixV p m) (hk:0≤k) (hkm:k≤m):PixV (cc p k m) m:=by
 have mono:∀ {x y:Int},x≤y→cf (x * k) m≤cf (y * k) m:=fun q=>hZ hm.pos (Int.mul_le_mul_of_nonneg_right q hk)
 refine ⟨dC hm.pos (az h.n0 hk),dC hm.pos (az h.n1 hk),dC hm.pos (az h.n2 hk),mono h.l0,mono h.l1,mono h.l2,mono h.af,pd hm.pos ?_⟩
 rw [Int.mul_comm m m]
 exact aJ h.fm hkm hk (Int.le_of_lt hm.pos)
theorem tD {p:Pixel} {m:Int} (hm:Full m):cc p 0 m=ba:=by
 simp only [cc,Int.mul_zero,nJ hm.pos];rfl
theorem kP {k m:Int} (hm:Full m):cc ba k m=ba:=by
 simp only [cc,ba,Int.zero_mul,nJ hm.pos]
theorem ql {x:Acc} {b:Pixel} {m:Int} (hm:Full m) (h:AccV x b m):PixV (bB x b m) m:=by
 have c0:∀ {c k:Int},0≤iM c k x.own m:=fun {c k}=>by
  unfold iM
  split
  ·have:=dC (n:=m * c - (m - x.own) * k) hm.pos (by omega)
   have:=h.o0
   omega
  ·exact Int.le_refl _
 have c1:∀ {c k:Int},iM c k x.own m≤x.own:=fun {c k}=>by
  unfold iM
  split
  ·exact Int.min_le_right _ _
  ·exact h.o0
 exact ⟨c0,c0,c0,c1,c1,c1,h.of,h.fm⟩
theorem Rz {ko:Bool} {op mode m:Int} {s:Pixel} {x:Acc} {b:Pixel} (hm:Full m) (hs:PixV s m) (h:AccV x b m) (hop:op=4∨ko=false∧x.own=x.a):AccV (dI ko op mode m s x b) b m:=by
 have b0:=h.bk
 unfold dI
 split
 ·rename_i hk
  have h4:op=4:=hop.elim id fun q=>by rw [hk] at q;cases q.1
  subst h4
  have kb:=nF (a:=s.a) (f:=s.f) (acc:=x.a) (b:=b.a) hm hs.a0 hs.af hs.fm h.a0 h.am b0.a0 b0.am
  have ko':=nF (a:=s.a) (f:=s.f) (acc:=x.own) (b:=0) hm hs.a0 hs.af hs.fm h.o0 h.om (Int.le_refl _) (Int.le_of_lt hm.pos)
  have p0:Pre s.c0 s.a m:=⟨hs.n0,hs.l0,hs.am⟩
  have p1:Pre s.c1 s.a m:=⟨hs.n1,hs.l1,hs.am⟩
  have p2:Pre s.c2 s.a m:=⟨hs.n2,hs.l2,hs.am⟩
  have d0:Pre b.c0 b.a m:=⟨b0.n0,b0.l0,b0.am⟩
  have d1:Pre b.c1 b.a m:=⟨b0.n1,b0.l1,b0.am⟩
  have d2:Pre b.c2 b.a m:=⟨b0.n2,b0.l2,b0.am⟩
  have t0:=h.l0
  have t1:=h.l1
  have t2:=h.l2
  have t3:=h.am
  have sh:=(pz (op:=4) hm hs.f0 hs.fm h.f0 h.fm).2
  exact ⟨vJ hm p0 d0 hs.af hs.fm h.n0 (by omega),vJ hm p1 d1 hs.af hs.fm h.n1 (by omega),vJ hm p2 d2 hs.af hs.fm h.n2 (by omega),
   pU hm p0 d0 hs.af hs.fm h.n0 t0 t3,pU hm p1 d1 hs.af hs.fm h.n1 t1 t3,pU hm p2 d2 hs.af hs.fm h.n2 t2 t3,ko'.1,
   BX hm hs.af hs.fm h.oa b0.a0,xS hm hs.a0 hs.af hs.fm h.o0 h.of h.fm,kb.2,sh,b0,h.bf⟩
 ·have p0:Pre s.c0 s.a m:=⟨hs.n0,hs.l0,hs.am⟩
  have p1:Pre s.c1 s.a m:=⟨hs.n1,hs.l1,hs.am⟩
  have p2:Pre s.c2 s.a m:=⟨hs.n2,hs.l2,hs.am⟩
  have d0:Pre x.c0 x.a m:=⟨h.n0,h.l0,h.am⟩
  have d1:Pre x.c1 x.a m:=⟨h.n1,h.l1,h.am⟩
  have d2:Pre x.c2 x.a m:=⟨h.n2,h.l2,h.am⟩
  have hoa:ec op s.a x.own m≤ec op s.a x.a m:=by
   rcases hop with rfl|⟨_,q⟩
   ·exact Ft hm hs.a0 hs.am h.oa
   ·rw [q];exact Int.le_refl _
  have sh:=(pz (op:=op) hm hs.f0 hs.fm h.f0 h.fm).2
  exact ⟨vu hm p0 d0,vu hm p1 d1,vu hm p2 d2,qo hm p0 d0,qo hm p1 d1,qo hm p2 d2,JE hm hs.a0 hs.am h.o0 h.om,hoa,
   rV hm hs.a0 hs.af hs.fm h.o0 h.of h.fm,vn hm hs.a0 hs.am h.a0 h.am,sh,b0,h.bf⟩
theorem ID {ko:Bool} {op mode m:Int} {s:Pixel} {x:Acc} {b:Pixel} (hb:b.a=0) (h:x.own=x.a):(dI ko op mode m s x b).own=(dI ko op mode m s x b).a:=by
 unfold dI
 split
 ·show eo m s.a s.f x.own 0=eo m s.a s.f x.a b.a
  rw [h,hb]
 ·show ec op s.a x.own m=ec op s.a x.a m
  rw [h]
end Go.Proofs.YtcbifofjjpfbcaaGreatDoor
