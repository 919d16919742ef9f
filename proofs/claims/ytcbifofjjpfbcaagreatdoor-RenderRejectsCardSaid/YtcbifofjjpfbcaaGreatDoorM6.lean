/- Part of the proof: F2, F8, F5, F9, FB. -/
import Derived.Test.YtcbifofjjpfbcaaGreatDoorM5
set_option linter.unusedSimpArgs false
set_option linter.unusedVariables false
set_option maxRecDepth 16000
set_option maxHeartbeats 4000000
namespace Go.Proofs.YtcbifofjjpfbcaaGreatDoor
open Go Go.SL
open Go.RowKit (wrap64)
def de (n m:Int):Int :=
 if n % 8=0 then 0 else if n % 8=1∨n % 8=2 then m else if n % 8=3 then (m+n.tdiv 8 % 2) / 2
 else if n % 8=4 then min m (n.tdiv 8 % 4) else n.tdiv 8 % (m+1)
theorem fO (n m:Int) (h:0≤m):0≤de n m∧de n m≤m:=by
 unfold de;have h1:=Int.emod_nonneg (n.tdiv 8) (show m+1≠0 by omega);have h2:=Int.emod_lt_of_pos (n.tdiv 8) (show 0<m+1 by omega);split
 ·omega
 split
 ·omega
 split
 ·omega
 split
 ·omega
 ·omega
theorem tE (n m : Int) (hn : i64 n) (hm : u16 m) :
  aA Sg 63 [I n,U m] (fun r=>r = .b (U (de n m))):=by
 obtain ⟨hm1,hm2⟩:=hm;obtain ⟨hn1,hn2⟩:=hn;have h1:=Int.emod_nonneg (n.tdiv 8) (show m+1≠0 by omega);have h2:=Int.emod_lt_of_pos (n.tdiv 8) (show 0<m+1 by omega);refine aD Tryz.func63 [.tmp 4] ?_
 repeat' (first|refine ax ?_|refine an (fun K hK => ?_)|refine aa (bD _ _ (by omega) (by omega)) ?_|((first|apply bn|apply ba);(case hf=>rfl);(case hc=>exact bM);all_goals try (intro hb;try simp only [gL] at hb))|exact aG|(refine aK (fun hb => ?_) (fun hb => ?_) <;> try exact aE)|(refine aq hK ?_;try clear hK K))
 ·rw [de,if_pos (by omega)]
 ·rw [de,if_neg (by omega),if_pos (by omega)]
 ·rw [de,if_neg (by omega),if_neg (by omega),if_pos (by omega)]
 ·have:de n m=min m (n.tdiv 8 % 4):=by rw [de,if_neg (by omega),if_neg (by omega),if_neg (by omega),if_pos (by omega)]
  rw [this,show (if n.tdiv 8 % 4<m then n.tdiv 8 % 4 else m)=min m (n.tdiv 8 % 4) by split <;> omega]
 ·rw [de,if_neg (by omega),if_neg (by omega),if_neg (by omega),if_neg (by omega)]
def vq (n:N5) (m:Int):Pixel :=
 let f:=de n.e m
 let a:=if n.d % 3>0 then de (n.d.tdiv 3) f else f
 ⟨de n.a a,de n.b a,de n.c a,a,f⟩
structure N5ok (n:N5):Prop where
 a:i64 n.a
 b:i64 n.b
 c:i64 n.c
 d:i64 n.d
 e:i64 n.e
theorem El (n : N5) (m : Int) (hn : N5ok n) (hm : u16 m) :
  aA Sg 98 [ag (Yq n),U m] (fun r=>r = .b (ag (aS (vq n m)))):=by
 obtain ⟨⟨a1,a2⟩,⟨b1,b2⟩,⟨c1,c2⟩,⟨d1,d2⟩,⟨e1,e2⟩⟩:=hn;have hf:=fO n.e m hm.1;have ha':=fO (n.d.tdiv 3) (de n.e m) hf.1;have hd := @Gj n.d 3;have hd' := @Cf n.d 3 d1 d2 (by omega);have hd'':=vP (n.d.tdiv 3);rw [hd'] at hd'';obtain ⟨hm1,hm2⟩:=hm;refine aD Tryz.func98 [.cell 4 37] ?_;repeat' (first|refine ax ?_|refine an (fun K hK => ?_)|refine aa (bD _ _ (by omega) (by omega)) ?_|refine aa (tE _ _ ⟨by omega,by omega⟩ ⟨by omega,by omega⟩) ?_|(apply bn;(case hf=>rfl);(case hc=>exact bM);(all_goals first|(intro hb;(try simp only [gL] at hb))|skip))|exact aG|(refine aq hK ?_;try clear hK K))
 ·simp only [vq,gt_iff_lt];rfl
def jC (n c:Int):Int:=if n % 3=0 then c else c+n.tdiv 3 % 9 - 4
theorem Dn (n c : Int) (hn : i64 n) (hc1 : -2000000000 ≤ c) (hc2 : c ≤ 2000000000) :
  aA Sg 62 [I n,I c] (fun r=>r = .b (I (jC n c))):=by
 obtain ⟨hn1,hn2⟩:=hn;refine aD Tryz.func62 [.tmp 4] ?_
 repeat' (first|refine ax ?_|refine an (fun K hK => ?_)|refine aa (bD _ _ (by omega) (by omega)) ?_|(refine aK (fun hb => ?_) (fun hb => ?_) <;> try exact aE)|(refine aq hK ?_;try clear hK K))
 ·rw [jC,if_pos hb]
 ·rw [jC,if_neg hb]
def cD (r:Rect) (w h:Int):Bool := !aP r && decide (1≤w∧1≤h∧w≤r.x1 - r.x0∧h≤r.y1 - r.y0)
def bj (r:Rect) (w h:Int):Int:=if cD r w h=true then (r.x1 - r.x0 - 1) / w+1 else 0
def bY (r:Rect) (w h:Int):Int:=if cD r w h=true then (r.y1 - r.y0 - 1) / h+1 else 0
theorem Cw {W w : Int} (h1 : 1 ≤ W) (h2 : W ≤ 2147483648) (h3 : 1 ≤ w) (h4 : w ≤ W) :
  IntKind.i64.wrap (IntKind.i64.wrap ((IntKind.i64.wrap (IntKind.i64.wrap W - 1)).tdiv w)+1)=(W - 1) / w+1:=by
 have b1:0≤(W - 1) / w:=Int.ediv_nonneg (by omega) (by omega);have b2:(W - 1) / w≤W - 1:=Int.ediv_le_self _ (by omega);rw [fY (n:=W) (by omega) (by omega),fY (n:=W - 1) (by omega) (by omega),JJ (by omega),fY (n:=(W - 1) / w) (by omega) (by omega),fY (by omega) (by omega)]
theorem zg {W w : Int} (h1 : 1 ≤ W) (h2 : W ≤ 2147483648) (h3 : 1 ≤ w) (h4 : w ≤ W) :
  IntKind.i64.wrap ((IntKind.i64.wrap (IntKind.i64.wrap (IntKind.i64.wrap W+w) - 1)).tdiv w)=(W - 1) / w+1:=by
 have b1:0≤(W - 1) / w:=Int.ediv_nonneg (by omega) (by omega);have b2:(W - 1) / w≤W - 1:=Int.ediv_le_self _ (by omega);have e:(W+w - 1) / w=(W - 1) / w+1:=by rw [show W+w - 1=(W - 1)+1 * w by omega,Int.add_mul_ediv_right _ _ (by omega)]
 rw [fY (n:=W) (by omega) (by omega),fY (n:=W+w) (by omega) (by omega),fY (n:=W+w - 1) (by omega) (by omega),JJ (by omega),e,fY (by omega) (by omega)]
theorem kS (r:Rect) (w h:Int):aA Sg 19 [ag (aQ r),I w,I h] (fun x=>x = .tup [I (bj r w h),I (bY r w h),B (cD r w h)]):=by
 refine aD Tryz.func19 [.tmp 6, .tmp 7, .tmp 8] ?_
 repeat' (first|refine ax ?_|refine an (fun K hK => ?_)|refine aa (bl _) ?_|(refine aK (fun hb => ?_) (fun hb => ?_) <;> try exact aE)|(refine aq hK ?_;try clear hK K))
 ·have:cD r w h=false:=by
   cases he:aP r with
   | true=>simp [cD,he]
   | false =>
    have hb2:=gO (r:=r) (by simp [he]);rw [he,fY (n:=r.x1 - r.x0) (by omega) (by omega),fY (n:=r.y1 - r.y0) (by omega) (by omega)] at hb;simp only [cD,he,Bool.not_false,Bool.true_and,decide_eq_false_iff_not];simp only [Bool.false_eq_true,false_or] at hb;omega
  simp only [bj,bY,this,Bool.false_eq_true,if_false]
 ·have hb2:=gO (r:=r) (by simp [hb.1.1.1.1]);rw [fY (n:=r.x1 - r.x0) (by omega) (by omega),fY (n:=r.y1 - r.y0) (by omega) (by omega)] at hb;have ht:cD r w h=true:=by
   simp only [cD,hb.1.1.1.1,Bool.not_false,Bool.true_and,decide_eq_true_eq];omega
  rw [Cw (by omega) (by omega) (by omega) (by omega),Cw (by omega) (by omega) (by omega) (by omega),bj,bY,if_pos ht,if_pos ht,ht]
theorem nB (r:Rect) (w h:Int):aA Sg 72 [ag (aQ r),I w,I h] (fun x=>x = .tup [I (bj r w h),I (bY r w h),B (cD r w h)]):=by
 refine aD Tryz.func72 [.tmp 6, .tmp 7, .tmp 8] ?_
 repeat' (first|refine ax ?_|refine an (fun K hK => ?_)|refine aa (cG _) ?_|(refine aK (fun hb => ?_) (fun hb => ?_) <;> try exact aE)|(refine aq hK ?_;try clear hK K))
 ·have:cD r w h=false:=by simp [cD,hb]
  simp only [bj,bY,this,Bool.false_eq_true,if_false]
 ·rename_i he;have hb2:=gO (r:=r) (by simp [he]);rw [fY (n:=r.x1 - r.x0) (by omega) (by omega),fY (n:=r.y1 - r.y0) (by omega) (by omega)] at hb;have:cD r w h=false:=by
   simp only [cD,he,Bool.not_false,Bool.true_and,decide_eq_false_iff_not];omega
  simp only [bj,bY,this,Bool.false_eq_true,if_false]
 ·rename_i he;have hb2:=gO (r:=r) (by simp [he]);rw [fY (n:=r.x1 - r.x0) (by omega) (by omega),fY (n:=r.y1 - r.y0) (by omega) (by omega)] at hb;have ht:cD r w h=true:=by
   simp only [cD,he,Bool.not_false,Bool.true_and,decide_eq_true_eq];omega
  rw [zg (by omega) (by omega) (by omega) (by omega),zg (by omega) (by omega) (by omega) (by omega),bj,bY,if_pos ht,if_pos ht,ht]
def jq (l:List Int):Nat→Nat→List Int→List Int
 | 0,_,_=>[]
 | k+1,i,rest=>rest.getD (DQ l i % rest.length).toNat 0 :: jq l k (i+1) (rest.eraseIdx (DQ l i % rest.length).toNat)
def lr (n:Nat):List Int:=(List.range n).map fun (i:Nat)=>(i:Int)
def nZ (l:List Int) (n:Int):List Int:=if l.length=0∨n>64 then [] else jq l n.toNat 0 (lr n.toNat)
theorem iU (n:Nat):(lr n).length=n:=by simp [lr]
set_option maxHeartbeats 4000000 in
theorem mz (l : List Int) (n : Int) (hl : l.length ≤ 4611686018427387904) (hn : 0 ≤ n) :
  aA Sg 20 [.c (.p (eI l)),I n] (fun x=>x = .b (.c (.p (eI (nZ l n))))):=by
 refine dY ?_;refine aD Tryz.func20 [.tmp 4] ?_
 repeat' (first|refine aC ?_|(refine aK (fun hb => ?_) (fun hb => ?_) <;> try exact aE))
 ·rw [nZ,if_pos (by omega)];exact Gv (oR ed)
 refine aH (X:=Nat) (fun i=>aT [(0, .b (.c (.p (eI l)))),(1, .b (I n)),(5, .b (.c (.own 1 n.toNat))),(6, .b (I i))]
  [(1, .arr 3 1 n.toNat (fun a _=>PI (if a<i then a else 0)))] 2) (fun i=>(i:Int)≤n) (fun i=>n.toNat - i) 0 ?_ ?_ ?_
 ·omega
 ·refine au [(1,some 0)] ?_ ?_;and_intros;all_goals try exact aj
  refine .inr fun a ha j hj => ?_;have:j=0:=by omega
  subst this;rw [if_neg (by omega)];exact PV.le_refl _
 ·intro i hi
  repeat' (first|refine aC ?_|(refine aK (fun hb => ?_) (fun hb => ?_) <;> try exact aE))
  ·rw [ae];refine ak (i+1) ?_ (by omega) (by omega);refine au [(1,some 1)] ?_ ?_;and_intros;all_goals try exact aj
   refine .inr fun a ha j hj => ?_;have:j=0:=by omega
   subst this;simp only [Int.toNat_natCast];by_cases h:a=i
   ·subst h;rw [if_pos rfl,if_pos (by omega),if_pos (by omega)];exact PV.le_refl _
   ·rw [if_neg h];by_cases h2:a<i
    ·rw [if_pos h2,if_pos (by omega)];exact PV.le_refl _
    ·rw [if_neg h2,if_neg (by omega)];exact PV.le_refl _
  have hin:i=n.toNat:=by omega
  refine aH (X:=Nat × List Int × List Int) (fun x=>aT [(0, .b (.c (.p (eI l)))),(5, .b (.c (.p (eI x.2.1)))),(7, .b (.c (.own 1 x.2.2.length))),(8, .b (I x.1))]
   [(1, .arr 3 1 x.2.2.length (bK He x.2.2))] 2)
   (fun x=>x.2.2 ++ jq l x.2.1.length x.1 x.2.1=nZ l n∧x.1+x.2.1.length≤64∧x.2.2.length=x.1) (fun x=>x.2.1.length) (0,lr n.toNat,[]) ?_ ?_ ?_
  ·refine ⟨?_, ?_,rfl⟩
   ·simp only [iU,List.nil_append];rw [nZ,if_neg (by omega)]
   ·simp only [iU];omega
  ·refine au [(1,none)] ?_ ?_;and_intros;all_goals try exact aj
   ·exact (iU _).symm
   ·intro a ha j hj;have:j=0:=by omega
    subst this;rw [if_pos (by omega),show (lr n.toNat).getD a default=a by simp [lr,ha]];exact PV.le_refl _
  ·rintro ⟨i2,rest,out⟩ ⟨h1,h2,h3⟩;dsimp only at h1 h2 h3 ⊢;have q1:0<rest.length→0≤DQ l i2 % rest.length∧DQ l i2 % rest.length<rest.length:=fun h=>⟨Int.emod_nonneg _ (by omega),Int.emod_lt_of_pos _ (by omega)⟩
   repeat' (first|refine ax ?_|refine an (fun K hK => ?_)|refine aa (bD _ _ (by omega) (by omega)) ?_|refine aa (RE _ _) ?_|(refine aK (fun hb => ?_) (fun hb => ?_) <;> try exact aE)|(refine aq hK ?_;try clear hK K))
   ·rw [ae];have hk:(DQ l i2 % rest.length).toNat<rest.length:=by omega
    have hk2:(DQ l i2 % rest.length+1).toNat=(DQ l i2 % rest.length).toNat+1:=by omega
    generalize hkd:(DQ l i2 % rest.length).toNat=k at *
    refine ak (i2+1,rest.eraseIdx k,out ++ [rest.getD k 0]) ?_ ?_ ?_
    ·refine au [(1,some 3)] ?_ ?_;and_intros;all_goals try exact aj
     ·rw [List.length_eraseIdx,if_pos hk];omega
     ·intro a ha j hj;have:j=0:=by omega
      subst this;have e:(rest.eraseIdx k).getD a default=if a<k then rest.getD a default else rest.getD (a+1) default:=by
       simp only [List.getD_eq_getElem?_getD,List.getElem?_eraseIdx];split <;> rfl
      rw [e,hk2];by_cases h:a<k
      ·simp only [gY,Nat.sub_zero,Nat.zero_add,if_pos h];exact PV.le_refl _
      ·simp only [gY,Nat.sub_zero,if_neg h];rw [show k+1+(a - k)=a+1 by omega];exact PV.le_refl _
     ·simp
     ·simp
     ·refine .inr (cL (enc:=He) fun j hj => ?_);have:j=0:=by omega
      subst this;rfl
    ·obtain ⟨m,hm⟩:∃ m,rest.length=m+1:=⟨rest.length - 1,by omega⟩
     have hl2:(rest.eraseIdx k).length=m:=by rw [List.length_eraseIdx,if_pos hk];omega
     refine ⟨?_, ?_, ?_⟩
     ·rw [← h1,hm];dsimp only;rw [hl2,List.append_assoc];simp only [jq,List.cons_append,List.nil_append,hm] at hkd ⊢;rw [hkd]
     ·dsimp only;omega
     ·simp [h3]
    ·dsimp only;rw [List.length_eraseIdx,if_pos hk];omega
   ·have hr0:rest=[]:=List.eq_nil_of_length_eq_zero (by omega);subst hr0;have:out=nZ l n:=by simpa [jq] using h1
    rw [this];exact Gv (oR (PV.le_refl _))
def gi (o:Op):Bool :=
 if o.kind=3 then decide (o.image=0∧o.x=0∧o.y=0∧o.mask=0∧o.maskX=0∧o.maskY=0∧o.opacity=0∧o.operator=0∧o.mode=0∧o.isolated=false∧o.knockout=false)
 else if o.kind=1∧(o.isolated=true∨o.knockout=true) then false
 else if o.kind=2∧(o.image≠0∨o.x≠0∨o.y≠0) then false
 else decide (o.mask≠0∨o.maskX=0∧o.maskY=0)
theorem Bz (o:Op):aA Sg 151 [ag (fZ o)] (fun x=>x = .b (B (gi o))):=by
 refine aD Tryz.func151 [.tmp 2] ?_
 repeat' (first|refine aC ?_|(refine aK (fun hb => ?_) (fun hb => ?_) <;> try exact aE))
 ·refine eV ?_;rw [gi,if_pos hb];simp only [hb,Bool.and_true,Bool.and_eq_true,beq_iff_eq,Bool.not_eq_true',decide_eq_true_eq,true_and]
 ·rw [gi,if_neg (by omega),if_pos hb]
 ·rename_i h1 h2;rw [gi,if_neg h1,if_neg (fun h=>by have:=h2 h.1;simp [this.1,this.2] at h),if_pos (by omega)]
 ·rename_i h1 h2;refine eV ?_;rw [gi,if_neg h1,if_neg (fun h=>by have:=h2 h.1;simp [this.1,this.2] at h),if_neg (by omega)];simp only [Bool.or_eq_true,Bool.and_eq_true,beq_iff_eq,bne_iff_ne,decide_eq_true_eq,ne_eq]
theorem Ec (o:Op) (h1:1≤o.kind) (h3:o.kind≤3):aA Sg 134 [ag (fZ o)] (fun x=>x = .b (B (!gi o))):=by
 refine aD Tryz.func134 [.tmp 2] ?_
 repeat' (first|refine aC ?_|(apply bn;(case hf=>rfl);(case hc=>exact bM);(all_goals first|(intro hb;(try simp only [gL] at hb))|skip))|exact aG|(refine aK (fun hb => ?_) (fun hb => ?_) <;> try exact aE))
 ·refine congrArg (fun b=>SV.b (B (!b))) ?_;rw [Bool.eq_iff_iff,gi,if_pos hb];simp
 ·refine congrArg (fun b=>SV.b (B (!b))) ?_;rw [Bool.eq_iff_iff];by_cases k1:o.kind=1
  ·cases hi:o.isolated <;> cases hk:o.knockout <;> by_cases hm:o.mask=0 <;> simp [gi,k1,hi,hk,hm]
  ·have k2:o.kind=2:=by omega
   by_cases hm:o.mask=0 <;> by_cases q1:o.image=0 <;> by_cases q2:o.x=0 <;> by_cases q3:o.y=0 <;> simp [gi,k2,hm,q1,q2,q3]
theorem AT (l:List Op) (hl:l.length≤4611686018427387904):aA Sg 154 [.c (.p (yU l))] (fun x=>x = .b (B (l.isEmpty || ((l.getD (l.length - 1) default).isolated && !(l.getD (l.length - 1) default).knockout)))):=by
 refine aD Tryz.func154 [.tmp 2] ?_
 repeat' (first|refine aC ?_|(refine aK (fun hb => ?_) (fun hb => ?_) <;> try exact aE))
 ·have:l=[]:=List.eq_nil_of_length_eq_zero (by omega);subst this;rfl
 ·have h1:((l.length:Int) - 1).toNat=l.length - 1:=by omega
  have h2:l.isEmpty=false:=by cases l <;> simp_all
  rw [h1,h2];rfl
theorem yM (l:List Int) (hl:l.length≤4611686018427387904):aA Sg 106 [.c (.p (eI l))] (fun x=>x = .b (B (cj 1048576 l))):=by
 refine aD Tryz.func106 [.tmp 2] ?_;repeat' (refine aC ?_)
 refine aH (X:=Nat) (fun i=>aT [(5, .b (.c (.p (eI l)))),(6, .b (I l.length)),(7, .b (I i))] [] 1) (fun i=>i≤l.length∧(l.take i).all (fun v=>decide (-1048576≤v∧v≤1048576))=true) (fun i=>l.length - i) 0 ?_ ?_ ?_
 ·exact ⟨by omega,rfl⟩
 ·refine au [] ?_ ?_;and_intros;all_goals try exact aj
 ·rintro i ⟨hi,ht⟩
  repeat' (first|refine aC ?_|(refine aK (fun hb => ?_) (fun hb => ?_) <;> try exact aE))
  ·have:cj 1048576 l=false:=by
    rw [cj,List.all_eq_false];refine ⟨l.getD i default, ?_, ?_⟩
    ·rw [List.getD_eq_getElem?_getD,List.getElem?_eq_getElem (by omega)];exact List.getElem_mem _
    ·simp only [decide_eq_true_eq];simp only [Int.toNat_natCast] at hb;omega
   rw [this]
  ·rw [ae];refine ak (i+1) ?_ ⟨by omega, ?_⟩ (by omega)
   ·refine au [] ?_ ?_;and_intros;all_goals try exact aj
   ·rw [List.take_add_one,List.all_append,ht,List.getElem?_eq_getElem (by omega)];simp only [Int.toNat_natCast,List.getD_eq_getElem?_getD,List.getElem?_eq_getElem (show i<l.length by omega),Option.getD_some] at hb;simp only [Option.toList_some,List.all_cons,List.all_nil,Bool.and_true,Bool.true_and,decide_eq_true_eq];omega
  ·have:cj 1048576 l=true:=by
    rw [cj]
    rwa [List.take_of_length_le (by omega)] at ht
   rw [this]
abbrev cm (x:Int):BV := .c (.p (.val (.int .u64 x)))
theorem tu {a:Int} (h0:0≤a) (h1:a<18446744073709551616):ya .u64 a 4294967295=a % 4294967296:=by
 obtain ⟨n,rfl⟩:=Int.eq_ofNat_of_zero_le h0;have e:(BitVec.ofInt 64 (n:Int)).toNat=n:=by rw [BitVec.toNat_ofInt];omega
 show IntKind.u64.wrap (BitVec.ofInt 64 (n:Int) &&& BitVec.ofInt 64 4294967295).toNat=_;rw [BitVec.toNat_and,e,show (BitVec.ofInt 64 4294967295).toNat=2 ^ 32 - 1 by decide,Nat.and_two_pow_sub_one_eq_mod,nW (by omega) (by omega)];omega
theorem wT {a:Int} (h0:0≤a):a.fdiv (2 ^ min 32 64)=a / 4294967296:=by rw [Int.fdiv_eq_ediv_of_nonneg _ (by decide)];rfl
theorem Jw {p q r s : Int} (hp : 0 ≤ p) (hp2 : p ≤ 18446744065119617025) (hq : 0 ≤ q) (hq2 : q ≤ 18446744065119617025) (hr : 0 ≤ r) (hr2 : r ≤ 18446744065119617025) (hs : 0 ≤ s) (hs2 : s ≤ 18446744065119617025) (hz : (s * 18446744073709551616 + (q + r) * 4294967296 + p) < 18446744073709551616 * 18446744073709551616) :
  IntKind.u64.wrap (IntKind.u64.wrap (IntKind.u64.wrap s+(IntKind.u64.wrap (IntKind.u64.wrap q+(IntKind.u64.wrap p) / 4294967296)) / 4294967296)+(IntKind.u64.wrap ((IntKind.u64.wrap (IntKind.u64.wrap q+(IntKind.u64.wrap p) / 4294967296)) % 4294967296+IntKind.u64.wrap r)) / 4294967296) =
   (s * 18446744073709551616+(q+r) * 4294967296+p) / 18446744073709551616:=by
 rw [nW hp (by omega),nW hq (by omega),nW hr (by omega),nW hs (by omega),nW (n:=q+p / 4294967296) (by omega) (by omega),nW (n:=(q+p / 4294967296) % 4294967296+r) (by omega) (by omega),
  nW (n:=s+(q+p / 4294967296) / 4294967296) (by omega) (by omega),nW (by omega) (by omega)]
 omega
theorem pZ (a b : Int) (ha : 0 ≤ a) (ha2 : a < 18446744073709551616) (hb : 0 ≤ b) (hb2 : b < 18446744073709551616) :
  aA Sg 225 [cm a,cm b] (fun r=>r = .tup [cm (a * b / 18446744073709551616),cm (a * b % 18446744073709551616)]):=by
 refine aD Tryz.func225 [.tmp 4, .tmp 5] ?_;repeat' (refine aC ?_)
 have hw:∀ n:Int,0≤IntKind.u64.wrap n∧IntKind.u64.wrap n<18446744073709551616:=fun n=>by
  simp only [IntKind.wrap,IntKind.bits,IntKind.signed];simp;omega
 have hlo:IntKind.u64.wrap (a * b)=a * b % 18446744073709551616:=by
  simp only [IntKind.wrap,IntKind.bits,IntKind.signed];simp
 have ea:a=a / 4294967296 * 4294967296+a % 4294967296:=by omega
 have eb:b=b / 4294967296 * 4294967296+b % 4294967296:=by omega
 have a1:a / 4294967296≤4294967295:=by omega
 have a0:a % 4294967296≤4294967295:=by omega
 have b1:b / 4294967296≤4294967295:=by omega
 have b0:b % 4294967296≤4294967295:=by omega
 have a1':0≤a / 4294967296:=by omega
 have a0':0≤a % 4294967296:=by omega
 have b1':0≤b / 4294967296:=by omega
 have b0':0≤b % 4294967296:=by omega
 rw [hlo,wT ha,wT hb,tu ha ha2,tu hb hb2,wT (hw _).1,tu (hw _).1 (hw _).2,wT (hw _).1,wT (hw _).1];have key:a * b=a / 4294967296 * (b / 4294967296) * 18446744073709551616+(a / 4294967296 * (b % 4294967296)+a % 4294967296 * (b / 4294967296)) * 4294967296+a % 4294967296 * (b % 4294967296):=by
  generalize a / 4294967296=x1 at *
  generalize a % 4294967296=x0 at *
  generalize b / 4294967296=y1 at *
  generalize b % 4294967296=y0 at *
  subst ea;subst eb;simp only [Int.add_mul,Int.mul_add,Int.mul_assoc];have e1:x1 * (4294967296 * (y1 * 4294967296))=x1 * (y1 * 18446744073709551616):=by congr 1;omega
  have e2:x1 * (4294967296 * y0)=x1 * (y0 * 4294967296):=by congr 1;omega
  omega
 have hz1:a * b≤18446744073709551615 * 18446744073709551615:=Int.mul_le_mul (by omega) (by omega) hb (by omega);have hz:a * b<18446744073709551616 * 18446744073709551616:=by omega
 rw [Jw (Int.mul_nonneg a0' b0') (Int.mul_le_mul a0 b0 b0' (by omega)) (Int.mul_nonneg a1' b0') (Int.mul_le_mul a1 b0 b0' (by omega)) (Int.mul_nonneg a0' b1') (Int.mul_le_mul a0 b1 b1' (by omega)) (Int.mul_nonneg a1' b1') (Int.mul_le_mul a1 b1 b1' (by omega)) (by rw [← key];exact hz),← key]
end Go.Proofs.YtcbifofjjpfbcaaGreatDoor
