/- Part of the proof: F8, F5, F9, FB. -/
import Derived.Test.YtmfblbbemekkoaaGreatDoorM6
set_option linter.unusedSimpArgs false
set_option linter.unusedVariables false
set_option maxHeartbeats 2000000
set_option maxRecDepth 16000
namespace Go.Proofs.YtmfblbbemekkoaaGreatDoor
open Go Go.SL
open Go.RowKit (wrap64)
def bU (r:Rect) (w h:Int):Bool := !bZ r && decide (1≤w∧1≤h∧w≤r.x1 - r.x0∧h≤r.y1 - r.y0)
def dD (r:Rect) (w h:Int):Int:=if bU r w h=true then (r.x1 - r.x0 - 1) / w+1 else 0
def dA (r:Rect) (w h:Int):Int:=if bU r w h=true then (r.y1 - r.y0 - 1) / h+1 else 0
theorem AF {W w : Int} (h1 : 1 ≤ W) (h2 : W ≤ 2147483648) (h3 : 1 ≤ w) (h4 : w ≤ W) :
  IntKind.i64.wrap (IntKind.i64.wrap ((IntKind.i64.wrap (IntKind.i64.wrap W - 1)).tdiv w)+1)=(W - 1) / w+1:=by
 have b1:0≤(W - 1) / w:=Int.ediv_nonneg (by omega) (by omega)
 have b2:(W - 1) / w≤W - 1:=Int.ediv_le_self _ (by omega)
 rw [fq (n:=W) (by omega) (by omega),fq (n:=W - 1) (by omega) (by omega),GK (by omega),fq (n:=(W - 1) / w) (by omega) (by omega),fq (by omega) (by omega)]
theorem vL {W w : Int} (h1 : 1 ≤ W) (h2 : W ≤ 2147483648) (h3 : 1 ≤ w) (h4 : w ≤ W) :
  IntKind.i64.wrap ((IntKind.i64.wrap (IntKind.i64.wrap (IntKind.i64.wrap W+w) - 1)).tdiv w)=(W - 1) / w+1:=by
 have b1:0≤(W - 1) / w:=Int.ediv_nonneg (by omega) (by omega)
 have b2:(W - 1) / w≤W - 1:=Int.ediv_le_self _ (by omega)
 have e:(W+w - 1) / w=(W - 1) / w+1:=by
  rw [show W+w - 1=(W - 1)+1 * w by omega,Int.add_mul_ediv_right _ _ (by omega)]
 rw [fq (n:=W) (by omega) (by omega),fq (n:=W+w) (by omega) (by omega),fq (n:=W+w - 1) (by omega) (by omega),GK (by omega),e,fq (by omega) (by omega)]
theorem nY (r:Rect) (w h:Int):aC Sg 43 [ag (fg r),I w,I h] (fun x=>x = .tup [I (dD r w h),I (dA r w h),B (bU r w h)]):=by
 refine aA Tryz.func43 [.tmp 6, .tmp 7, .tmp 8] ?_
 repeat' (first|refine an ?_|((first|refine ai (fun K hK => ?_)|refine ae (fS _) ?_);and_intros;(all_goals first|(refine hK _ ?_;clear hK K)|exact aa|skip))|(refine aW (fun hb => ?_) (fun hb => ?_);all_goals try exact aG)|(refine ak ?_;(try clear hB KB);(try clear hK K)))
 ·have:bU r w h=false:=by
   cases he:bZ r with
   | true=>simp [bU,he]
   | false =>
    have hb2:=fH (r:=r) (by simp [he])
    rw [he,fq (n:=r.x1 - r.x0) (by omega) (by omega),fq (n:=r.y1 - r.y0) (by omega) (by omega)] at hb
    simp only [bU,he,Bool.not_false,Bool.true_and,decide_eq_false_iff_not]
    simp only [Bool.false_eq_true,false_or] at hb
    omega
  simp only [dD,dA,this,Bool.false_eq_true,if_false]
 ·have hb2:=fH (r:=r) (by simp [hb.1.1.1.1])
  rw [fq (n:=r.x1 - r.x0) (by omega) (by omega),fq (n:=r.y1 - r.y0) (by omega) (by omega)] at hb
  have ht:bU r w h=true:=by
   simp only [bU,hb.1.1.1.1,Bool.not_false,Bool.true_and,decide_eq_true_eq]
   omega
  rw [AF (by omega) (by omega) (by omega) (by omega),AF (by omega) (by omega) (by omega) (by omega),dD,dA,if_pos ht,if_pos ht,ht]
theorem vg (r:Rect) (w h:Int):aC Sg 125 [ag (fg r),I w,I h] (fun x=>x = .tup [I (dD r w h),I (dA r w h),B (bU r w h)]):=by
 refine aA Tryz.func125 [.tmp 6, .tmp 7, .tmp 8] ?_
 repeat' (first|refine an ?_|((first|refine ai (fun K hK => ?_)|refine ae (ks _) ?_);and_intros;(all_goals first|(refine hK _ ?_;clear hK K)|exact aa|skip))|(refine aW (fun hb => ?_) (fun hb => ?_);all_goals try exact aG)|(refine ak ?_;(try clear hB KB);(try clear hK K)))
 ·have:bU r w h=false:=by simp [bU,hb]
  simp only [dD,dA,this,Bool.false_eq_true,if_false]
 ·rename_i he
  have hb2:=fH (r:=r) (by simp [he])
  rw [fq (n:=r.x1 - r.x0) (by omega) (by omega),fq (n:=r.y1 - r.y0) (by omega) (by omega)] at hb
  have:bU r w h=false:=by
   simp only [bU,he,Bool.not_false,Bool.true_and,decide_eq_false_iff_not]
   omega
  simp only [dD,dA,this,Bool.false_eq_true,if_false]
 ·rename_i he
  have hb2:=fH (r:=r) (by simp [he])
  rw [fq (n:=r.x1 - r.x0) (by omega) (by omega),fq (n:=r.y1 - r.y0) (by omega) (by omega)] at hb
  have ht:bU r w h=true:=by
   simp only [bU,he,Bool.not_false,Bool.true_and,decide_eq_true_eq]
   omega
  rw [vL (by omega) (by omega) (by omega) (by omega),vL (by omega) (by omega) (by omega) (by omega),dD,dA,if_pos ht,if_pos ht,ht]
end Go.Proofs.YtmfblbbemekkoaaGreatDoor
set_option maxRecDepth 16000
namespace Go.Proofs.YtmfblbbemekkoaaGreatDoor
open Go Go.SL
open Go.RowKit (wrap64)
def iq (l:List Int):Nat→Nat→List Int→List Int
 | 0,_,_=>[]
 | k+1,i,rest=>rest.getD (zt l i % rest.length).toNat 0 :: iq l k (i+1) (rest.eraseIdx (zt l i % rest.length).toNat)
def nW (n:Nat):List Int:=(List.range n).map fun (i:Nat)=>(i:Int)
def mH (l:List Int) (n:Int):List Int:=if l.length=0∨n>64 then [] else iq l n.toNat 0 (nW n.toNat)
theorem iO (n:Nat):(nW n).length=n:=by simp [nW]
set_option maxHeartbeats 4000000 in
theorem kZ (l : List Int) (n : Int) (hl : l.length ≤ 4611686018427387904) (hn : 0 ≤ n) :
  aC Sg 44 [.c (.p (dQ l)),I n] (fun x=>x = .b (.c (.p (dQ (mH l n))))):=by
 refine ix ?_
 refine aA Tryz.func44 [.tmp 4] ?_
 repeat' (first|refine an ?_|(refine ai (fun K hK => ?_);and_intros;(all_goals first|(refine hK _ ?_;clear hK K)|exact aa|skip))|(refine aW (fun hb => ?_) (fun hb => ?_);all_goals try exact aG)|(refine ak ?_;(try clear hB KB);(try clear hK K)))
 ·rw [mH,if_pos (by omega)]
  exact Df (kj iU)
 refine aO (X:=Nat) (fun i=>aQ [(0, .b (.c (.p (dQ l)))),(1, .b (I n)),(5, .b (.c (.own 1 n.toNat))),(6, .b (I i))]
  [(1, .arr 3 1 n.toNat (fun a _=>PI (if a<i then a else 0)))] 2) (fun i=>(i:Int)≤n) (fun i=>n.toNat - i) 0 ?_ ?_ ?_
 ·omega
 ·refine az [(1,some 0)] ?_ ?_
  and_intros
  all_goals first|exact ao|skip
  refine .inr fun a ha j hj => ?_
  have:j=0:=by omega
  subst this
  rw [if_neg (by omega)]
  exact PV.le_refl _
 ·intro i hi
  repeat' (first|refine an ?_|(refine ai (fun K hK => ?_);and_intros;(all_goals first|(refine hK _ ?_;clear hK K)|exact aa|skip))|(refine aW (fun hb => ?_) (fun hb => ?_);all_goals try exact aG))
  ·rw [ah]
   refine aw (i+1) ?_ (by omega) (by omega)
   refine az [(1,some 1)] ?_ ?_
   and_intros
   all_goals first|exact ao|skip
   refine .inr fun a ha j hj => ?_
   have:j=0:=by omega
   subst this
   simp only [Int.toNat_natCast]
   by_cases h:a=i
   ·subst h
    rw [if_pos rfl,if_pos (by omega),if_pos (by omega)]
    exact PV.le_refl _
   ·rw [if_neg h]
    by_cases h2:a<i
    ·rw [if_pos h2,if_pos (by omega)];exact PV.le_refl _
    ·rw [if_neg h2,if_neg (by omega)];exact PV.le_refl _
  have hin:i=n.toNat:=by omega
  refine aO (X:=Nat × List Int × List Int) (fun x=>aQ [(0, .b (.c (.p (dQ l)))),(5, .b (.c (.p (dQ x.2.1)))),(7, .b (.c (.own 1 x.2.2.length))),(8, .b (I x.1))]
   [(1, .arr 3 1 x.2.2.length (bj Dn x.2.2))] 2)
   (fun x=>x.2.2 ++ iq l x.2.1.length x.1 x.2.1=mH l n∧x.1+x.2.1.length≤64∧x.2.2.length=x.1) (fun x=>x.2.1.length) (0,nW n.toNat,[]) ?_ ?_ ?_
  ·refine ⟨?_, ?_,rfl⟩
   ·simp only [iO,List.nil_append]
    rw [mH,if_neg (by omega)]
   ·simp only [iO];omega
  ·refine az [(1,none)] ?_ ?_
   and_intros
   all_goals first|exact ao|skip
   ·exact (iO _).symm
   ·intro a ha j hj
    have:j=0:=by omega
    subst this
    rw [if_pos (by omega),show (nW n.toNat).getD a default=a by simp [nW,ha]]
    exact PV.le_refl _
  ·rintro ⟨i2,rest,out⟩ ⟨h1,h2,h3⟩
   dsimp only at h1 h2 h3 ⊢
   have q1:0<rest.length→0≤zt l i2 % rest.length∧zt l i2 % rest.length<rest.length:=fun h=>⟨Int.emod_nonneg _ (by omega),Int.emod_lt_of_pos _ (by omega)⟩
   repeat' (first|refine an ?_|((first|refine ai (fun K hK => ?_)|refine ae (bN _ _ (by omega) (by omega)) ?_|refine ae (Jj _ _) ?_);and_intros;(all_goals first|(refine hK _ ?_;clear hK K)|exact aa|skip))|(refine aW (fun hb => ?_) (fun hb => ?_);all_goals try exact aG)|(refine ak ?_;(try clear hB KB);(try clear hK K)))
   ·rw [ah]
    have hk:(zt l i2 % rest.length).toNat<rest.length:=by omega
    have hk2:(zt l i2 % rest.length+1).toNat=(zt l i2 % rest.length).toNat+1:=by omega
    generalize hkd:(zt l i2 % rest.length).toNat=k at *
    refine aw (i2+1,rest.eraseIdx k,out ++ [rest.getD k 0]) ?_ ?_ ?_
    ·refine az [(1,some 3)] ?_ ?_
     and_intros
     all_goals first|exact ao|skip
     ·rw [List.length_eraseIdx,if_pos hk];omega
     ·intro a ha j hj
      have:j=0:=by omega
      subst this
      have e:(rest.eraseIdx k).getD a default=if a<k then rest.getD a default else rest.getD (a+1) default:=by
       simp only [List.getD_eq_getElem?_getD,List.getElem?_eraseIdx]
       split <;> rfl
      rw [e,hk2]
      by_cases h:a<k
      ·simp only [fX,Nat.sub_zero,Nat.zero_add,if_pos h]
       exact PV.le_refl _
      ·simp only [fX,Nat.sub_zero,if_neg h]
       rw [show k+1+(a - k)=a+1 by omega]
       exact PV.le_refl _
     ·simp
     ·simp
     ·refine .inr (dz (enc:=Dn) fun j hj => ?_)
      have:j=0:=by omega
      subst this
      rfl
    ·obtain ⟨m,hm⟩:∃ m,rest.length=m+1:=⟨rest.length - 1,by omega⟩
     have hl2:(rest.eraseIdx k).length=m:=by rw [List.length_eraseIdx,if_pos hk];omega
     refine ⟨?_, ?_, ?_⟩
     ·rw [← h1,hm]
      dsimp only
      rw [hl2,List.append_assoc]
      simp only [iq,List.cons_append,List.nil_append,hm] at hkd ⊢
      rw [hkd]
     ·dsimp only;omega
     ·simp [h3]
    ·dsimp only
     rw [List.length_eraseIdx,if_pos hk];omega
   ·have hr0:rest=[]:=List.eq_nil_of_length_eq_zero (by omega)
    subst hr0
    have:out=mH l n:=by simpa [iq] using h1
    rw [this]
    exact Df (kj (PV.le_refl _))
end Go.Proofs.YtmfblbbemekkoaaGreatDoor
set_option maxHeartbeats 2000000
set_option maxRecDepth 16000
namespace Go.Proofs.YtmfblbbemekkoaaGreatDoor
open Go Go.SL
open Go.RowKit (wrap64)
def eV (o:Op):Bool :=
 if o.kind=3 then decide (o.image=0∧o.x=0∧o.y=0∧o.mask=0∧o.maskX=0∧o.maskY=0∧o.opacity=0∧o.operator=0∧o.mode=0∧o.isolated=false∧o.knockout=false)
 else if o.kind=1∧(o.isolated=true∨o.knockout=true) then false
 else if o.kind=2∧(o.image≠0∨o.x≠0∨o.y≠0) then false
 else decide (o.mask≠0∨o.maskX=0∧o.maskY=0)
theorem yN (o:Op):aC Sg 185 [ag (cT o)] (fun x=>x = .b (B (eV o))):=by
 refine aA Tryz.func185 [.tmp 2] ?_
 repeat' (first|refine an ?_|(refine ai (fun K hK => ?_);and_intros;(all_goals first|(refine hK _ ?_;clear hK K)|exact aa|skip))|(refine aW (fun hb => ?_) (fun hb => ?_);all_goals try exact aG)|(refine ak ?_;(try clear hB KB);(try clear hK K)))
 ·refine ej ?_
  rw [eV,if_pos hb]
  simp only [hb,Bool.and_true,Bool.and_eq_true,beq_iff_eq,Bool.not_eq_true',decide_eq_true_eq,true_and]
 ·rw [eV,if_neg (by omega),if_pos hb]
 ·rename_i h1 h2
  rw [eV,if_neg h1,if_neg (fun h=>by have:=h2 h.1;simp [this.1,this.2] at h),if_pos (by omega)]
 ·rename_i h1 h2
  refine ej ?_
  rw [eV,if_neg h1,if_neg (fun h=>by have:=h2 h.1;simp [this.1,this.2] at h),if_neg (by omega)]
  simp only [Bool.or_eq_true,Bool.and_eq_true,beq_iff_eq,bne_iff_ne,decide_eq_true_eq,ne_eq]
theorem AS (o:Op) (h1:1≤o.kind) (h3:o.kind≤3):aC Sg 181 [ag (cT o)] (fun x=>x = .b (B (!eV o))):=by
 refine aA Tryz.func181 [.tmp 2] ?_
 repeat' (first|refine an ?_|(refine ai (fun K hK => ?_);and_intros;(all_goals first|(refine hK _ ?_;clear hK K)|exact aa|skip))|(apply fo;(case hf=>rfl);(case hc=>exact eH);(all_goals first|(intro hb;(try simp only [ov] at hb))|skip))|exact bB|(refine aW (fun hb => ?_) (fun hb => ?_);all_goals try exact aG)|(refine ak ?_;(try clear hB KB);(try clear hK K)))
 ·refine congrArg (fun b=>SV.b (B (!b))) ?_
  rw [Bool.eq_iff_iff,eV,if_pos hb]
  simp
 ·refine congrArg (fun b=>SV.b (B (!b))) ?_
  rw [Bool.eq_iff_iff]
  by_cases k1:o.kind=1
  ·cases hi:o.isolated <;> cases hk:o.knockout <;> by_cases hm:o.mask=0 <;> simp [eV,k1,hi,hk,hm]
  ·have k2:o.kind=2:=by omega
   by_cases hm:o.mask=0 <;> by_cases q1:o.image=0 <;> by_cases q2:o.x=0 <;> by_cases q3:o.y=0 <;> simp [eV,k2,hm,q1,q2,q3]
theorem xr (l:List Op) (hl:l.length≤4611686018427387904):aC Sg 188 [.c (.p (ma l))] (fun x=>x = .b (B (l.isEmpty || ((l.getD (l.length - 1) default).isolated && !(l.getD (l.length - 1) default).knockout)))):=by
 refine aA Tryz.func188 [.tmp 2] ?_
 repeat' (first|refine an ?_|(refine ai (fun K hK => ?_);and_intros;(all_goals first|(refine hK _ ?_;clear hK K)|exact aa|skip))|(refine aW (fun hb => ?_) (fun hb => ?_);all_goals try exact aG)|(refine ak ?_;(try clear hB KB);(try clear hK K)))
 ·have:l=[]:=List.eq_nil_of_length_eq_zero (by omega)
  subst this;rfl
 ·have h1:((l.length:Int) - 1).toNat=l.length - 1:=by omega
  have h2:l.isEmpty=false:=by cases l <;> simp_all
  rw [h1,h2];rfl
theorem vN (l:List Int) (hl:l.length≤4611686018427387904):aC Sg 160 [.c (.p (dQ l))] (fun x=>x = .b (B (bt 1048576 l))):=by
 refine aA Tryz.func160 [.tmp 2] ?_
 repeat' (first|refine an ?_|(refine ai (fun K hK => ?_);and_intros;(all_goals first|(refine hK _ ?_;clear hK K)|exact aa|skip)))
 refine aO (X:=Nat) (fun i=>aQ [(5, .b (.c (.p (dQ l)))),(6, .b (I l.length)),(7, .b (I i))] [] 1) (fun i=>i≤l.length∧(l.take i).all (fun v=>decide (-1048576≤v∧v≤1048576))=true) (fun i=>l.length - i) 0 ?_ ?_ ?_
 ·exact ⟨by omega,rfl⟩
 ·refine az [] ?_ ?_
  and_intros
  all_goals first|exact ao|skip
 ·rintro i ⟨hi,ht⟩
  repeat' (first|refine an ?_|(refine ai (fun K hK => ?_);and_intros;(all_goals first|(refine hK _ ?_;clear hK K)|exact aa|skip))|(refine aW (fun hb => ?_) (fun hb => ?_);all_goals try exact aG)|(refine ak ?_;(try clear hB KB);(try clear hK K)))
  ·have:bt 1048576 l=false:=by
    rw [bt,List.all_eq_false]
    refine ⟨l.getD i default, ?_, ?_⟩
    ·rw [List.getD_eq_getElem?_getD,List.getElem?_eq_getElem (by omega)];exact List.getElem_mem _
    ·simp only [decide_eq_true_eq];simp only [Int.toNat_natCast] at hb;omega
   rw [this]
  ·rw [ah]
   refine aw (i+1) ?_ ⟨by omega, ?_⟩ (by omega)
   ·refine az [] ?_ ?_
    and_intros
    all_goals first|exact ao|skip
   ·rw [List.take_add_one,List.all_append,ht,List.getElem?_eq_getElem (by omega)]
    simp only [Int.toNat_natCast,List.getD_eq_getElem?_getD,List.getElem?_eq_getElem (show i<l.length by omega),Option.getD_some] at hb
    simp only [Option.toList_some,List.all_cons,List.all_nil,Bool.and_true,Bool.true_and,decide_eq_true_eq]
    omega
  ·have:bt 1048576 l=true:=by
    rw [bt]
    rwa [List.take_of_length_le (by omega)] at ht
   rw [this]
end Go.Proofs.YtmfblbbemekkoaaGreatDoor
set_option maxHeartbeats 4000000
set_option maxRecDepth 16000
namespace Go.Proofs.YtmfblbbemekkoaaGreatDoor
open Go Go.SL
open Go.RowKit (wrap64)
abbrev bQ (x:Int):BV := .c (.p (.val (.int .u64 x)))
theorem pY {a:Int} (h0:0≤a) (h1:a<18446744073709551616):vB .u64 a 4294967295=a % 4294967296:=by
 obtain ⟨n,rfl⟩:=Int.eq_ofNat_of_zero_le h0
 have e:(BitVec.ofInt 64 (n:Int)).toNat=n:=by
  rw [BitVec.toNat_ofInt];omega
 show IntKind.u64.wrap (BitVec.ofInt 64 (n:Int) &&& BitVec.ofInt 64 4294967295).toNat=_
 rw [BitVec.toNat_and,e,show (BitVec.ofInt 64 4294967295).toNat=2 ^ 32 - 1 by decide,Nat.and_two_pow_sub_one_eq_mod,me (by omega) (by omega)]
 omega
theorem tW {a:Int} (h0:0≤a):a.fdiv (2 ^ min 32 64)=a / 4294967296:=by
 rw [Int.fdiv_eq_ediv_of_nonneg _ (by decide)];rfl
theorem Hg {p q r s : Int} (hp : 0 ≤ p) (hp2 : p ≤ 18446744065119617025) (hq : 0 ≤ q) (hq2 : q ≤ 18446744065119617025) (hr : 0 ≤ r) (hr2 : r ≤ 18446744065119617025) (hs : 0 ≤ s) (hs2 : s ≤ 18446744065119617025) (hz : (s * 18446744073709551616 + (q + r) * 4294967296 + p) < 18446744073709551616 * 18446744073709551616) :
  IntKind.u64.wrap (IntKind.u64.wrap (IntKind.u64.wrap s+(IntKind.u64.wrap (IntKind.u64.wrap q+(IntKind.u64.wrap p) / 4294967296)) / 4294967296)+(IntKind.u64.wrap ((IntKind.u64.wrap (IntKind.u64.wrap q+(IntKind.u64.wrap p) / 4294967296)) % 4294967296+IntKind.u64.wrap r)) / 4294967296) =
   (s * 18446744073709551616+(q+r) * 4294967296+p) / 18446744073709551616:=by
 rw [me hp (by omega),me hq (by omega),me hr (by omega),me hs (by omega),me (n:=q+p / 4294967296) (by omega) (by omega),me (n:=(q+p / 4294967296) % 4294967296+r) (by omega) (by omega),
  me (n:=s+(q+p / 4294967296) / 4294967296) (by omega) (by omega),me (by omega) (by omega)]
 omega
theorem og (a b : Int) (ha : 0 ≤ a) (ha2 : a < 18446744073709551616) (hb : 0 ≤ b) (hb2 : b < 18446744073709551616) :
  aC Sg 236 [bQ a,bQ b] (fun r=>r = .tup [bQ (a * b / 18446744073709551616),bQ (a * b % 18446744073709551616)]):=by
 refine aA Tryz.func236 [.tmp 4, .tmp 5] ?_
 repeat' (first|(refine ai (fun K hK => ?_);and_intros;(all_goals first|(refine hK _ ?_;clear hK K)|exact aa|skip))|(refine ak ?_;(try clear hB KB);(try clear hK K)))
 have hw:∀ n:Int,0≤IntKind.u64.wrap n∧IntKind.u64.wrap n<18446744073709551616:=fun n=>by
  simp only [IntKind.wrap,IntKind.bits,IntKind.signed]
  simp
  omega
 have hlo:IntKind.u64.wrap (a * b)=a * b % 18446744073709551616:=by
  simp only [IntKind.wrap,IntKind.bits,IntKind.signed]
  simp
 have ea:a=a / 4294967296 * 4294967296+a % 4294967296:=by omega
 have eb:b=b / 4294967296 * 4294967296+b % 4294967296:=by omega
 have a1:a / 4294967296≤4294967295:=by omega
 have a0:a % 4294967296≤4294967295:=by omega
 have b1:b / 4294967296≤4294967295:=by omega
 have b0:b % 4294967296≤4294967295:=by omega
 have a1':0≤a / 4294967296:=by omega
 have a0':0≤a % 4294967296:=by omega
 have b1':0≤b / 4294967296:=by omega
 have b0':0≤b % 4294967296:=by omega
 rw [hlo,tW ha,tW hb,pY ha ha2,pY hb hb2,tW (hw _).1,pY (hw _).1 (hw _).2,tW (hw _).1,tW (hw _).1]
 have key:a * b=a / 4294967296 * (b / 4294967296) * 18446744073709551616+(a / 4294967296 * (b % 4294967296)+a % 4294967296 * (b / 4294967296)) * 4294967296+a % 4294967296 * (b % 4294967296):=by
  generalize a / 4294967296=x1 at *
  generalize a % 4294967296=x0 at *
  generalize b / 4294967296=y1 at *
  generalize b % 4294967296=y0 at *
  subst ea;subst eb
  simp only [Int.add_mul,Int.mul_add,Int.mul_assoc]
  have e1:x1 * (4294967296 * (y1 * 4294967296))=x1 * (y1 * 18446744073709551616):=by
   congr 1;omega
  have e2:x1 * (4294967296 * y0)=x1 * (y0 * 4294967296):=by congr 1;omega
  omega
 have hz1:a * b≤18446744073709551615 * 18446744073709551615:=Int.mul_le_mul (by omega) (by omega) hb (by omega)
 have hz:a * b<18446744073709551616 * 18446744073709551616:=by omega
 rw [Hg (Int.mul_nonneg a0' b0') (Int.mul_le_mul a0 b0 b0' (by omega)) (Int.mul_nonneg a1' b0') (Int.mul_le_mul a1 b0 b0' (by omega)) (Int.mul_nonneg a0' b1') (Int.mul_le_mul a0 b1 b1' (by omega)) (Int.mul_nonneg a1' b1') (Int.mul_le_mul a1 b1 b1' (by omega)) (by rw [← key];exact hz),← key]
end Go.Proofs.YtmfblbbemekkoaaGreatDoor
