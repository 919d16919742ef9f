/- Part of the proof: V2. -/
import Derived.Test.YtcbifofjjpfbcaaGreatDoorM14
set_option linter.unusedSimpArgs false
set_option linter.unusedVariables false
set_option maxHeartbeats 2000000
set_option maxRecDepth 16000
namespace Go.Proofs.YtcbifofjjpfbcaaGreatDoor
open Go Go.SL
open Go.RowKit (wrap64)
def fM (m:Image):Bool:=aL m m.p0 && aL m m.p1 && aL m m.p2 && aL m m.p3 && aL m m.p4 && (m.solid || decide (m.color=bQ))
theorem ka {m:Image} {p:Plane} (hs:m.solid=true):aL m p=true↔((p.w=0∧p.h=0)∧p.stride=0)∧(p.s.length:Int)≤0:=by
 unfold aL;rw [if_pos hs];simp only [Bool.and_eq_true,decide_eq_true_eq];omega
theorem kg {m:Image} {p:Plane} (hs:m.solid=false):aL m p=true↔(cW p=true∧p.w=m.w)∧p.h=m.h:=by
 unfold aL;rw [hs,if_neg (by decide)];simp only [Bool.and_eq_true,decide_eq_true_eq]
theorem ca {m:Image} {p:Plane} (hp:p=m.p0∨p=m.p1∨p=m.p2∨p=m.p3∨p=m.p4) (h:¬ aL m p=true):fM m=false:=by
 rw [← Bool.not_eq_true];intro q;unfold fM at q;simp only [Bool.and_eq_true] at q;rcases hp with rfl|rfl|rfl|rfl|rfl
 ·exact h q.1.1.1.1.1
 ·exact h q.1.1.1.1.2
 ·exact h q.1.1.1.2
 ·exact h q.1.1.2
 ·exact h q.1.2
theorem KJ {c:Pixel}:(c.c0 == 0 && (c.c1 == 0 && (c.c2 == 0 && true)) && (c.a == 0 && (c.f == 0 && true)))=(true && true && true && true && true && (false || decide (c=bQ))):=by
 obtain ⟨c0,c1,c2,a,f⟩:=c;rw [Bool.eq_iff_iff];simp only [bQ,Pixel.mk.injEq,Bool.and_eq_true,beq_iff_eq,Bool.true_and,Bool.false_or,Bool.and_true,decide_eq_true_eq];constructor <;> (intro q;omega)
theorem sM (m:Image):aA Sg 46 [ag (aI m)] (fun r=>r = .b (B (fM m))):=by
 obtain ⟨w,h,solid,color,p0,p1,p2,p3,p4⟩:=m;have htt:True:=trivial;have v0:=ij p0;have v1:=ij p1;have v2:=ij p2;have v3:=ij p3;have v4:=ij p4;cases solid
 ·refine aD Tryz.func46 [.tmp 2] ?_;repeat' (refine aC ?_)
  refine aH (X:=Int) (fun k=>aT [(1, .b (.c (.ptr 0 0))),(3, .b (I k))] [(0, .fix ((aI ⟨w,h,false,color,p0,p1,p2,p3,p4⟩).map CV.p))] 1)
   (fun k=>0≤k∧k≤5∧(0<k→aL ⟨w,h,false,color,p0,p1,p2,p3,p4⟩ p0=true)∧(1<k→aL ⟨w,h,false,color,p0,p1,p2,p3,p4⟩ p1=true)∧(2<k→aL ⟨w,h,false,color,p0,p1,p2,p3,p4⟩ p2=true)∧(3<k→aL ⟨w,h,false,color,p0,p1,p2,p3,p4⟩ p3=true)∧(4<k→aL ⟨w,h,false,color,p0,p1,p2,p3,p4⟩ p4=true)) (fun k=>(5 - k).toNat) 0 ?_ ?_ ?_
  ·exact ⟨by omega,by omega,fun q=>absurd q (by omega),fun q=>absurd q (by omega),fun q=>absurd q (by omega),fun q=>absurd q (by omega),fun q=>absurd q (by omega)⟩
  ·refine au [(1,some 1)] ?_ ?_;and_intros;all_goals try exact aj
  ·rintro k ⟨k0,k1,i0,i1,i2,i3,i4⟩;have hkv:k=0∨k=1∨k=2∨k=3∨k=4∨k=5:=by omega
   rcases hkv with rfl|rfl|rfl|rfl|rfl|rfl
   ·repeat' (first|refine ah htt ?_|refine ax ?_|refine an (fun K hK => ?_)|refine aw (fun hg=>v0) ?_|(refine aK (fun hb => ?_) (fun hb => ?_) <;> try exact aE)|(refine aq hK ?_;try clear hK K))
    ·refine congrArg (fun v=>SV.b (B v)) (Eq.symm ?_);refine ca (p:=p0) (by simp) fun q => ?_;obtain ⟨⟨a,b⟩,c⟩:=(kg rfl).1 q;rcases hb.2 with (e|e)|e
     ·rw [a] at e;cases e
     ·exact e b
     ·exact e c
    ·rw [ae];refine ak 1 ?_ ⟨by omega,by omega,fun _=>(kg rfl).2 (hb trivial),fun q=>absurd q (by omega),fun q=>absurd q (by omega),fun q=>absurd q (by omega),fun q=>absurd q (by omega)⟩ (by decide);refine au [(1,some 1)] ?_ ?_;and_intros;all_goals try exact aj
   ·repeat' (first|refine ah htt ?_|refine ax ?_|refine an (fun K hK => ?_)|refine aw (fun hg=>v1) ?_|(refine aK (fun hb => ?_) (fun hb => ?_) <;> try exact aE)|(refine aq hK ?_;try clear hK K))
    ·refine congrArg (fun v=>SV.b (B v)) (Eq.symm ?_);refine ca (p:=p1) (by simp) fun q => ?_;obtain ⟨⟨a,b⟩,c⟩:=(kg rfl).1 q;rcases hb.2 with (e|e)|e
     ·rw [a] at e;cases e
     ·exact e b
     ·exact e c
    ·rw [ae];refine ak 2 ?_ ⟨by omega,by omega,fun _=>i0 (by omega),fun _=>(kg rfl).2 (hb trivial),fun q=>absurd q (by omega),fun q=>absurd q (by omega),fun q=>absurd q (by omega)⟩ (by decide);refine au [(1,some 1)] ?_ ?_;and_intros;all_goals try exact aj
   ·repeat' (first|refine ah htt ?_|refine ax ?_|refine an (fun K hK => ?_)|refine aw (fun hg=>v2) ?_|(refine aK (fun hb => ?_) (fun hb => ?_) <;> try exact aE)|(refine aq hK ?_;try clear hK K))
    ·refine congrArg (fun v=>SV.b (B v)) (Eq.symm ?_);refine ca (p:=p2) (by simp) fun q => ?_;obtain ⟨⟨a,b⟩,c⟩:=(kg rfl).1 q;rcases hb.2 with (e|e)|e
     ·rw [a] at e;cases e
     ·exact e b
     ·exact e c
    ·rw [ae];refine ak 3 ?_ ⟨by omega,by omega,fun _=>i0 (by omega),fun _=>i1 (by omega),fun _=>(kg rfl).2 (hb trivial),fun q=>absurd q (by omega),fun q=>absurd q (by omega)⟩ (by decide);refine au [(1,some 1)] ?_ ?_;and_intros;all_goals try exact aj
   ·repeat' (first|refine ah htt ?_|refine ax ?_|refine an (fun K hK => ?_)|refine aw (fun hg=>v3) ?_|(refine aK (fun hb => ?_) (fun hb => ?_) <;> try exact aE)|(refine aq hK ?_;try clear hK K))
    ·refine congrArg (fun v=>SV.b (B v)) (Eq.symm ?_);refine ca (p:=p3) (by simp) fun q => ?_;obtain ⟨⟨a,b⟩,c⟩:=(kg rfl).1 q;rcases hb.2 with (e|e)|e
     ·rw [a] at e;cases e
     ·exact e b
     ·exact e c
    ·rw [ae];refine ak 4 ?_ ⟨by omega,by omega,fun _=>i0 (by omega),fun _=>i1 (by omega),fun _=>i2 (by omega),fun _=>(kg rfl).2 (hb trivial),fun q=>absurd q (by omega)⟩ (by decide);refine au [(1,some 1)] ?_ ?_;and_intros;all_goals try exact aj
   ·repeat' (first|refine ah htt ?_|refine ax ?_|refine an (fun K hK => ?_)|refine aw (fun hg=>v4) ?_|(refine aK (fun hb => ?_) (fun hb => ?_) <;> try exact aE)|(refine aq hK ?_;try clear hK K))
    ·refine congrArg (fun v=>SV.b (B v)) (Eq.symm ?_);refine ca (p:=p4) (by simp) fun q => ?_;obtain ⟨⟨a,b⟩,c⟩:=(kg rfl).1 q;rcases hb.2 with (e|e)|e
     ·rw [a] at e;cases e
     ·exact e b
     ·exact e c
    ·rw [ae];refine ak 5 ?_ ⟨by omega,by omega,fun _=>i0 (by omega),fun _=>i1 (by omega),fun _=>i2 (by omega),fun _=>i3 (by omega),fun _=>(kg rfl).2 (hb trivial)⟩ (by decide);refine au [(1,some 1)] ?_ ?_;and_intros;all_goals try exact aj
   ·repeat' (first|refine ah htt ?_|refine aC ?_|(refine aq hK ?_;try clear hK K))
    refine congrArg (fun v=>SV.b (B v)) ?_;unfold fM;dsimp only;rw [i0 (by omega),i1 (by omega),i2 (by omega),i3 (by omega),i4 (by omega)];exact KJ
 ·refine aD Tryz.func46 [.tmp 2] ?_;repeat' (refine aC ?_)
  refine aH (X:=Int) (fun k=>aT [(1, .b (.c (.ptr 0 0))),(3, .b (I k))] [(0, .fix ((aI ⟨w,h,true,color,p0,p1,p2,p3,p4⟩).map CV.p))] 1)
   (fun k=>0≤k∧k≤5∧(0<k→aL ⟨w,h,true,color,p0,p1,p2,p3,p4⟩ p0=true)∧(1<k→aL ⟨w,h,true,color,p0,p1,p2,p3,p4⟩ p1=true)∧(2<k→aL ⟨w,h,true,color,p0,p1,p2,p3,p4⟩ p2=true)∧(3<k→aL ⟨w,h,true,color,p0,p1,p2,p3,p4⟩ p3=true)∧(4<k→aL ⟨w,h,true,color,p0,p1,p2,p3,p4⟩ p4=true)) (fun k=>(5 - k).toNat) 0 ?_ ?_ ?_
  ·exact ⟨by omega,by omega,fun q=>absurd q (by omega),fun q=>absurd q (by omega),fun q=>absurd q (by omega),fun q=>absurd q (by omega),fun q=>absurd q (by omega)⟩
  ·refine au [(1,some 1)] ?_ ?_;and_intros;all_goals try exact aj
  ·rintro k ⟨k0,k1,i0,i1,i2,i3,i4⟩;have hkv:k=0∨k=1∨k=2∨k=3∨k=4∨k=5:=by omega
   rcases hkv with rfl|rfl|rfl|rfl|rfl|rfl
   ·repeat' (first|refine ah htt ?_|refine ax ?_|refine an (fun K hK => ?_)|refine aw (fun hg=>v0) ?_|(refine aK (fun hb => ?_) (fun hb => ?_) <;> try exact aE)|(refine aq hK ?_;try clear hK K))
    ·refine congrArg (fun v=>SV.b (B v)) (Eq.symm ?_);refine ca (p:=p0) (by simp) fun q => ?_;have:=(ka rfl).1 q;omega
    ·rw [ae];refine ak 1 ?_ ⟨by omega,by omega,fun _=>(ka rfl).2 hb,fun q=>absurd q (by omega),fun q=>absurd q (by omega),fun q=>absurd q (by omega),fun q=>absurd q (by omega)⟩ (by decide);refine au [(1,some 1)] ?_ ?_;and_intros;all_goals try exact aj
   ·repeat' (first|refine ah htt ?_|refine ax ?_|refine an (fun K hK => ?_)|refine aw (fun hg=>v1) ?_|(refine aK (fun hb => ?_) (fun hb => ?_) <;> try exact aE)|(refine aq hK ?_;try clear hK K))
    ·refine congrArg (fun v=>SV.b (B v)) (Eq.symm ?_);refine ca (p:=p1) (by simp) fun q => ?_;have:=(ka rfl).1 q;omega
    ·rw [ae];refine ak 2 ?_ ⟨by omega,by omega,fun _=>i0 (by omega),fun _=>(ka rfl).2 hb,fun q=>absurd q (by omega),fun q=>absurd q (by omega),fun q=>absurd q (by omega)⟩ (by decide);refine au [(1,some 1)] ?_ ?_;and_intros;all_goals try exact aj
   ·repeat' (first|refine ah htt ?_|refine ax ?_|refine an (fun K hK => ?_)|refine aw (fun hg=>v2) ?_|(refine aK (fun hb => ?_) (fun hb => ?_) <;> try exact aE)|(refine aq hK ?_;try clear hK K))
    ·refine congrArg (fun v=>SV.b (B v)) (Eq.symm ?_);refine ca (p:=p2) (by simp) fun q => ?_;have:=(ka rfl).1 q;omega
    ·rw [ae];refine ak 3 ?_ ⟨by omega,by omega,fun _=>i0 (by omega),fun _=>i1 (by omega),fun _=>(ka rfl).2 hb,fun q=>absurd q (by omega),fun q=>absurd q (by omega)⟩ (by decide);refine au [(1,some 1)] ?_ ?_;and_intros;all_goals try exact aj
   ·repeat' (first|refine ah htt ?_|refine ax ?_|refine an (fun K hK => ?_)|refine aw (fun hg=>v3) ?_|(refine aK (fun hb => ?_) (fun hb => ?_) <;> try exact aE)|(refine aq hK ?_;try clear hK K))
    ·refine congrArg (fun v=>SV.b (B v)) (Eq.symm ?_);refine ca (p:=p3) (by simp) fun q => ?_;have:=(ka rfl).1 q;omega
    ·rw [ae];refine ak 4 ?_ ⟨by omega,by omega,fun _=>i0 (by omega),fun _=>i1 (by omega),fun _=>i2 (by omega),fun _=>(ka rfl).2 hb,fun q=>absurd q (by omega)⟩ (by decide);refine au [(1,some 1)] ?_ ?_;and_intros;all_goals try exact aj
   ·repeat' (first|refine ah htt ?_|refine ax ?_|refine an (fun K hK => ?_)|refine aw (fun hg=>v4) ?_|(refine aK (fun hb => ?_) (fun hb => ?_) <;> try exact aE)|(refine aq hK ?_;try clear hK K))
    ·refine congrArg (fun v=>SV.b (B v)) (Eq.symm ?_);refine ca (p:=p4) (by simp) fun q => ?_;have:=(ka rfl).1 q;omega
    ·rw [ae];refine ak 5 ?_ ⟨by omega,by omega,fun _=>i0 (by omega),fun _=>i1 (by omega),fun _=>i2 (by omega),fun _=>i3 (by omega),fun _=>(ka rfl).2 hb⟩ (by decide);refine au [(1,some 1)] ?_ ?_;and_intros;all_goals try exact aj
   ·repeat' (first|refine ah htt ?_|refine aC ?_|(refine aq hK ?_;try clear hK K))
    refine congrArg (fun v=>SV.b (B v)) ?_;unfold fM;dsimp only;rw [i0 (by omega),i1 (by omega),i2 (by omega),i3 (by omega),i4 (by omega)];rfl
theorem Ac (m:Image):aA Sg 54 [ag (aI m)] (fun r=>r = .b (B (bd m))):=by
 have h1:=iZ m.w m.h;have h2:=sM m;rw [show bd m=(cK m.w m.h && fM m) from rfl];refine aD Tryz.func54 [.tmp 2] ?_;repeat' (first|with_reducible exact bq|refine an (fun K hK => ?_)|refine aa (h1) ?_|refine aw (fun hg=>h2) ?_|refine ax ?_|(refine aq hK ?_;try clear hK K))
theorem za (m:Image) (x y:Int):aA Sg 28 [ag (aI m),I x,I y] (fun r=>r = .b (ag (aS (cU m x y)))):=Fb m x y (Ac m)
end Go.Proofs.YtcbifofjjpfbcaaGreatDoor
