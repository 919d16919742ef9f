/- Part of the proof: V2. -/
import Derived.Test.YtmfblbbemekkoaaGreatDoorM15
set_option linter.unusedSimpArgs false
set_option linter.unusedVariables false
set_option maxHeartbeats 2000000
set_option maxRecDepth 16000
namespace Go.Proofs.YtmfblbbemekkoaaGreatDoor
open Go Go.SL
open Go.RowKit (wrap64)
def eM (m:Image):Bool:=aH m m.p0 && aH m m.p1 && aH m m.p2 && aH m m.p3 && aH m m.p4 && (m.solid || decide (m.color=aI))
theorem je {m:Image} {p:Plane} (hs:m.solid=true):aH m p=true↔((p.w=0∧p.h=0)∧p.stride=0)∧(p.s.length:Int)≤0:=by
 unfold aH
 rw [if_pos hs]
 simp only [Bool.and_eq_true,decide_eq_true_eq]
 omega
theorem jc {m:Image} {p:Plane} (hs:m.solid=false):aH m p=true↔(cF p=true∧p.w=m.w)∧p.h=m.h:=by
 unfold aH
 rw [hs,if_neg (by decide)]
 simp only [Bool.and_eq_true,decide_eq_true_eq]
theorem bE {m:Image} {p:Plane} (hp:p=m.p0∨p=m.p1∨p=m.p2∨p=m.p3∨p=m.p4) (h:¬ aH m p=true):eM m=false:=by
 rw [← Bool.not_eq_true]
 intro q
 unfold eM at q
 simp only [Bool.and_eq_true] at q
 rcases hp with rfl|rfl|rfl|rfl|rfl
 ·exact h q.1.1.1.1.1
 ·exact h q.1.1.1.1.2
 ·exact h q.1.1.1.2
 ·exact h q.1.1.2
 ·exact h q.1.2
theorem HK {c:Pixel}:(c.c0 == 0 && (c.c1 == 0 && (c.c2 == 0 && true)) && (c.a == 0 && (c.f == 0 && true)))=(true && true && true && true && true && (false || decide (c=aI))):=by
 obtain ⟨c0,c1,c2,a,f⟩:=c
 rw [Bool.eq_iff_iff]
 simp only [aI,Pixel.mk.injEq,Bool.and_eq_true,beq_iff_eq,Bool.true_and,Bool.false_or,Bool.and_true,decide_eq_true_eq]
 constructor <;> (intro q;omega)
theorem qp (m:Image):aC Sg 81 [ag (aN m)] (fun r=>r = .b (B (eM m))):=by
 obtain ⟨w,h,solid,color,p0,p1,p2,p3,p4⟩:=m
 have htt:True:=trivial
 have v0:=fU p0
 have v1:=fU p1
 have v2:=fU p2
 have v3:=fU p3
 have v4:=fU p4
 cases solid
 ·refine aA Tryz.func81 [.tmp 2] ?_
  repeat' (first|refine an ?_|(refine ai (fun K hK => ?_);and_intros;(all_goals first|(refine hK _ ?_;clear hK K)|exact aa|skip)))
  refine aO (X:=Int) (fun k=>aQ [(1, .b (.c (.ptr 0 0))),(3, .b (I k))] [(0, .fix ((aN ⟨w,h,false,color,p0,p1,p2,p3,p4⟩).map CV.p))] 1)
   (fun k=>0≤k∧k≤5∧(0<k→aH ⟨w,h,false,color,p0,p1,p2,p3,p4⟩ p0=true)∧(1<k→aH ⟨w,h,false,color,p0,p1,p2,p3,p4⟩ p1=true)∧(2<k→aH ⟨w,h,false,color,p0,p1,p2,p3,p4⟩ p2=true)∧(3<k→aH ⟨w,h,false,color,p0,p1,p2,p3,p4⟩ p3=true)∧(4<k→aH ⟨w,h,false,color,p0,p1,p2,p3,p4⟩ p4=true)) (fun k=>(5 - k).toNat) 0 ?_ ?_ ?_
  ·exact ⟨by omega,by omega,fun q=>absurd q (by omega),fun q=>absurd q (by omega),fun q=>absurd q (by omega),fun q=>absurd q (by omega),fun q=>absurd q (by omega)⟩
  ·refine az [(1,some 1)] ?_ ?_
   and_intros
   all_goals first|exact ao|skip
  ·rintro k ⟨k0,k1,i0,i1,i2,i3,i4⟩
   have hkv:k=0∨k=1∨k=2∨k=3∨k=4∨k=5:=by omega
   rcases hkv with rfl|rfl|rfl|rfl|rfl|rfl
   ·repeat' (first|refine aj htt ?_|refine an ?_|((first|refine ai (fun K hK => ?_)|refine aD (fun hg=>v0) ?_);and_intros;(all_goals first|(refine hK _ ?_;clear hK K)|exact aa|skip))|(refine aW (fun hb => ?_) (fun hb => ?_);all_goals try exact aG)|(refine ak ?_;(try clear hB KB);(try clear hK K)))
    ·refine congrArg (fun v=>SV.b (B v)) (Eq.symm ?_)
     refine bE (p:=p0) (by simp) fun q => ?_
     obtain ⟨⟨a,b⟩,c⟩:=(jc rfl).1 q
     rcases hb.2 with (e|e)|e
     ·rw [a] at e;cases e
     ·exact e b
     ·exact e c
    ·rw [ah]
     refine aw 1 ?_ ⟨by omega,by omega,fun _=>(jc rfl).2 (hb trivial),fun q=>absurd q (by omega),fun q=>absurd q (by omega),fun q=>absurd q (by omega),fun q=>absurd q (by omega)⟩ (by decide)
     refine az [(1,some 1)] ?_ ?_
     and_intros
     all_goals first|exact ao|skip
   ·repeat' (first|refine aj htt ?_|refine an ?_|((first|refine ai (fun K hK => ?_)|refine aD (fun hg=>v1) ?_);and_intros;(all_goals first|(refine hK _ ?_;clear hK K)|exact aa|skip))|(refine aW (fun hb => ?_) (fun hb => ?_);all_goals try exact aG)|(refine ak ?_;(try clear hB KB);(try clear hK K)))
    ·refine congrArg (fun v=>SV.b (B v)) (Eq.symm ?_)
     refine bE (p:=p1) (by simp) fun q => ?_
     obtain ⟨⟨a,b⟩,c⟩:=(jc rfl).1 q
     rcases hb.2 with (e|e)|e
     ·rw [a] at e;cases e
     ·exact e b
     ·exact e c
    ·rw [ah]
     refine aw 2 ?_ ⟨by omega,by omega,fun _=>i0 (by omega),fun _=>(jc rfl).2 (hb trivial),fun q=>absurd q (by omega),fun q=>absurd q (by omega),fun q=>absurd q (by omega)⟩ (by decide)
     refine az [(1,some 1)] ?_ ?_
     and_intros
     all_goals first|exact ao|skip
   ·repeat' (first|refine aj htt ?_|refine an ?_|((first|refine ai (fun K hK => ?_)|refine aD (fun hg=>v2) ?_);and_intros;(all_goals first|(refine hK _ ?_;clear hK K)|exact aa|skip))|(refine aW (fun hb => ?_) (fun hb => ?_);all_goals try exact aG)|(refine ak ?_;(try clear hB KB);(try clear hK K)))
    ·refine congrArg (fun v=>SV.b (B v)) (Eq.symm ?_)
     refine bE (p:=p2) (by simp) fun q => ?_
     obtain ⟨⟨a,b⟩,c⟩:=(jc rfl).1 q
     rcases hb.2 with (e|e)|e
     ·rw [a] at e;cases e
     ·exact e b
     ·exact e c
    ·rw [ah]
     refine aw 3 ?_ ⟨by omega,by omega,fun _=>i0 (by omega),fun _=>i1 (by omega),fun _=>(jc rfl).2 (hb trivial),fun q=>absurd q (by omega),fun q=>absurd q (by omega)⟩ (by decide)
     refine az [(1,some 1)] ?_ ?_
     and_intros
     all_goals first|exact ao|skip
   ·repeat' (first|refine aj htt ?_|refine an ?_|((first|refine ai (fun K hK => ?_)|refine aD (fun hg=>v3) ?_);and_intros;(all_goals first|(refine hK _ ?_;clear hK K)|exact aa|skip))|(refine aW (fun hb => ?_) (fun hb => ?_);all_goals try exact aG)|(refine ak ?_;(try clear hB KB);(try clear hK K)))
    ·refine congrArg (fun v=>SV.b (B v)) (Eq.symm ?_)
     refine bE (p:=p3) (by simp) fun q => ?_
     obtain ⟨⟨a,b⟩,c⟩:=(jc rfl).1 q
     rcases hb.2 with (e|e)|e
     ·rw [a] at e;cases e
     ·exact e b
     ·exact e c
    ·rw [ah]
     refine aw 4 ?_ ⟨by omega,by omega,fun _=>i0 (by omega),fun _=>i1 (by omega),fun _=>i2 (by omega),fun _=>(jc rfl).2 (hb trivial),fun q=>absurd q (by omega)⟩ (by decide)
     refine az [(1,some 1)] ?_ ?_
     and_intros
     all_goals first|exact ao|skip
   ·repeat' (first|refine aj htt ?_|refine an ?_|((first|refine ai (fun K hK => ?_)|refine aD (fun hg=>v4) ?_);and_intros;(all_goals first|(refine hK _ ?_;clear hK K)|exact aa|skip))|(refine aW (fun hb => ?_) (fun hb => ?_);all_goals try exact aG)|(refine ak ?_;(try clear hB KB);(try clear hK K)))
    ·refine congrArg (fun v=>SV.b (B v)) (Eq.symm ?_)
     refine bE (p:=p4) (by simp) fun q => ?_
     obtain ⟨⟨a,b⟩,c⟩:=(jc rfl).1 q
     rcases hb.2 with (e|e)|e
     ·rw [a] at e;cases e
     ·exact e b
     ·exact e c
    ·rw [ah]
     refine aw 5 ?_ ⟨by omega,by omega,fun _=>i0 (by omega),fun _=>i1 (by omega),fun _=>i2 (by omega),fun _=>i3 (by omega),fun _=>(jc rfl).2 (hb trivial)⟩ (by decide)
     refine az [(1,some 1)] ?_ ?_
     and_intros
     all_goals first|exact ao|skip
   ·repeat' (first|refine aj htt ?_|refine an ?_|((first|refine ai (fun K hK => ?_)|refine BD ?_);and_intros;(all_goals first|(refine hK _ ?_;clear hK K)|exact aa|skip))|(refine ak ?_;(try clear hB KB);(try clear hK K)))
    refine congrArg (fun v=>SV.b (B v)) ?_
    unfold eM
    dsimp only
    rw [i0 (by omega),i1 (by omega),i2 (by omega),i3 (by omega),i4 (by omega)]
    exact HK
 ·refine aA Tryz.func81 [.tmp 2] ?_
  repeat' (first|refine an ?_|(refine ai (fun K hK => ?_);and_intros;(all_goals first|(refine hK _ ?_;clear hK K)|exact aa|skip)))
  refine aO (X:=Int) (fun k=>aQ [(1, .b (.c (.ptr 0 0))),(3, .b (I k))] [(0, .fix ((aN ⟨w,h,true,color,p0,p1,p2,p3,p4⟩).map CV.p))] 1)
   (fun k=>0≤k∧k≤5∧(0<k→aH ⟨w,h,true,color,p0,p1,p2,p3,p4⟩ p0=true)∧(1<k→aH ⟨w,h,true,color,p0,p1,p2,p3,p4⟩ p1=true)∧(2<k→aH ⟨w,h,true,color,p0,p1,p2,p3,p4⟩ p2=true)∧(3<k→aH ⟨w,h,true,color,p0,p1,p2,p3,p4⟩ p3=true)∧(4<k→aH ⟨w,h,true,color,p0,p1,p2,p3,p4⟩ p4=true)) (fun k=>(5 - k).toNat) 0 ?_ ?_ ?_
  ·exact ⟨by omega,by omega,fun q=>absurd q (by omega),fun q=>absurd q (by omega),fun q=>absurd q (by omega),fun q=>absurd q (by omega),fun q=>absurd q (by omega)⟩
  ·refine az [(1,some 1)] ?_ ?_
   and_intros
   all_goals first|exact ao|skip
  ·rintro k ⟨k0,k1,i0,i1,i2,i3,i4⟩
   have hkv:k=0∨k=1∨k=2∨k=3∨k=4∨k=5:=by omega
   rcases hkv with rfl|rfl|rfl|rfl|rfl|rfl
   ·repeat' (first|refine aj htt ?_|refine an ?_|((first|refine ai (fun K hK => ?_)|refine aD (fun hg=>v0) ?_);and_intros;(all_goals first|(refine hK _ ?_;clear hK K)|exact aa|skip))|(refine aW (fun hb => ?_) (fun hb => ?_);all_goals try exact aG)|(refine ak ?_;(try clear hB KB);(try clear hK K)))
    ·refine congrArg (fun v=>SV.b (B v)) (Eq.symm ?_)
     refine bE (p:=p0) (by simp) fun q => ?_
     have:=(je rfl).1 q
     omega
    ·rw [ah]
     refine aw 1 ?_ ⟨by omega,by omega,fun _=>(je rfl).2 hb,fun q=>absurd q (by omega),fun q=>absurd q (by omega),fun q=>absurd q (by omega),fun q=>absurd q (by omega)⟩ (by decide)
     refine az [(1,some 1)] ?_ ?_
     and_intros
     all_goals first|exact ao|skip
   ·repeat' (first|refine aj htt ?_|refine an ?_|((first|refine ai (fun K hK => ?_)|refine aD (fun hg=>v1) ?_);and_intros;(all_goals first|(refine hK _ ?_;clear hK K)|exact aa|skip))|(refine aW (fun hb => ?_) (fun hb => ?_);all_goals try exact aG)|(refine ak ?_;(try clear hB KB);(try clear hK K)))
    ·refine congrArg (fun v=>SV.b (B v)) (Eq.symm ?_)
     refine bE (p:=p1) (by simp) fun q => ?_
     have:=(je rfl).1 q
     omega
    ·rw [ah]
     refine aw 2 ?_ ⟨by omega,by omega,fun _=>i0 (by omega),fun _=>(je rfl).2 hb,fun q=>absurd q (by omega),fun q=>absurd q (by omega),fun q=>absurd q (by omega)⟩ (by decide)
     refine az [(1,some 1)] ?_ ?_
     and_intros
     all_goals first|exact ao|skip
   ·repeat' (first|refine aj htt ?_|refine an ?_|((first|refine ai (fun K hK => ?_)|refine aD (fun hg=>v2) ?_);and_intros;(all_goals first|(refine hK _ ?_;clear hK K)|exact aa|skip))|(refine aW (fun hb => ?_) (fun hb => ?_);all_goals try exact aG)|(refine ak ?_;(try clear hB KB);(try clear hK K)))
    ·refine congrArg (fun v=>SV.b (B v)) (Eq.symm ?_)
     refine bE (p:=p2) (by simp) fun q => ?_
     have:=(je rfl).1 q
     omega
    ·rw [ah]
     refine aw 3 ?_ ⟨by omega,by omega,fun _=>i0 (by omega),fun _=>i1 (by omega),fun _=>(je rfl).2 hb,fun q=>absurd q (by omega),fun q=>absurd q (by omega)⟩ (by decide)
     refine az [(1,some 1)] ?_ ?_
     and_intros
     all_goals first|exact ao|skip
   ·repeat' (first|refine aj htt ?_|refine an ?_|((first|refine ai (fun K hK => ?_)|refine aD (fun hg=>v3) ?_);and_intros;(all_goals first|(refine hK _ ?_;clear hK K)|exact aa|skip))|(refine aW (fun hb => ?_) (fun hb => ?_);all_goals try exact aG)|(refine ak ?_;(try clear hB KB);(try clear hK K)))
    ·refine congrArg (fun v=>SV.b (B v)) (Eq.symm ?_)
     refine bE (p:=p3) (by simp) fun q => ?_
     have:=(je rfl).1 q
     omega
    ·rw [ah]
     refine aw 4 ?_ ⟨by omega,by omega,fun _=>i0 (by omega),fun _=>i1 (by omega),fun _=>i2 (by omega),fun _=>(je rfl).2 hb,fun q=>absurd q (by omega)⟩ (by decide)
     refine az [(1,some 1)] ?_ ?_
     and_intros
     all_goals first|exact ao|skip
   ·repeat' (first|refine aj htt ?_|refine an ?_|((first|refine ai (fun K hK => ?_)|refine aD (fun hg=>v4) ?_);and_intros;(all_goals first|(refine hK _ ?_;clear hK K)|exact aa|skip))|(refine aW (fun hb => ?_) (fun hb => ?_);all_goals try exact aG)|(refine ak ?_;(try clear hB KB);(try clear hK K)))
    ·refine congrArg (fun v=>SV.b (B v)) (Eq.symm ?_)
     refine bE (p:=p4) (by simp) fun q => ?_
     have:=(je rfl).1 q
     omega
    ·rw [ah]
     refine aw 5 ?_ ⟨by omega,by omega,fun _=>i0 (by omega),fun _=>i1 (by omega),fun _=>i2 (by omega),fun _=>i3 (by omega),fun _=>(je rfl).2 hb⟩ (by decide)
     refine az [(1,some 1)] ?_ ?_
     and_intros
     all_goals first|exact ao|skip
   ·repeat' (first|refine aj htt ?_|refine an ?_|((first|refine ai (fun K hK => ?_)|refine BD ?_);and_intros;(all_goals first|(refine hK _ ?_;clear hK K)|exact aa|skip))|(refine ak ?_;(try clear hB KB);(try clear hK K)))
    refine congrArg (fun v=>SV.b (B v)) ?_
    unfold eM
    dsimp only
    rw [i0 (by omega),i1 (by omega),i2 (by omega),i3 (by omega),i4 (by omega)]
    rfl
theorem yj (m:Image):aC Sg 70 [ag (aN m)] (fun r=>r = .b (B (aX m))):=by
 have h1:=gS m.w m.h
 have h2:=qp m
 rw [show aX m=(cl m.w m.h && eM m) from rfl]
 refine aA Tryz.func70 [.tmp 2] ?_
 repeat' (first|with_reducible exact ca|((first|refine ai (fun K hK => ?_)|refine ae (h1) ?_|refine aD (fun hg=>h2) ?_);and_intros;(all_goals first|(refine hK _ ?_;clear hK K)|exact aa|skip))|(refine ak ?_;(try clear hB KB);(try clear hK K)))
theorem Rs (m:Image) (x y:Int):aC Sg 49 [ag (aN m),I x,I y] (fun r=>r = .b (ag (aF (eI m x y)))):=BM m x y (yj m)
end Go.Proofs.YtmfblbbemekkoaaGreatDoor
