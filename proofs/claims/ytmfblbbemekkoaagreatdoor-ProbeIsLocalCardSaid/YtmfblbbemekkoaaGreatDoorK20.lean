/- Part of the proof: V2. -/
import Derived.Test.YtmfblbbemekkoaaGreatDoorK19
set_option linter.unusedSimpArgs false
set_option linter.unusedVariables false
set_option maxHeartbeats 2000000
set_option maxRecDepth 16000
namespace Go.Proofs.YtmfblbbemekkoaaGreatDoor
open Go Go.SL
open Go.RowKit (wrap64)
def ez (m:Image):Bool:=aB m m.p0 && aB m m.p1 && aB m m.p2 && aB m m.p3 && aB m m.p4 && (m.solid || decide (m.color=aG))
theorem gq {m:Image} {p:Plane} (hs:m.solid=true):aB m p=true↔((p.w=0∧p.h=0)∧p.stride=0)∧(p.s.length:Int)≤0:=by
 unfold aB
 rw [if_pos hs]
 simp only [Bool.and_eq_true,decide_eq_true_eq]
 omega
theorem gu {m:Image} {p:Plane} (hs:m.solid=false):aB m p=true↔(cq p=true∧p.w=m.w)∧p.h=m.h:=by
 unfold aB
 rw [hs,if_neg (by decide)]
 simp only [Bool.and_eq_true,decide_eq_true_eq]
theorem bg {m:Image} {p:Plane} (hp:p=m.p0∨p=m.p1∨p=m.p2∨p=m.p3∨p=m.p4) (h:¬ aB m p=true):ez m=false:=by
 rw [← Bool.not_eq_true]
 intro q
 unfold ez at q
 simp only [Bool.and_eq_true] at q
 rcases hp with rfl|rfl|rfl|rfl|rfl
 ·exact h q.1.1.1.1.1
 ·exact h q.1.1.1.1.2
 ·exact h q.1.1.1.2
 ·exact h q.1.1.2
 ·exact h q.1.2
theorem Ep {c:Pixel}:(c.c0 == 0 && (c.c1 == 0 && (c.c2 == 0 && true)) && (c.a == 0 && (c.f == 0 && true)))=(true && true && true && true && true && (false || decide (c=aG))):=by
 obtain ⟨c0,c1,c2,a,f⟩:=c
 rw [Bool.eq_iff_iff]
 simp only [aG,Pixel.mk.injEq,Bool.and_eq_true,beq_iff_eq,Bool.true_and,Bool.false_or,Bool.and_true,decide_eq_true_eq]
 constructor <;> (intro q;omega)
theorem Cm (m:Image):aD Sg 81 [ag (aY m)] (fun r=>r = .b (B (ez m))):=by
 obtain ⟨w,h,solid,color,p0,p1,p2,p3,p4⟩:=m
 have htt:True:=trivial
 have v0:=eo p0
 have v1:=eo p1
 have v2:=eo p2
 have v3:=eo p3
 have v4:=eo p4
 cases solid
 ·refine aC Tryz.func81 [.tmp 2] ?_
  repeat' (first|refine ak ?_|(refine ai (fun K hK => ?_);and_intros;all_goals first|(refine hK _ ?_;clear hK K)|try exact aa))
  refine aS (X:=Int) (fun k=>aZ [(1, .b (.c (.ptr 0 0))),(3, .b (I k))] [(0, .fix ((aY ⟨w,h,false,color,p0,p1,p2,p3,p4⟩).map CV.p))] 1)
   (fun k=>0≤k∧k≤5∧(0<k→aB ⟨w,h,false,color,p0,p1,p2,p3,p4⟩ p0=true)∧(1<k→aB ⟨w,h,false,color,p0,p1,p2,p3,p4⟩ p1=true)∧(2<k→aB ⟨w,h,false,color,p0,p1,p2,p3,p4⟩ p2=true)∧(3<k→aB ⟨w,h,false,color,p0,p1,p2,p3,p4⟩ p3=true)∧(4<k→aB ⟨w,h,false,color,p0,p1,p2,p3,p4⟩ p4=true)) (fun k=>(5 - k).toNat) 0 ?_ ?_ ?_
  ·exact ⟨by omega,by omega,fun q=>absurd q (by omega),fun q=>absurd q (by omega),fun q=>absurd q (by omega),fun q=>absurd q (by omega),fun q=>absurd q (by omega)⟩
  ·refine ay [(1,some 1)] ?_ ?_
   and_intros
   all_goals first|exact ao|skip
  ·rintro k ⟨k0,k1,i0,i1,i2,i3,i4⟩
   have hkv:k=0∨k=1∨k=2∨k=3∨k=4∨k=5:=by omega
   rcases hkv with rfl|rfl|rfl|rfl|rfl|rfl
   ·repeat' (first|refine aj htt ?_|refine ak ?_|((first|refine ai (fun K hK => ?_)|refine aE (fun hg=>v0) ?_);and_intros;all_goals first|(refine hK _ ?_;clear hK K)|try exact aa)|(refine bc (fun hb => ?_) (fun hb => ?_);all_goals try exact aJ)|(refine an ?_;(try clear hB KB);(try clear hK K)))
    ·refine congrArg (fun v=>SV.b (B v)) (Eq.symm ?_)
     refine bg (p:=p0) (by simp) fun q => ?_
     obtain ⟨⟨a,b⟩,c⟩:=(gu rfl).1 q
     rcases hb.2 with (e|e)|e
     ·rw [a] at e;cases e
     ·exact e b
     ·exact e c
    ·rw [ah]
     refine au 1 ?_ ⟨by omega,by omega,fun _=>(gu rfl).2 (hb trivial),fun q=>absurd q (by omega),fun q=>absurd q (by omega),fun q=>absurd q (by omega),fun q=>absurd q (by omega)⟩ (by decide)
     refine ay [(1,some 1)] ?_ ?_
     and_intros
     all_goals first|exact ao|skip
   ·repeat' (first|refine aj htt ?_|refine ak ?_|((first|refine ai (fun K hK => ?_)|refine aE (fun hg=>v1) ?_);and_intros;all_goals first|(refine hK _ ?_;clear hK K)|try exact aa)|(refine bc (fun hb => ?_) (fun hb => ?_);all_goals try exact aJ)|(refine an ?_;(try clear hB KB);(try clear hK K)))
    ·refine congrArg (fun v=>SV.b (B v)) (Eq.symm ?_)
     refine bg (p:=p1) (by simp) fun q => ?_
     obtain ⟨⟨a,b⟩,c⟩:=(gu rfl).1 q
     rcases hb.2 with (e|e)|e
     ·rw [a] at e;cases e
     ·exact e b
     ·exact e c
    ·rw [ah]
     refine au 2 ?_ ⟨by omega,by omega,fun _=>i0 (by omega),fun _=>(gu rfl).2 (hb trivial),fun q=>absurd q (by omega),fun q=>absurd q (by omega),fun q=>absurd q (by omega)⟩ (by decide)
     refine ay [(1,some 1)] ?_ ?_
     and_intros
     all_goals first|exact ao|skip
   ·repeat' (first|refine aj htt ?_|refine ak ?_|((first|refine ai (fun K hK => ?_)|refine aE (fun hg=>v2) ?_);and_intros;all_goals first|(refine hK _ ?_;clear hK K)|try exact aa)|(refine bc (fun hb => ?_) (fun hb => ?_);all_goals try exact aJ)|(refine an ?_;(try clear hB KB);(try clear hK K)))
    ·refine congrArg (fun v=>SV.b (B v)) (Eq.symm ?_)
     refine bg (p:=p2) (by simp) fun q => ?_
     obtain ⟨⟨a,b⟩,c⟩:=(gu rfl).1 q
     rcases hb.2 with (e|e)|e
     ·rw [a] at e;cases e
     ·exact e b
     ·exact e c
    ·rw [ah]
     refine au 3 ?_ ⟨by omega,by omega,fun _=>i0 (by omega),fun _=>i1 (by omega),fun _=>(gu rfl).2 (hb trivial),fun q=>absurd q (by omega),fun q=>absurd q (by omega)⟩ (by decide)
     refine ay [(1,some 1)] ?_ ?_
     and_intros
     all_goals first|exact ao|skip
   ·repeat' (first|refine aj htt ?_|refine ak ?_|((first|refine ai (fun K hK => ?_)|refine aE (fun hg=>v3) ?_);and_intros;all_goals first|(refine hK _ ?_;clear hK K)|try exact aa)|(refine bc (fun hb => ?_) (fun hb => ?_);all_goals try exact aJ)|(refine an ?_;(try clear hB KB);(try clear hK K)))
    ·refine congrArg (fun v=>SV.b (B v)) (Eq.symm ?_)
     refine bg (p:=p3) (by simp) fun q => ?_
     obtain ⟨⟨a,b⟩,c⟩:=(gu rfl).1 q
     rcases hb.2 with (e|e)|e
     ·rw [a] at e;cases e
     ·exact e b
     ·exact e c
    ·rw [ah]
     refine au 4 ?_ ⟨by omega,by omega,fun _=>i0 (by omega),fun _=>i1 (by omega),fun _=>i2 (by omega),fun _=>(gu rfl).2 (hb trivial),fun q=>absurd q (by omega)⟩ (by decide)
     refine ay [(1,some 1)] ?_ ?_
     and_intros
     all_goals first|exact ao|skip
   ·repeat' (first|refine aj htt ?_|refine ak ?_|((first|refine ai (fun K hK => ?_)|refine aE (fun hg=>v4) ?_);and_intros;all_goals first|(refine hK _ ?_;clear hK K)|try exact aa)|(refine bc (fun hb => ?_) (fun hb => ?_);all_goals try exact aJ)|(refine an ?_;(try clear hB KB);(try clear hK K)))
    ·refine congrArg (fun v=>SV.b (B v)) (Eq.symm ?_)
     refine bg (p:=p4) (by simp) fun q => ?_
     obtain ⟨⟨a,b⟩,c⟩:=(gu rfl).1 q
     rcases hb.2 with (e|e)|e
     ·rw [a] at e;cases e
     ·exact e b
     ·exact e c
    ·rw [ah]
     refine au 5 ?_ ⟨by omega,by omega,fun _=>i0 (by omega),fun _=>i1 (by omega),fun _=>i2 (by omega),fun _=>i3 (by omega),fun _=>(gu rfl).2 (hb trivial)⟩ (by decide)
     refine ay [(1,some 1)] ?_ ?_
     and_intros
     all_goals first|exact ao|skip
   ·repeat' (first|refine aj htt ?_|refine ak ?_|((first|refine ai (fun K hK => ?_)|refine wO ?_);and_intros;all_goals first|(refine hK _ ?_;clear hK K)|try exact aa)|(refine an ?_;(try clear hB KB);(try clear hK K)))
    refine congrArg (fun v=>SV.b (B v)) ?_
    unfold ez
    dsimp only
    rw [i0 (by omega),i1 (by omega),i2 (by omega),i3 (by omega),i4 (by omega)]
    exact Ep
 ·refine aC Tryz.func81 [.tmp 2] ?_
  repeat' (first|refine ak ?_|(refine ai (fun K hK => ?_);and_intros;all_goals first|(refine hK _ ?_;clear hK K)|try exact aa))
  refine aS (X:=Int) (fun k=>aZ [(1, .b (.c (.ptr 0 0))),(3, .b (I k))] [(0, .fix ((aY ⟨w,h,true,color,p0,p1,p2,p3,p4⟩).map CV.p))] 1)
   (fun k=>0≤k∧k≤5∧(0<k→aB ⟨w,h,true,color,p0,p1,p2,p3,p4⟩ p0=true)∧(1<k→aB ⟨w,h,true,color,p0,p1,p2,p3,p4⟩ p1=true)∧(2<k→aB ⟨w,h,true,color,p0,p1,p2,p3,p4⟩ p2=true)∧(3<k→aB ⟨w,h,true,color,p0,p1,p2,p3,p4⟩ p3=true)∧(4<k→aB ⟨w,h,true,color,p0,p1,p2,p3,p4⟩ p4=true)) (fun k=>(5 - k).toNat) 0 ?_ ?_ ?_
  ·exact ⟨by omega,by omega,fun q=>absurd q (by omega),fun q=>absurd q (by omega),fun q=>absurd q (by omega),fun q=>absurd q (by omega),fun q=>absurd q (by omega)⟩
  ·refine ay [(1,some 1)] ?_ ?_
   and_intros
   all_goals first|exact ao|skip
  ·rintro k ⟨k0,k1,i0,i1,i2,i3,i4⟩
   have hkv:k=0∨k=1∨k=2∨k=3∨k=4∨k=5:=by omega
   rcases hkv with rfl|rfl|rfl|rfl|rfl|rfl
   ·repeat' (first|refine aj htt ?_|refine ak ?_|((first|refine ai (fun K hK => ?_)|refine aE (fun hg=>v0) ?_);and_intros;all_goals first|(refine hK _ ?_;clear hK K)|try exact aa)|(refine bc (fun hb => ?_) (fun hb => ?_);all_goals try exact aJ)|(refine an ?_;(try clear hB KB);(try clear hK K)))
    ·refine congrArg (fun v=>SV.b (B v)) (Eq.symm ?_)
     refine bg (p:=p0) (by simp) fun q => ?_
     have:=(gq rfl).1 q
     omega
    ·rw [ah]
     refine au 1 ?_ ⟨by omega,by omega,fun _=>(gq rfl).2 hb,fun q=>absurd q (by omega),fun q=>absurd q (by omega),fun q=>absurd q (by omega),fun q=>absurd q (by omega)⟩ (by decide)
     refine ay [(1,some 1)] ?_ ?_
     and_intros
     all_goals first|exact ao|skip
   ·repeat' (first|refine aj htt ?_|refine ak ?_|((first|refine ai (fun K hK => ?_)|refine aE (fun hg=>v1) ?_);and_intros;all_goals first|(refine hK _ ?_;clear hK K)|try exact aa)|(refine bc (fun hb => ?_) (fun hb => ?_);all_goals try exact aJ)|(refine an ?_;(try clear hB KB);(try clear hK K)))
    ·refine congrArg (fun v=>SV.b (B v)) (Eq.symm ?_)
     refine bg (p:=p1) (by simp) fun q => ?_
     have:=(gq rfl).1 q
     omega
    ·rw [ah]
     refine au 2 ?_ ⟨by omega,by omega,fun _=>i0 (by omega),fun _=>(gq rfl).2 hb,fun q=>absurd q (by omega),fun q=>absurd q (by omega),fun q=>absurd q (by omega)⟩ (by decide)
     refine ay [(1,some 1)] ?_ ?_
     and_intros
     all_goals first|exact ao|skip
   ·repeat' (first|refine aj htt ?_|refine ak ?_|((first|refine ai (fun K hK => ?_)|refine aE (fun hg=>v2) ?_);and_intros;all_goals first|(refine hK _ ?_;clear hK K)|try exact aa)|(refine bc (fun hb => ?_) (fun hb => ?_);all_goals try exact aJ)|(refine an ?_;(try clear hB KB);(try clear hK K)))
    ·refine congrArg (fun v=>SV.b (B v)) (Eq.symm ?_)
     refine bg (p:=p2) (by simp) fun q => ?_
     have:=(gq rfl).1 q
     omega
    ·rw [ah]
     refine au 3 ?_ ⟨by omega,by omega,fun _=>i0 (by omega),fun _=>i1 (by omega),fun _=>(gq rfl).2 hb,fun q=>absurd q (by omega),fun q=>absurd q (by omega)⟩ (by decide)
     refine ay [(1,some 1)] ?_ ?_
     and_intros
     all_goals first|exact ao|skip
   ·repeat' (first|refine aj htt ?_|refine ak ?_|((first|refine ai (fun K hK => ?_)|refine aE (fun hg=>v3) ?_);and_intros;all_goals first|(refine hK _ ?_;clear hK K)|try exact aa)|(refine bc (fun hb => ?_) (fun hb => ?_);all_goals try exact aJ)|(refine an ?_;(try clear hB KB);(try clear hK K)))
    ·refine congrArg (fun v=>SV.b (B v)) (Eq.symm ?_)
     refine bg (p:=p3) (by simp) fun q => ?_
     have:=(gq rfl).1 q
     omega
    ·rw [ah]
     refine au 4 ?_ ⟨by omega,by omega,fun _=>i0 (by omega),fun _=>i1 (by omega),fun _=>i2 (by omega),fun _=>(gq rfl).2 hb,fun q=>absurd q (by omega)⟩ (by decide)
     refine ay [(1,some 1)] ?_ ?_
     and_intros
     all_goals first|exact ao|skip
   ·repeat' (first|refine aj htt ?_|refine ak ?_|((first|refine ai (fun K hK => ?_)|refine aE (fun hg=>v4) ?_);and_intros;all_goals first|(refine hK _ ?_;clear hK K)|try exact aa)|(refine bc (fun hb => ?_) (fun hb => ?_);all_goals try exact aJ)|(refine an ?_;(try clear hB KB);(try clear hK K)))
    ·refine congrArg (fun v=>SV.b (B v)) (Eq.symm ?_)
     refine bg (p:=p4) (by simp) fun q => ?_
     have:=(gq rfl).1 q
     omega
    ·rw [ah]
     refine au 5 ?_ ⟨by omega,by omega,fun _=>i0 (by omega),fun _=>i1 (by omega),fun _=>i2 (by omega),fun _=>i3 (by omega),fun _=>(gq rfl).2 hb⟩ (by decide)
     refine ay [(1,some 1)] ?_ ?_
     and_intros
     all_goals first|exact ao|skip
   ·repeat' (first|refine aj htt ?_|refine ak ?_|((first|refine ai (fun K hK => ?_)|refine wO ?_);and_intros;all_goals first|(refine hK _ ?_;clear hK K)|try exact aa)|(refine an ?_;(try clear hB KB);(try clear hK K)))
    refine congrArg (fun v=>SV.b (B v)) ?_
    unfold ez
    dsimp only
    rw [i0 (by omega),i1 (by omega),i2 (by omega),i3 (by omega),i4 (by omega)]
    rfl
theorem vp (m:Image):aD Sg 70 [ag (aY m)] (fun r=>r = .b (B (aW m))):=by
 have h1:=jT m.w m.h
 have h2:=Cm m
 rw [show aW m=(bU m.w m.h && ez m) from rfl]
 refine aC Tryz.func70 [.tmp 2] ?_
 repeat' (first|with_reducible exact cn|((first|refine ai (fun K hK => ?_)|refine ae (h1) ?_|refine aE (fun hg=>h2) ?_);and_intros;all_goals first|(refine hK _ ?_;clear hK K)|try exact aa)|(refine an ?_;(try clear hB KB);(try clear hK K)))
end Go.Proofs.YtmfblbbemekkoaaGreatDoor
