/- Part of the proof: V2. -/
import Derived.Test.YtcbifofjjpfbcaaGreatDoorM19
set_option linter.unusedSimpArgs false
set_option linter.unusedVariables false
set_option maxHeartbeats 2000000
set_option maxRecDepth 16000
namespace Go.Proofs.YtcbifofjjpfbcaaGreatDoor
open Go Go.SL
open Go.RowKit (wrap64)
def eG (m:Image):Bool:=aO m m.p0 && aO m m.p1 && aO m m.p2 && aO m m.p3 && aO m m.p4 && (m.solid || decide (m.color=ba))
theorem ja {m:Image} {p:Plane} (hs:m.solid=true):aO m p=true↔((p.w=0∧p.h=0)∧p.stride=0)∧(p.s.length:Int)≤0:=by
 unfold aO
 rw [if_pos hs]
 simp only [Bool.and_eq_true,decide_eq_true_eq]
 omega
theorem jb {m:Image} {p:Plane} (hs:m.solid=false):aO m p=true↔(de p=true∧p.w=m.w)∧p.h=m.h:=by
 unfold aO
 rw [hs,if_neg (by decide)]
 simp only [Bool.and_eq_true,decide_eq_true_eq]
theorem bK {m:Image} {p:Plane} (hp:p=m.p0∨p=m.p1∨p=m.p2∨p=m.p3∨p=m.p4) (h:¬ aO m p=true):eG m=false:=by
 rw [← Bool.not_eq_true]
 intro q
 unfold eG at q
 simp only [Bool.and_eq_true] at q
 rcases hp with rfl|rfl|rfl|rfl|rfl
 ·exact h q.1.1.1.1.1
 ·exact h q.1.1.1.1.2
 ·exact h q.1.1.1.2
 ·exact h q.1.1.2
 ·exact h q.1.2
theorem HT {c:Pixel}:(c.c0 == 0 && (c.c1 == 0 && (c.c2 == 0 && true)) && (c.a == 0 && (c.f == 0 && true)))=(true && true && true && true && true && (false || decide (c=ba))):=by
 obtain ⟨c0,c1,c2,a,f⟩:=c
 rw [Bool.eq_iff_iff]
 simp only [ba,Pixel.mk.injEq,Bool.and_eq_true,beq_iff_eq,Bool.true_and,Bool.false_or,Bool.and_true,decide_eq_true_eq]
 constructor <;> (intro q;omega)
theorem qS (m:Image):aF Sg 46 [ag (bl m)] (fun r=>r = .b (B (eG m))):=by
 obtain ⟨w,h,solid,color,p0,p1,p2,p3,p4⟩:=m
 have htt:True:=trivial
 have v0:=fN p0
 have v1:=fN p1
 have v2:=fN p2
 have v3:=fN p3
 have v4:=fN p4
 cases solid
 ·refine aI Tryz.func46 [.tmp 2] ?_
  repeat' (first|refine an ?_|(refine aj (fun K hK => ?_);and_intros;all_goals first|(refine hK _ ?_;clear hK K)|try exact aa))
  refine aM (X:=Int) (fun k=>bg [(1, .b (.c (.ptr 0 0))),(3, .b (I k))] [(0, .fix ((bl ⟨w,h,false,color,p0,p1,p2,p3,p4⟩).map CV.p))] 1)
   (fun k=>0≤k∧k≤5∧(0<k→aO ⟨w,h,false,color,p0,p1,p2,p3,p4⟩ p0=true)∧(1<k→aO ⟨w,h,false,color,p0,p1,p2,p3,p4⟩ p1=true)∧(2<k→aO ⟨w,h,false,color,p0,p1,p2,p3,p4⟩ p2=true)∧(3<k→aO ⟨w,h,false,color,p0,p1,p2,p3,p4⟩ p3=true)∧(4<k→aO ⟨w,h,false,color,p0,p1,p2,p3,p4⟩ p4=true)) (fun k=>(5 - k).toNat) 0 ?_ ?_ ?_
  ·exact ⟨by omega,by omega,fun q=>absurd q (by omega),fun q=>absurd q (by omega),fun q=>absurd q (by omega),fun q=>absurd q (by omega),fun q=>absurd q (by omega)⟩
  ·refine aE [(1,some 1)] ?_ ?_
   and_intros
   all_goals first|exact aw|skip
  ·rintro k ⟨k0,k1,i0,i1,i2,i3,i4⟩
   have hkv:k=0∨k=1∨k=2∨k=3∨k=4∨k=5:=by omega
   rcases hkv with rfl|rfl|rfl|rfl|rfl|rfl
   ·repeat' (first|refine ak htt ?_|refine an ?_|((first|refine aj (fun K hK => ?_)|refine aq (fun hg=>v0) ?_);and_intros;all_goals first|(refine hK _ ?_;clear hK K)|try exact aa)|(refine aH (fun hb => ?_) (fun hb => ?_);all_goals try exact ax)|(refine ai ?_;(try clear hB KB);(try clear hK K)))
    ·refine congrArg (fun v=>SV.b (B v)) (Eq.symm ?_)
     refine bK (p:=p0) (by simp) fun q => ?_
     obtain ⟨⟨a,b⟩,c⟩:=(jb rfl).1 q
     rcases hb.2 with (e|e)|e
     ·rw [a] at e;cases e
     ·exact e b
     ·exact e c
    ·rw [ah]
     refine au 1 ?_ ⟨by omega,by omega,fun _=>(jb rfl).2 (hb trivial),fun q=>absurd q (by omega),fun q=>absurd q (by omega),fun q=>absurd q (by omega),fun q=>absurd q (by omega)⟩ (by decide)
     refine aE [(1,some 1)] ?_ ?_
     and_intros
     all_goals first|exact aw|skip
   ·repeat' (first|refine ak htt ?_|refine an ?_|((first|refine aj (fun K hK => ?_)|refine aq (fun hg=>v1) ?_);and_intros;all_goals first|(refine hK _ ?_;clear hK K)|try exact aa)|(refine aH (fun hb => ?_) (fun hb => ?_);all_goals try exact ax)|(refine ai ?_;(try clear hB KB);(try clear hK K)))
    ·refine congrArg (fun v=>SV.b (B v)) (Eq.symm ?_)
     refine bK (p:=p1) (by simp) fun q => ?_
     obtain ⟨⟨a,b⟩,c⟩:=(jb rfl).1 q
     rcases hb.2 with (e|e)|e
     ·rw [a] at e;cases e
     ·exact e b
     ·exact e c
    ·rw [ah]
     refine au 2 ?_ ⟨by omega,by omega,fun _=>i0 (by omega),fun _=>(jb rfl).2 (hb trivial),fun q=>absurd q (by omega),fun q=>absurd q (by omega),fun q=>absurd q (by omega)⟩ (by decide)
     refine aE [(1,some 1)] ?_ ?_
     and_intros
     all_goals first|exact aw|skip
   ·repeat' (first|refine ak htt ?_|refine an ?_|((first|refine aj (fun K hK => ?_)|refine aq (fun hg=>v2) ?_);and_intros;all_goals first|(refine hK _ ?_;clear hK K)|try exact aa)|(refine aH (fun hb => ?_) (fun hb => ?_);all_goals try exact ax)|(refine ai ?_;(try clear hB KB);(try clear hK K)))
    ·refine congrArg (fun v=>SV.b (B v)) (Eq.symm ?_)
     refine bK (p:=p2) (by simp) fun q => ?_
     obtain ⟨⟨a,b⟩,c⟩:=(jb rfl).1 q
     rcases hb.2 with (e|e)|e
     ·rw [a] at e;cases e
     ·exact e b
     ·exact e c
    ·rw [ah]
     refine au 3 ?_ ⟨by omega,by omega,fun _=>i0 (by omega),fun _=>i1 (by omega),fun _=>(jb rfl).2 (hb trivial),fun q=>absurd q (by omega),fun q=>absurd q (by omega)⟩ (by decide)
     refine aE [(1,some 1)] ?_ ?_
     and_intros
     all_goals first|exact aw|skip
   ·repeat' (first|refine ak htt ?_|refine an ?_|((first|refine aj (fun K hK => ?_)|refine aq (fun hg=>v3) ?_);and_intros;all_goals first|(refine hK _ ?_;clear hK K)|try exact aa)|(refine aH (fun hb => ?_) (fun hb => ?_);all_goals try exact ax)|(refine ai ?_;(try clear hB KB);(try clear hK K)))
    ·refine congrArg (fun v=>SV.b (B v)) (Eq.symm ?_)
     refine bK (p:=p3) (by simp) fun q => ?_
     obtain ⟨⟨a,b⟩,c⟩:=(jb rfl).1 q
     rcases hb.2 with (e|e)|e
     ·rw [a] at e;cases e
     ·exact e b
     ·exact e c
    ·rw [ah]
     refine au 4 ?_ ⟨by omega,by omega,fun _=>i0 (by omega),fun _=>i1 (by omega),fun _=>i2 (by omega),fun _=>(jb rfl).2 (hb trivial),fun q=>absurd q (by omega)⟩ (by decide)
     refine aE [(1,some 1)] ?_ ?_
     and_intros
     all_goals first|exact aw|skip
   ·repeat' (first|refine ak htt ?_|refine an ?_|((first|refine aj (fun K hK => ?_)|refine aq (fun hg=>v4) ?_);and_intros;all_goals first|(refine hK _ ?_;clear hK K)|try exact aa)|(refine aH (fun hb => ?_) (fun hb => ?_);all_goals try exact ax)|(refine ai ?_;(try clear hB KB);(try clear hK K)))
    ·refine congrArg (fun v=>SV.b (B v)) (Eq.symm ?_)
     refine bK (p:=p4) (by simp) fun q => ?_
     obtain ⟨⟨a,b⟩,c⟩:=(jb rfl).1 q
     rcases hb.2 with (e|e)|e
     ·rw [a] at e;cases e
     ·exact e b
     ·exact e c
    ·rw [ah]
     refine au 5 ?_ ⟨by omega,by omega,fun _=>i0 (by omega),fun _=>i1 (by omega),fun _=>i2 (by omega),fun _=>i3 (by omega),fun _=>(jb rfl).2 (hb trivial)⟩ (by decide)
     refine aE [(1,some 1)] ?_ ?_
     and_intros
     all_goals first|exact aw|skip
   ·repeat' (first|refine ak htt ?_|refine an ?_|((first|refine aj (fun K hK => ?_)|refine aY ?_);and_intros;all_goals first|(refine hK _ ?_;clear hK K)|try exact aa)|(refine ai ?_;(try clear hB KB);(try clear hK K)))
    refine congrArg (fun v=>SV.b (B v)) ?_
    unfold eG
    dsimp only
    rw [i0 (by omega),i1 (by omega),i2 (by omega),i3 (by omega),i4 (by omega)]
    exact HT
 ·refine aI Tryz.func46 [.tmp 2] ?_
  repeat' (first|refine an ?_|(refine aj (fun K hK => ?_);and_intros;all_goals first|(refine hK _ ?_;clear hK K)|try exact aa))
  refine aM (X:=Int) (fun k=>bg [(1, .b (.c (.ptr 0 0))),(3, .b (I k))] [(0, .fix ((bl ⟨w,h,true,color,p0,p1,p2,p3,p4⟩).map CV.p))] 1)
   (fun k=>0≤k∧k≤5∧(0<k→aO ⟨w,h,true,color,p0,p1,p2,p3,p4⟩ p0=true)∧(1<k→aO ⟨w,h,true,color,p0,p1,p2,p3,p4⟩ p1=true)∧(2<k→aO ⟨w,h,true,color,p0,p1,p2,p3,p4⟩ p2=true)∧(3<k→aO ⟨w,h,true,color,p0,p1,p2,p3,p4⟩ p3=true)∧(4<k→aO ⟨w,h,true,color,p0,p1,p2,p3,p4⟩ p4=true)) (fun k=>(5 - k).toNat) 0 ?_ ?_ ?_
  ·exact ⟨by omega,by omega,fun q=>absurd q (by omega),fun q=>absurd q (by omega),fun q=>absurd q (by omega),fun q=>absurd q (by omega),fun q=>absurd q (by omega)⟩
  ·refine aE [(1,some 1)] ?_ ?_
   and_intros
   all_goals first|exact aw|skip
  ·rintro k ⟨k0,k1,i0,i1,i2,i3,i4⟩
   have hkv:k=0∨k=1∨k=2∨k=3∨k=4∨k=5:=by omega
   rcases hkv with rfl|rfl|rfl|rfl|rfl|rfl
   ·repeat' (first|refine ak htt ?_|refine an ?_|((first|refine aj (fun K hK => ?_)|refine aq (fun hg=>v0) ?_);and_intros;all_goals first|(refine hK _ ?_;clear hK K)|try exact aa)|(refine aH (fun hb => ?_) (fun hb => ?_);all_goals try exact ax)|(refine ai ?_;(try clear hB KB);(try clear hK K)))
    ·refine congrArg (fun v=>SV.b (B v)) (Eq.symm ?_)
     refine bK (p:=p0) (by simp) fun q => ?_
     have:=(ja rfl).1 q
     omega
    ·rw [ah]
     refine au 1 ?_ ⟨by omega,by omega,fun _=>(ja rfl).2 hb,fun q=>absurd q (by omega),fun q=>absurd q (by omega),fun q=>absurd q (by omega),fun q=>absurd q (by omega)⟩ (by decide)
     refine aE [(1,some 1)] ?_ ?_
     and_intros
     all_goals first|exact aw|skip
   ·repeat' (first|refine ak htt ?_|refine an ?_|((first|refine aj (fun K hK => ?_)|refine aq (fun hg=>v1) ?_);and_intros;all_goals first|(refine hK _ ?_;clear hK K)|try exact aa)|(refine aH (fun hb => ?_) (fun hb => ?_);all_goals try exact ax)|(refine ai ?_;(try clear hB KB);(try clear hK K)))
    ·refine congrArg (fun v=>SV.b (B v)) (Eq.symm ?_)
     refine bK (p:=p1) (by simp) fun q => ?_
     have:=(ja rfl).1 q
     omega
    ·rw [ah]
     refine au 2 ?_ ⟨by omega,by omega,fun _=>i0 (by omega),fun _=>(ja rfl).2 hb,fun q=>absurd q (by omega),fun q=>absurd q (by omega),fun q=>absurd q (by omega)⟩ (by decide)
     refine aE [(1,some 1)] ?_ ?_
     and_intros
     all_goals first|exact aw|skip
   ·repeat' (first|refine ak htt ?_|refine an ?_|((first|refine aj (fun K hK => ?_)|refine aq (fun hg=>v2) ?_);and_intros;all_goals first|(refine hK _ ?_;clear hK K)|try exact aa)|(refine aH (fun hb => ?_) (fun hb => ?_);all_goals try exact ax)|(refine ai ?_;(try clear hB KB);(try clear hK K)))
    ·refine congrArg (fun v=>SV.b (B v)) (Eq.symm ?_)
     refine bK (p:=p2) (by simp) fun q => ?_
     have:=(ja rfl).1 q
     omega
    ·rw [ah]
     refine au 3 ?_ ⟨by omega,by omega,fun _=>i0 (by omega),fun _=>i1 (by omega),fun _=>(ja rfl).2 hb,fun q=>absurd q (by omega),fun q=>absurd q (by omega)⟩ (by decide)
     refine aE [(1,some 1)] ?_ ?_
     and_intros
     all_goals first|exact aw|skip
   ·repeat' (first|refine ak htt ?_|refine an ?_|((first|refine aj (fun K hK => ?_)|refine aq (fun hg=>v3) ?_);and_intros;all_goals first|(refine hK _ ?_;clear hK K)|try exact aa)|(refine aH (fun hb => ?_) (fun hb => ?_);all_goals try exact ax)|(refine ai ?_;(try clear hB KB);(try clear hK K)))
    ·refine congrArg (fun v=>SV.b (B v)) (Eq.symm ?_)
     refine bK (p:=p3) (by simp) fun q => ?_
     have:=(ja rfl).1 q
     omega
    ·rw [ah]
     refine au 4 ?_ ⟨by omega,by omega,fun _=>i0 (by omega),fun _=>i1 (by omega),fun _=>i2 (by omega),fun _=>(ja rfl).2 hb,fun q=>absurd q (by omega)⟩ (by decide)
     refine aE [(1,some 1)] ?_ ?_
     and_intros
     all_goals first|exact aw|skip
   ·repeat' (first|refine ak htt ?_|refine an ?_|((first|refine aj (fun K hK => ?_)|refine aq (fun hg=>v4) ?_);and_intros;all_goals first|(refine hK _ ?_;clear hK K)|try exact aa)|(refine aH (fun hb => ?_) (fun hb => ?_);all_goals try exact ax)|(refine ai ?_;(try clear hB KB);(try clear hK K)))
    ·refine congrArg (fun v=>SV.b (B v)) (Eq.symm ?_)
     refine bK (p:=p4) (by simp) fun q => ?_
     have:=(ja rfl).1 q
     omega
    ·rw [ah]
     refine au 5 ?_ ⟨by omega,by omega,fun _=>i0 (by omega),fun _=>i1 (by omega),fun _=>i2 (by omega),fun _=>i3 (by omega),fun _=>(ja rfl).2 hb⟩ (by decide)
     refine aE [(1,some 1)] ?_ ?_
     and_intros
     all_goals first|exact aw|skip
   ·repeat' (first|refine ak htt ?_|refine an ?_|((first|refine aj (fun K hK => ?_)|refine aY ?_);and_intros;all_goals first|(refine hK _ ?_;clear hK K)|try exact aa)|(refine ai ?_;(try clear hB KB);(try clear hK K)))
    refine congrArg (fun v=>SV.b (B v)) ?_
    unfold eG
    dsimp only
    rw [i0 (by omega),i1 (by omega),i2 (by omega),i3 (by omega),i4 (by omega)]
    rfl
theorem xX (m:Image):aF Sg 54 [ag (bl m)] (fun r=>r = .b (B (bp m))):=by
 have h1:=gN m.w m.h
 have h2:=qS m
 rw [show bp m=(cl m.w m.h && eG m) from rfl]
 refine aI Tryz.func54 [.tmp 2] ?_
 repeat' (first|with_reducible exact aK|((first|refine aj (fun K hK => ?_)|refine ae (h1) ?_|refine aq (fun hg=>h2) ?_);and_intros;all_goals first|(refine hK _ ?_;clear hK K)|try exact aa)|(refine ai ?_;(try clear hB KB);(try clear hK K)))
theorem EC (m:Image) (x y:Int):aF Sg 28 [ag (bl m),I x,I y] (fun r=>r = .b (ag (aW (cu m x y)))):=DB m x y (xX m)
end Go.Proofs.YtcbifofjjpfbcaaGreatDoor
