/- Part of the proof: V1, WA, WD, WE. -/
import Derived.Test.YtmfblbbemekkoaaGreatDoorK15
import Derived.Test.YtmfblbbemekkoaaGreatDoorK18
set_option linter.unusedSimpArgs false
set_option linter.unusedVariables false
set_option maxHeartbeats 2000000
set_option maxRecDepth 16000
namespace Go.Proofs.YtmfblbbemekkoaaGreatDoor
open Go Go.SL
open Go.RowKit (wrap64)
theorem eo (p:Plane):aD Sg 130 [ag (rJ p)] (fun r=>r = .b (B (cq p))):=by
 have hf:=jT p.w p.h
 unfold cq
 by_cases h:bU p.w p.h=true∧p.w≤p.stride∧p.stride≤16777216
 ·obtain ⟨h1,h2,h3⟩:=h
  obtain ⟨b1,b2,b3,b4,b5,b6⟩:=cS h1
  have e1:0≤(p.h - 1) * p.stride∧(p.h - 1) * p.stride≤16777216 * 16777216:=⟨aq (by omega) (by omega),aw (by omega) (by omega) (by omega) (by omega)⟩
  have g2:decide (p.stride≥p.w)=true:=decide_eq_true h2
  have g3:decide (p.stride≤16777216)=true:=decide_eq_true h3
  rw [h1] at hf ⊢
  refine aC Tryz.func130 [.tmp 2] ?_
  repeat' (first|((first|refine ai (fun K hK => ?_)|refine ae (hf) ?_);and_intros;all_goals first|(refine hK _ ?_;clear hK K)|try exact aa)|(refine an ?_;(try clear hB KB);(try clear hK K)))
  rfl
 ·refine aC Tryz.func130 [.tmp 2] ?_
  repeat' (first|((first|refine ai (fun K hK => ?_)|refine ae (hf) ?_);and_intros;all_goals first|(refine hK _ ?_;clear hK K)|try exact aa)|(refine an ?_;(try clear hB KB);(try clear hK K)))
  have hz:(bU p.w p.h && decide (p.stride≥p.w) && decide (p.stride≤16777216))=false:=by
   rw [← Bool.not_eq_true,Bool.and_eq_true,Bool.and_eq_true,decide_eq_true_eq,decide_eq_true_eq]
   exact fun q=>h ⟨q.1.1,q.1.2,q.2⟩
  rw [hz]
  rfl
theorem en {m : Image} {p : Plane} {x y : Int} (hs : m.solid = false) (h : aB m p = true) (hx : 0 ≤ x) (hxm : x < m.w) (hy : 0 ≤ y) (hym : y < m.h) :
  (0≤y * p.stride∧y * p.stride≤16777216 * 16777216)∧0≤y * p.stride+x∧y * p.stride+x<p.s.length∧x≤16777216:=by
 unfold aB cq at h
 rw [hs,if_neg (by decide)] at h
 simp only [Bool.and_eq_true,decide_eq_true_eq] at h
 obtain ⟨⟨⟨⟨⟨hf,h1⟩,h2⟩,h3⟩,h4⟩,h5⟩:=h
 obtain ⟨b1,b2,b3,b4,b5,b6⟩:=cS hf
 have e1:0≤y * p.stride∧y * p.stride≤16777216 * 16777216:=⟨aq hy (by omega),aw (by omega) h2 (by omega) (by omega)⟩
 have e2:y * p.stride≤(p.h - 1) * p.stride:=aw (by omega) (Int.le_refl _) (by omega) (by omega)
 exact ⟨e1,by omega,by omega,by omega⟩
theorem EY (m:Image) (x y:Int) (hf:aW m=true) (hx:0≤x) (hxm:x<m.w) (hy:0≤y) (hym:y<m.h):aD Sg 71 [ag (aY m),I x,I y] (fun r=>r = .b (ag (aH (eG m x y)))):=by
 unfold eG
 by_cases hs:m.solid=true
 ·rw [if_pos hs]
  refine aC Tryz.func71 [.cell 6 41] ?_
  repeat' (first|refine aj hs ?_|refine ak ?_|(refine ai (fun K hK => ?_);and_intros;all_goals first|(refine hK _ ?_;clear hK K)|try exact aa)|(refine an ?_;(try clear hB KB);(try clear hK K)))
  rfl
 ·rw [if_neg hs]
  have hs':m.solid=false:=by simpa using hs
  unfold aW at hf
  simp only [Bool.and_eq_true] at hf
  obtain ⟨_,⟨⟨⟨⟨⟨f0,f1⟩,f2⟩,f3⟩,f4⟩,_⟩⟩:=hf
  obtain ⟨a0,b0,c0,d0⟩:=en hs' f0 hx hxm hy hym
  obtain ⟨a1,b1,c1,_⟩:=en hs' f1 hx hxm hy hym
  obtain ⟨a2,b2,c2,_⟩:=en hs' f2 hx hxm hy hym
  obtain ⟨a3,b3,c3,_⟩:=en hs' f3 hx hxm hy hym
  obtain ⟨a4,b4,c4,_⟩:=en hs' f4 hx hxm hy hym
  refine aC Tryz.func71 [.cell 6 41] ?_
  repeat' (first|(apply qU;(case hc=>exact eC);(case ht=>(simp only [Int.toNat_natCast,Int.reduceBEq,Int.reduceBNe,Int.reduceLT,Int.reduceLE,decide_true,decide_false,yj,hs'];done)))|refine ak ?_|(refine ai (fun K hK => ?_);and_intros;all_goals first|(refine hK _ ?_;clear hK K)|try exact aa))
  refine aS (X:=Int) (fun k=>aZ [(1, .b (I x)),(2, .b (I y)),(3, .b (.c (.ptr 0 0))),(6, .b (.c (.ptr 1 0))),(7, .b (.c (.ptr 2 0))),(8, .b (I k))]
   [(0, .fix ((aY m).map CV.p)),(1, .fix ((aH aG).map CV.p)),(2, .fix [.p (PI (if 0<k then y * m.p0.stride+x else 0)), .p (PI (if 1<k then y * m.p1.stride+x else 0)), .p (PI (if 2<k then y * m.p2.stride+x else 0)), .p (PI (if 3<k then y * m.p3.stride+x else 0)), .p (PI (if 4<k then y * m.p4.stride+x else 0))])] 3) (fun k=>0≤k∧k≤5) (fun k=>(5 - k).toNat) 0 ?_ ?_ ?_
  ·omega
  ·refine ay [(1,some 1),(2,some 2)] ?_ ?_
   and_intros
   all_goals first|exact ao|skip
  ·intro k hk
   have hkv:k=0∨k=1∨k=2∨k=3∨k=4∨k=5:=by omega
   rcases hkv with rfl|rfl|rfl|rfl|rfl|rfl
   ·repeat' (first|(apply gY;(case hc=>exact eC);(case ht=>(simp only [Int.toNat_natCast,Int.reduceBEq,Int.reduceBNe,Int.reduceLT,Int.reduceLE,decide_true,decide_false,yj,hs'];done)))|refine ak ?_|(refine ai (fun K hK => ?_);and_intros;all_goals first|(refine hK _ ?_;clear hK K)|try exact aa))
    rw [ah]
    refine au 1 ?_ (by omega) (by decide)
    refine ay [(1,some 1),(2,some 2)] ?_ ?_
    and_intros
    all_goals first|exact ao|skip
   ·repeat' (first|(apply gY;(case hc=>exact eC);(case ht=>(simp only [Int.toNat_natCast,Int.reduceBEq,Int.reduceBNe,Int.reduceLT,Int.reduceLE,decide_true,decide_false,yj,hs'];done)))|refine ak ?_|(refine ai (fun K hK => ?_);and_intros;all_goals first|(refine hK _ ?_;clear hK K)|try exact aa))
    rw [ah]
    refine au 2 ?_ (by omega) (by decide)
    refine ay [(1,some 1),(2,some 2)] ?_ ?_
    and_intros
    all_goals first|exact ao|skip
   ·repeat' (first|(apply gY;(case hc=>exact eC);(case ht=>(simp only [Int.toNat_natCast,Int.reduceBEq,Int.reduceBNe,Int.reduceLT,Int.reduceLE,decide_true,decide_false,yj,hs'];done)))|refine ak ?_|(refine ai (fun K hK => ?_);and_intros;all_goals first|(refine hK _ ?_;clear hK K)|try exact aa))
    rw [ah]
    refine au 3 ?_ (by omega) (by decide)
    refine ay [(1,some 1),(2,some 2)] ?_ ?_
    and_intros
    all_goals first|exact ao|skip
   ·repeat' (first|(apply gY;(case hc=>exact eC);(case ht=>(simp only [Int.toNat_natCast,Int.reduceBEq,Int.reduceBNe,Int.reduceLT,Int.reduceLE,decide_true,decide_false,yj,hs'];done)))|refine ak ?_|(refine ai (fun K hK => ?_);and_intros;all_goals first|(refine hK _ ?_;clear hK K)|try exact aa))
    rw [ah]
    refine au 4 ?_ (by omega) (by decide)
    refine ay [(1,some 1),(2,some 2)] ?_ ?_
    and_intros
    all_goals first|exact ao|skip
   ·repeat' (first|(apply gY;(case hc=>exact eC);(case ht=>(simp only [Int.toNat_natCast,Int.reduceBEq,Int.reduceBNe,Int.reduceLT,Int.reduceLE,decide_true,decide_false,yj,hs'];done)))|refine ak ?_|(refine ai (fun K hK => ?_);and_intros;all_goals first|(refine hK _ ?_;clear hK K)|try exact aa))
    rw [ah]
    refine au 5 ?_ (by omega) (by decide)
    refine ay [(1,some 1),(2,some 2)] ?_ ?_
    and_intros
    all_goals first|exact ao|skip
   ·repeat' (first|(apply qU;(case hc=>exact eC);(case ht=>(simp only [Int.toNat_natCast,Int.reduceBEq,Int.reduceBNe,Int.reduceLT,Int.reduceLE,decide_true,decide_false,yj,hs'];done)))|refine ak ?_|(refine ai (fun K hK => ?_);and_intros;all_goals first|(refine hK _ ?_;clear hK K)|try exact aa)|(refine an ?_;(try clear hB KB);(try clear hK K)))
    rfl
end Go.Proofs.YtmfblbbemekkoaaGreatDoor
set_option maxHeartbeats 4000000
set_option maxRecDepth 16000
namespace Go.Proofs.YtmfblbbemekkoaaGreatDoor
open Go Go.SL
open Go.RowKit (wrap64)
attribute [local go_sem] qE mb
theorem Nx (x:Ex) (h:ExOk x):aD Sg 246 [ag (mb x),bN (cD x)] (fun r=>r = .b (B (ox x 2 (2 * cD x+1)))):=by
 obtain ⟨p0,p1,q0,q1,r0,r1,d0,d1,_⟩:=id h
 have hES:ExS x:=⟨p0,p1,q0,by omega,r0,r1,by omega,d1⟩
 have hs:=sG hES
 obtain ⟨_,_,f0,f1⟩:=fQ h
 obtain ⟨k,ek⟩:∃ k,(2 * cD x+1) * x.d - 2 * x.p=k:=⟨_,rfl⟩
 have hu:=LP ek
 generalize ox x 2 (2 * cD x+1)=b at *
 generalize cD x=F at *
 have hm:0≤(2 * F+1) * x.d∧(2 * F+1) * x.d≤9223372036854775807 * 18446744073709551615:=⟨aq (by omega) (by omega),aw (by omega) (by omega) (by omega) (by omega)⟩
 have h1:=nq x.p 2 p0 ⟨by decide,by decide⟩ (by omega) (by omega)
 rw [Int.mul_comm x.p 2] at h1
 have h2:=gx (2 * F+1) x.d ⟨by omega,by omega⟩ ⟨by omega,d1⟩
 have hq:=oo x hES
 have ht:True:=trivial
 by_cases c:(2 * F+1) * x.d<2 * x.p
 ·have h3:=Hr ((2 * F+1) * x.d) (2 * x.p) ⟨hm.1,by omega⟩ ⟨by omega,by omega⟩ c
  have hb:b=true:=hu.2 (.inl (by omega))
  rw [hb]
  generalize (2 * F+1) * x.d=M at *
  refine aC Tryz.func246 [.tmp 4] ?_
  repeat' (first|((with_reducible refine aT (id:=1) (fun K hW => ?_));(try simp (maxSteps:=999999)(disch:=omega) only [go_sem]);and_intros;all_goals first|(refine hK _ ?_;clear hK K)|try exact aa)|((first|refine ai (fun K hK => ?_)|refine ae (h1) ?_);and_intros;all_goals first|(refine hK _ ?_;clear hK K)|try exact aa))
  refine hW _ (aZ [(1, .b (bN F)),(2, .b (.c (.ptr 0 0))),(5, .b (.c (.ptr 1 0)))] [(0, .fix ((mb x).map CV.p)),(1, .fix ((qE (2 * x.p)).map CV.p))] 2) ?_ ?_
  ·refine ay [(1,some 1)] ?_ ?_
   and_intros
   all_goals first|exact ao|skip
  clear hW
  refine jm (id:=2) (.br 0 (.br 1 (.br 2 (.br 3 (.br 4 (.br 6 (.br 5 (.br 7 (.br 8 (.br 9 (.br 10 (.br 11 (.br 12 (.br 13 .leaf .nil) .nil) .nil) .nil) .nil) .nil) (.br 11 (.br 7 (.br 8 (.br 9 (.br 10 (.br 12 (.br 13 .leaf .nil) .nil) .nil) .nil) .nil) .nil) .nil)) (.br 11 (.br 5 (.br 7 (.br 8 (.br 9 (.br 10 (.br 12 (.br 13 .leaf .nil) .nil) .nil) .nil) .nil) .nil) .nil) .nil)) .nil) .nil) .nil) .nil) .nil) .nil) (by decide +kernel) (by (first|(refine And.intro (fun iw hiw => ?_) ?_;(focus ((try simp (maxSteps:=999999)(disch:=omega) only [go_sem] at hiw ⊢);(repeat (refine Eq.trans (if_neg ?_) ?_;(focus omega)));exact hw iw (by omega)));(focus (first|exact Nat.zero_le _|(simp (maxSteps:=999999)(disch:=omega) only [go_sem];done)|(simp (maxSteps:=999999)(disch:=omega) only [go_sem];omega))))|exact eS)) (fun K0 hW => ?_)
  refine (fun (tl:∀ st,Le st (aZ [(8, .b (B false))] [] 1)→K0 st) => ?_) (fun st hl=>hW st _ hl ?_)
  ·clear hW
   repeat' (first|exact cz|(refine cZ (fun K' hK' => ?_) ?_)|(refine cj (tl _ ?_);clear tl)|((first|refine ae (h2) ?_|refine ae (h3) ?_);(try simp (maxSteps:=999999)(disch:=omega) only [go_sem]);and_intros;(all_goals first|(refine hK' _ ?_;clear hK' K')|trivial|omega|exact Nat.le_of_ble_eq_true rfl|exact aa|skip))|(simp (maxSteps:=999999)(disch:=omega) only [go_sem];and_intros;(all_goals first|(refine hK' _ ?_;clear hK' K')|trivial|omega|exact Nat.le_of_ble_eq_true rfl|exact aa|skip)))
   all_goals
    refine ay [] ?_ ?_
    and_intros
    all_goals first|exact ao|skip
  clear hW
  repeat' (first|with_reducible exact cn|refine aj ht ?_|refine ak ?_|(refine ai (fun K hK => ?_);and_intros;all_goals first|(refine hK _ ?_;clear hK K)|try exact aa)|(refine an ?_;(try clear hB KB);(try clear hK K)))
 ·have h3:=HT ((2 * F+1) * x.d) (2 * x.p) ⟨hm.1,by omega⟩ ⟨by omega,by omega⟩ (by omega)
  rw [ek] at h3
  generalize (2 * F+1) * x.d=M at *
  have h5:=rW k 2 ⟨by omega,by omega⟩ (by decide) (by decide)
  have hsq:=hs.2.2.2
  have hsq0:=hs.2.2.1
  have hro:=Gg (x:=x) (n:=k / 2) hES (by omega)
  have h6:=DM x (k / 2) hES ⟨by omega,by omega⟩
  have hok:k % 2=0∨k % 2=1:=by omega
  have hk2:k=2 * (k / 2)+k % 2:=by omega
  generalize k / 2=m at *
  generalize k % 2=o at *
  generalize x.q * x.q * x.r=A at *
  refine aC Tryz.func246 [.tmp 4] ?_
  repeat' (first|((with_reducible refine aT (id:=1) (fun K hW => ?_));(try simp (maxSteps:=999999)(disch:=omega) only [go_sem]);and_intros;all_goals first|(refine hK _ ?_;clear hK K)|try exact aa)|((first|refine ai (fun K hK => ?_)|refine ae (h1) ?_);and_intros;all_goals first|(refine hK _ ?_;clear hK K)|try exact aa))
  refine hW _ (aZ [(1, .b (bN F)),(2, .b (.c (.ptr 0 0))),(5, .b (.c (.ptr 1 0)))] [(0, .fix ((mb x).map CV.p)),(1, .fix ((qE (2 * x.p)).map CV.p))] 2) ?_ ?_
  ·refine ay [(1,some 1)] ?_ ?_
   and_intros
   all_goals first|exact ao|skip
  clear hW
  refine jm (id:=2) (.br 0 (.br 1 (.br 2 (.br 3 (.br 4 (.br 6 (.br 5 (.br 7 (.br 8 (.br 9 (.br 10 (.br 11 (.br 12 (.br 13 .leaf .nil) .nil) .nil) .nil) .nil) .nil) (.br 11 (.br 7 (.br 8 (.br 9 (.br 10 (.br 12 (.br 13 .leaf .nil) .nil) .nil) .nil) .nil) .nil) .nil)) (.br 11 (.br 5 (.br 7 (.br 8 (.br 9 (.br 10 (.br 12 (.br 13 .leaf .nil) .nil) .nil) .nil) .nil) .nil) .nil) .nil)) .nil) .nil) .nil) .nil) .nil) .nil) (by decide +kernel) (by (first|(refine And.intro (fun iw hiw => ?_) ?_;(focus ((try simp (maxSteps:=999999)(disch:=omega) only [go_sem] at hiw ⊢);(repeat (refine Eq.trans (if_neg ?_) ?_;(focus omega)));exact hw iw (by omega)));(focus (first|exact Nat.zero_le _|(simp (maxSteps:=999999)(disch:=omega) only [go_sem];done)|(simp (maxSteps:=999999)(disch:=omega) only [go_sem];omega))))|exact eS)) (fun K0 hW => ?_)
  refine (fun (tl:∀ st,Le st (aZ [(2, .b (.c (.ptr 0 0))),(7, .b (.c (.ptr 1 0))),(8, .b (B true))] [(0, .fix ((mb x).map CV.p)),(1, .fix ((qE k).map CV.p))] 2)→K0 st) => ?_) (fun st hl=>hW st _ hl ?_)
  ·clear hW
   repeat' (first|exact cz|(refine cZ (fun K' hK' => ?_) ?_)|(refine cj (tl _ ?_);clear tl)|((first|refine ae (h2) ?_|refine ae (h3) ?_);(try simp (maxSteps:=999999)(disch:=omega) only [go_sem]);and_intros;(all_goals first|(refine hK' _ ?_;clear hK' K')|trivial|omega|exact Nat.le_of_ble_eq_true rfl|exact aa|skip))|(simp (maxSteps:=999999)(disch:=omega) only [go_sem];and_intros;(all_goals first|(refine hK' _ ?_;clear hK' K')|trivial|omega|exact Nat.le_of_ble_eq_true rfl|exact aa|skip)))
   all_goals
    refine ay [(1,some 2)] ?_ ?_
    and_intros
    all_goals first|exact ao|skip
  clear hW
  by_cases c1:m / 18446744073709551616>0
  ·have g1:decide (m / 18446744073709551616>0)=true:=decide_eq_true c1
   have hmm:18446744073709551616 * 18446744073709551616≤m * m:=aw (by omega) (by omega) (by decide) (by omega)
   have hb:b=false:=by
    rw [← Bool.not_eq_true,hu]
    rintro (q|⟨_,q⟩)
    ·omega
    ·split at q <;> omega
   rw [hb]
   repeat' (first|with_reducible exact cn|refine aj g1 ?_|refine ak ?_|((first|refine ai (fun K hK => ?_)|refine ae (h5) ?_);and_intros;all_goals first|(refine hK _ ?_;clear hK K)|try exact aa)|(refine an ?_;(try clear hB KB);(try clear hK K)))
  ·have g1:decide (m / 18446744073709551616>0)=false:=decide_eq_false c1
   rcases hok with rfl|rfl
   ·have g2:((0:Int) == 0)=true:=rfl
    rw [if_pos rfl] at hu
    have hb:b=decide (tU x m≥0):=by
     rw [Bool.eq_iff_iff,hu,decide_eq_true_eq,ge_iff_le,hro]
     constructor
     ·rintro (q|q)
      ·have:m=0:=by omega
       rw [this];exact hsq0
      ·exact q.2
     ·intro q
      rcases Decidable.em (k≤0) with w|w
      ·exact .inl w
      ·exact .inr ⟨by omega,q⟩
    rw [hb]
    repeat' (first|with_reducible exact cn|refine aj (And.intro g1 g2) ?_|refine ak ?_|((first|refine ai (fun K hK => ?_)|refine ae (h5) ?_|refine ae (h6) ?_);and_intros;all_goals first|(refine hK _ ?_;clear hK K)|try exact aa)|(refine an ?_;(try clear hB KB);(try clear hK K)))
    all_goals skip
   ·have g2:((1:Int) == 0)=false:=rfl
    rw [if_neg (by decide)] at hu
    have hmm:0≤m * m∧m * m≤18446744073709551615 * 18446744073709551615:=⟨aq (by omega) (by omega),aw (by omega) (by omega) (by omega) (by omega)⟩
    have h7:=gx (m % 18446744073709551616) (m % 18446744073709551616) ⟨by omega,by omega⟩ ⟨by omega,by omega⟩
    rw [show m % 18446744073709551616 * (m % 18446744073709551616)=m * m by rw [show m % 18446744073709551616=m by omega]] at h7
    have h8:=nf (m * m) m hmm.1 (by omega) (by omega)
    have h9:=uX A (m * m+m)
    have hb:b=decide (jn A (m * m+m)>0):=by
     rw [Bool.eq_iff_iff,hu,decide_eq_true_eq]
     unfold jn
     constructor
     ·rintro (q|q)
      ·omega
      ·rw [if_neg (by omega),if_neg (by omega)];decide
     ·intro q
      refine .inr ⟨by omega, ?_⟩
      split at q
      ·omega
      split at q <;> omega
    rw [hb]
    generalize m * m=mm at *
    repeat' (first|refine aj (And.intro g1 g2) ?_|refine ak ?_|((first|refine ai (fun K hK => ?_)|refine ae (h5) ?_);and_intros;all_goals first|(refine hK _ ?_;clear hK K)|try exact aa))
    refine jm (id:=10) (.br 0 (.br 1 (.br 2 (.br 3 (.br 5 (.br 4 (.br 6 (.br 7 (.br 8 (.br 9 (.br 10 (.br 11 (.br 12 .leaf .nil) .nil) .nil) .nil) .nil) .nil) (.br 10 (.br 6 (.br 7 (.br 8 (.br 9 (.br 11 (.br 12 .leaf .nil) .nil) .nil) .nil) .nil) .nil) .nil)) (.br 10 (.br 4 (.br 6 (.br 7 (.br 8 (.br 9 (.br 11 (.br 12 .leaf .nil) .nil) .nil) .nil) .nil) .nil) .nil) .nil)) .nil) .nil) .nil) .nil) .nil) (by decide +kernel) (by (first|(refine And.intro (fun iw hiw => ?_) ?_;(focus ((try simp (maxSteps:=999999)(disch:=omega) only [go_sem] at hiw ⊢);(repeat (refine Eq.trans (if_neg ?_) ?_;(focus omega)));exact hw iw (by omega)));(focus (first|exact Nat.zero_le _|(simp (maxSteps:=999999)(disch:=omega) only [go_sem];done)|(simp (maxSteps:=999999)(disch:=omega) only [go_sem];omega))))|exact eS)) (fun K0 hW => ?_)
    refine (fun (tl:∀ st,Le st (aZ [(2, .b (.c (.ptr 0 0))),(8, .b (B true)),(12, .b (.c (.ptr 1 0)))] [(0, .fix ((mb x).map CV.p)),(1, .fix ((qE (mm+m)).map CV.p))] 2)→K0 st) => ?_) (fun st hl=>hW st _ hl ?_)
    ·clear hW
     repeat' (first|exact cz|(refine cZ (fun K' hK' => ?_) ?_)|(refine cj (tl _ ?_);clear tl)|((first|refine ae (h7) ?_|refine ae (h8) ?_);(try simp (maxSteps:=999999)(disch:=omega) only [go_sem]);and_intros;(all_goals first|(refine hK' _ ?_;clear hK' K')|trivial|omega|exact Nat.le_of_ble_eq_true rfl|exact aa|skip))|(simp (maxSteps:=999999)(disch:=omega) only [go_sem];and_intros;(all_goals first|(refine hK' _ ?_;clear hK' K')|trivial|omega|exact Nat.le_of_ble_eq_true rfl|exact aa|skip)))
     all_goals
      refine ay [(1,some 3)] ?_ ?_
      and_intros
      all_goals first|exact ao|skip
    clear hW
    repeat' (first|(((with_reducible refine cr (id:=11) [] (by decide +kernel) (by decide +kernel) ?_ (fun K hK => ?_));(first|(refine And.intro (fun iw hiw => ?_) ?_;(focus ((try simp (maxSteps:=999999)(disch:=omega) only [go_sem] at hiw ⊢);(repeat (refine Eq.trans (if_neg ?_) ?_;(focus omega)));exact hw iw (by omega)));(focus (first|exact Nat.zero_le _|(simp (maxSteps:=999999)(disch:=omega) only [go_sem];done)|(simp (maxSteps:=999999)(disch:=omega) only [go_sem];omega))))|exact eS));(try simp (maxSteps:=999999)(disch:=omega) only [go_sem]);and_intros;(all_goals first|(refine hK _ (by simp (maxSteps:=999999)(disch:=omega) only [go_sem]) ?_;clear hK K)|exact aa|skip))|((first|refine aE (fun hg=>hq) ?_|refine aE (fun hg=>h9) ?_);and_intros;all_goals first|(refine hK _ ?_;clear hK K)|try exact aa))
    refine hK _ (by simp (maxSteps:=999999)(disch:=omega) only [go_sem]) ?_
    clear hK
    repeat' (first|with_reducible exact cn|(refine an ?_;(try clear hB KB);(try clear hK K)))
    all_goals skip
theorem pj (x:Ex) (h:ExOk x):aD Sg 227 [ag (mb x)] (fun r=>r = .tup [bN (hx x),B true]):=by
 have hf:=BQ x h
 have hu:=Nx x h
 obtain ⟨_,_,f0,f1⟩:=fQ h
 unfold hx
 generalize ox x 2 (2 * cD x+1)=b at *
 generalize cD x=F at *
 cases b
 ·have g1:decide (F≥9223372036854775808)=false:=decide_eq_false (by omega)
  have g0:false=false:=rfl
  refine aC Tryz.func227 [.tmp 2, .tmp 3] ?_
  repeat' (first|with_reducible exact cn|refine aj (And.intro g1 g0) ?_|refine ak ?_|((first|refine ai (fun K hK => ?_)|refine ae (hf) ?_|refine ae (hu) ?_);and_intros;all_goals first|(refine hK _ ?_;clear hK K)|try exact aa)|(refine an ?_;(try clear hB KB);(try clear hK K)))
  all_goals skip
 ·have g1:decide (F+1≥9223372036854775808)=false:=decide_eq_false (by omega)
  have g0:true=true:=rfl
  refine aC Tryz.func227 [.tmp 2, .tmp 3] ?_
  repeat' (first|with_reducible exact cn|refine aj (And.intro g1 g0) ?_|refine ak ?_|((first|refine ai (fun K hK => ?_)|refine ae (hf) ?_|refine ae (hu) ?_);and_intros;all_goals first|(refine hK _ ?_;clear hK K)|try exact aa)|(refine an ?_;(try clear hB KB);(try clear hK K)))
  all_goals skip
end Go.Proofs.YtmfblbbemekkoaaGreatDoor
set_option maxHeartbeats 2000000
set_option maxRecDepth 16000
namespace Go.Proofs.YtmfblbbemekkoaaGreatDoor
open Go Go.SL
open Go.RowKit (wrap64)
attribute [local go_sem] qE mb
theorem CK {p q r d:Int} (h:Q64 p):mb ⟨p,q,r,d⟩=[.val (.int .u64 0), .val (.int .u64 p), .val (.int .u64 q), .val (.int .u64 r), .val (.int .u64 d)]:=by
 obtain ⟨h0,h1⟩:=h
 simp only [mb]
 rw [show p / 18446744073709551616=0 by omega,show p % 18446744073709551616=p by omega]
theorem ba (p d:Int) (h:Q64 p):aD Sg 262 [bN p,bN d] (fun r=>r = .b (ag (mb ⟨p,0,0,d⟩))):=by
 rw [CK h]
 refine aC Tryz.func262 [.cell 4 262] ?_
 repeat' (first|(refine ai (fun K hK => ?_);and_intros;all_goals first|(refine hK _ ?_;clear hK K)|try exact aa)|(refine an ?_;(try clear hB KB);(try clear hK K)))
 all_goals rfl
structure Sm4 (s a d b:Int):Prop where
 s0:0≤s
 sa:s≤a
 am:a≤65535
 d0:0≤d
 db:d≤b
 bm:b≤65535
theorem wX (s a d b:Int) (t:Bool) (h:Sm4 s a d b) (hr:t=false→2 * (b - d) * (a - s)≤a * b):aD Sg 263 [bN s,bN a,bN d,bN b,B t] (fun r=>r = .b (UQ (if t=true then 2 * s * d else a * b - 2 * (b - d) * (a - s)))):=by
 obtain ⟨s0,sa,am,d0,db,bm⟩:=h
 have h1:0≤2 * s * d∧2 * s * d≤131070 * 65535:=⟨aq (by omega) d0,aw (by omega) (by omega) d0 (by omega)⟩
 have h2:0≤a * b∧a * b≤65535 * 65535:=⟨aq (by omega) (by omega),aw (by omega) (by omega) (by omega) (by omega)⟩
 have h3:0≤2 * (b - d) * (a - s)∧2 * (b - d) * (a - s)≤131070 * 65535:=⟨aq (by omega) (by omega),aw (by omega) (by omega) (by omega) (by omega)⟩
 have ht:True:=trivial
 cases t
 ·have hr:=hr rfl
  refine aC Tryz.func263 [.tmp 10] ?_
  repeat' (first|with_reducible exact cn|refine aj ht ?_|refine ak ?_|(refine ai (fun K hK => ?_);and_intros;all_goals first|(refine hK _ ?_;clear hK K)|try exact aa)|(refine an ?_;(try clear hB KB);(try clear hK K)))
  all_goals rfl
 ·refine aC Tryz.func263 [.tmp 10] ?_
  repeat' (first|with_reducible exact cn|refine aj ht ?_|refine ak ?_|(refine ai (fun K hK => ?_);and_intros;all_goals first|(refine hK _ ?_;clear hK K)|try exact aa)|(refine an ?_;(try clear hB KB);(try clear hK K)))
  all_goals rfl
theorem AJ (s a d b:Int) (h:Sm4 s a d b):aD Sg 264 [bN s,bN a,bN d,bN b] (fun r=>r = .b (ag (mb (pT s a d b)))):=by
 obtain ⟨s0,sa,am,d0,db,bm⟩:=h
 have h1:0≤d * a∧d * a≤65535 * 65535:=⟨aq (by omega) (by omega),aw (by omega) (by omega) (by omega) (by omega)⟩
 have h2:0≤a * b∧a * b≤65535 * 65535:=⟨aq (by omega) (by omega),aw (by omega) (by omega) (by omega) (by omega)⟩
 have h3:0≤b * (a - s)∧b * (a - s)≤65535 * 65535:=⟨aq (by omega) (by omega),aw (by omega) (by omega) (by omega) (by omega)⟩
 have h4:0≤a * a∧a * a≤65535 * 65535:=⟨aq (by omega) (by omega),aw (by omega) (by omega) (by omega) (by omega)⟩
 have h5:0≤a * a * d∧a * a * d≤65535 * 65535 * 65535:=⟨aq h4.1 d0,aw h4.2 (by omega) d0 (by decide)⟩
 unfold pT
 by_cases c1:d=0
 ·have g1:(d == 0)=true:=beq_iff_eq.2 c1
  rw [if_pos c1]
  refine aC Tryz.func264 [.cell 8 262] ?_
  repeat' (first|refine aj g1 ?_|refine ak ?_|((first|refine ai (fun K hK => ?_)|refine ae (ba 0 1 ⟨by decide,by decide⟩) ?_);and_intros;all_goals first|(refine hK _ ?_;clear hK K)|try exact aa)|(refine an ?_;(try clear hB KB);(try clear hK K)))
  all_goals rfl
 have g1:(d == 0)=false:=beq_eq_false_iff_ne.2 c1
 rw [if_neg c1]
 by_cases c2:b * (a - s)≤d * a
 ·have g2:decide (d * a≥b * (a - s))=true:=decide_eq_true c2
  rw [if_pos c2]
  refine aC Tryz.func264 [.cell 8 262] ?_
  repeat' (first|refine aj (And.intro g1 g2) ?_|refine ak ?_|((first|refine ai (fun K hK => ?_)|refine ae (ba (a * b) 1 ⟨by omega,by omega⟩) ?_);and_intros;all_goals first|(refine hK _ ?_;clear hK K)|try exact aa)|(refine an ?_;(try clear hB KB);(try clear hK K)))
  all_goals rfl
 ·have g2:decide (d * a≥b * (a - s))=false:=decide_eq_false c2
  rw [if_neg c2]
  refine aC Tryz.func264 [.cell 8 262] ?_
  repeat' (first|refine aj (And.intro g1 g2) ?_|refine ak ?_|((first|refine ai (fun K hK => ?_)|refine ae (ba (a * a * d) (a - s) ⟨by omega,by omega⟩) ?_);and_intros;all_goals first|(refine hK _ ?_;clear hK K)|try exact aa)|(refine an ?_;(try clear hB KB);(try clear hK K)))
  all_goals rfl
end Go.Proofs.YtmfblbbemekkoaaGreatDoor
set_option maxHeartbeats 2000000
set_option maxRecDepth 16000
namespace Go.Proofs.YtmfblbbemekkoaaGreatDoor
open Go Go.SL
open Go.RowKit (wrap64)
attribute [local go_sem] qE mb
theorem DU (s a d b:Int) (h:Sm4 s a d b):aD Sg 265 [bN s,bN a,bN d,bN b] (fun r=>r = .b (ag (mb (wW s a d b)))):=by
 obtain ⟨s0,sa,am,d0,db,bm⟩:=h
 have h2:0≤a * b∧a * b≤65535 * 65535:=⟨aq (by omega) (by omega),aw (by omega) (by omega) (by omega) (by omega)⟩
 have h3:0≤(b - d) * a∧(b - d) * a≤65535 * 65535:=⟨aq (by omega) (by omega),aw (by omega) (by omega) (by omega) (by omega)⟩
 have h4:0≤s * b∧s * b≤65535 * 65535:=⟨aq (by omega) (by omega),aw (by omega) (by omega) (by omega) (by omega)⟩
 have h5:0≤a * b * s∧a * b * s≤65535 * 65535 * 65535:=⟨aq h2.1 s0,aw h2.2 (by omega) s0 (by decide)⟩
 have h6:0≤(b - d) * a * a∧(b - d) * a * a≤65535 * 65535 * 65535:=⟨aq h3.1 (by omega),aw h3.2 (by omega) (by omega) (by decide)⟩
 have ht:=tW s0 sa am d0 db bm
 unfold wW at *
 by_cases c1:d=b
 ·have g1:(d == b)=true:=beq_iff_eq.2 c1
  rw [if_pos c1]
  refine aC Tryz.func265 [.cell 8 262] ?_
  repeat' (first|refine aj g1 ?_|refine ak ?_|((first|refine ai (fun K hK => ?_)|refine ae (ba (a * b) 1 ⟨by omega,by omega⟩) ?_);and_intros;all_goals first|(refine hK _ ?_;clear hK K)|try exact aa)|(refine an ?_;(try clear hB KB);(try clear hK K)))
  all_goals rfl
 have g1:(d == b)=false:=beq_eq_false_iff_ne.2 c1
 rw [if_neg c1] at ht ⊢
 by_cases c2:s * b≤(b - d) * a
 ·have g2:decide ((b - d) * a≥s * b)=true:=decide_eq_true c2
  rw [if_pos c2]
  refine aC Tryz.func265 [.cell 8 262] ?_
  repeat' (first|refine aj (And.intro g1 g2) ?_|refine ak ?_|((first|refine ai (fun K hK => ?_)|refine ae (ba 0 1 ⟨by decide,by decide⟩) ?_);and_intros;all_goals first|(refine hK _ ?_;clear hK K)|try exact aa)|(refine an ?_;(try clear hB KB);(try clear hK K)))
  all_goals rfl
 ·have g2:decide ((b - d) * a≥s * b)=false:=decide_eq_false c2
  rw [if_neg c2] at ht ⊢
  have hp:=ht.p0
  dsimp only at hp
  refine aC Tryz.func265 [.cell 8 262] ?_
  repeat' (first|refine aj (And.intro g1 g2) ?_|refine ak ?_|((first|refine ai (fun K hK => ?_)|refine ae (ba (a * b * s - (b - d) * a * a) s ⟨by omega,by omega⟩) ?_);and_intros;all_goals first|(refine hK _ ?_;clear hK K)|try exact aa)|(refine an ?_;(try clear hB KB);(try clear hK K)))
  all_goals rfl
theorem DN (s a d b:Int) (h:Sm4 s a d b):aD Sg 266 [bN s,bN a,bN d,bN b] (fun r=>r = .b (ag (mb (pk s a d b)))):=by
 obtain ⟨s0,sa,am,d0,db,bm⟩:=h
 have ht:=tN s0 sa am d0 db bm
 have da:0≤d * a∧d * a≤65535 * 65535:=⟨aq (by omega) (by omega),aw (by omega) (by omega) (by omega) (by omega)⟩
 have bb:0≤b * b∧b * b≤65535 * 65535:=⟨aq (by omega) (by omega),aw (by omega) (by omega) (by omega) (by omega)⟩
 have p1:0≤16 * d * d∧16 * d * d≤1048560 * 65535:=⟨aq (by omega) (by omega),aw (by omega) (by omega) (by omega) (by omega)⟩
 have p2:0≤3 * b * b∧3 * b * b≤196605 * 65535:=⟨aq (by omega) (by omega),aw (by omega) (by omega) (by omega) (by omega)⟩
 have p3:0≤12 * d * b∧12 * d * b≤786420 * 65535:=⟨aq (by omega) (by omega),aw (by omega) (by omega) (by omega) (by omega)⟩
 have u1:0≤d * a * b∧d * a * b≤65535 * 65535 * 65535:=⟨aq da.1 (by omega),aw da.2 bm (by omega) (by omega)⟩
 by_cases h0:b=0
 ·rw [pk,if_pos h0]
  have g0:(b == 0)=true:=beq_iff_eq.2 h0
  refine aC Tryz.func266 [.cell 8 262] ?_
  repeat' (first|refine aj g0 ?_|refine ak ?_|((first|refine ai (fun K hK => ?_)|refine ae (ba 0 1 ⟨by decide,by decide⟩) ?_);and_intros;all_goals first|(refine hK _ ?_;clear hK K)|try exact aa)|(refine an ?_;(try clear hB KB);(try clear hK K)))
  all_goals rfl
 have g0:(b == 0)=false:=beq_eq_false_iff_ne.2 h0
 by_cases h1:2 * s≤a
 ·rw [pk,if_neg h0,if_pos h1] at ht ⊢
  have g1:decide (2 * s≤a)=true:=decide_eq_true h1
  have p4:0≤(a - 2 * s) * d∧(a - 2 * s) * d≤65535 * 65535:=⟨aq (by omega) (by omega),aw (by omega) (by omega) (by omega) (by omega)⟩
  have u2:0≤(a - 2 * s) * d * (b - d)∧(a - 2 * s) * d * (b - d)≤65535 * 65535 * 65535:=⟨aq p4.1 (by omega),aw p4.2 (by omega) (by omega) (by decide)⟩
  have u3:=ht.p0
  dsimp only at u3
  refine aC Tryz.func266 [.cell 8 262] ?_
  repeat' (first|refine aj (And.intro g0 g1) ?_|refine ak ?_|((first|refine ai (fun K hK => ?_)|refine ae (ba (d * a * b - (a - 2 * s) * d * (b - d)) b ⟨by omega,by omega⟩) ?_);and_intros;all_goals first|(refine hK _ ?_;clear hK K)|try exact aa)|(refine an ?_;(try clear hB KB);(try clear hK K)))
  all_goals rfl
 have g1:decide (2 * s≤a)=false:=decide_eq_false h1
 by_cases h2:4 * d≤b
 ·rw [pk,if_neg h0,if_neg h1,if_pos h2] at ht ⊢
  have g2:decide (4 * d≤b)=true:=decide_eq_true h2
  have p4:0≤(2 * s - a) * d∧(2 * s - a) * d≤65535 * 65535:=⟨aq (by omega) (by omega),aw (by omega) (by omega) (by omega) (by omega)⟩
  have p5:=ub d0 h2
  have u0:d * a * b * b=d * a * (b * b):=Int.mul_assoc _ _ _
  have u2:0≤d * a * (b * b)∧d * a * (b * b)≤65535 * 65535 * (65535 * 65535):=⟨aq da.1 bb.1,aw da.2 bb.2 bb.1 (by omega)⟩
  have u3:0≤(2 * s - a) * d * (16 * d * d+3 * b * b - 12 * d * b):=aq p4.1 p5.1
  have u4:=ht.le
  dsimp only at u4
  have hab:a * b * (b * b)≤65535 * 65535 * (65535 * 65535):=aw (aw am bm (by omega) (by decide)) bb.2 bb.1 (by decide)
  rw [← u0] at u2 u4 ⊢
  refine aC Tryz.func266 [.cell 8 262] ?_
  repeat' (first|refine aj (And.intro g0 (And.intro g1 g2)) ?_|refine ak ?_|((first|refine ai (fun K hK => ?_)|refine ae (ba (d * a * b * b+(2 * s - a) * d * (16 * d * d+3 * b * b - 12 * d * b)) (b * b) ⟨by omega,by omega⟩) ?_);and_intros;all_goals first|(refine hK _ ?_;clear hK K)|try exact aa)|(refine an ?_;(try clear hB KB);(try clear hK K)))
  all_goals rfl
 have g2:decide (4 * d≤b)=false:=decide_eq_false h2
 rw [pk,if_neg h0,if_neg h1,if_neg h2] at ht ⊢
 have p4:0≤2 * d * (a - s)∧2 * d * (a - s)≤131070 * 65535:=⟨aq (by omega) (by omega),aw (by omega) (by omega) (by omega) (by omega)⟩
 have p5:0≤d * b∧d * b≤65535 * 65535:=⟨aq (by omega) (by omega),aw (by omega) (by omega) (by omega) (by omega)⟩
 rw [CK ⟨p4.1,by omega⟩]
 refine aC Tryz.func266 [.cell 8 262] ?_
 repeat' (first|refine aj (And.intro g0 (And.intro g1 g2)) ?_|refine ak ?_|((first|refine ai (fun K hK => ?_)|refine ae (ba (2 * d * (a - s)) 1 ⟨by omega,by omega⟩) ?_);and_intros;all_goals first|(refine hK _ ?_;clear hK K)|try exact aa)|(refine an ?_;(try clear hB KB);(try clear hK K)))
 rw [show 2 * d * (a - s) / 18446744073709551616=0 by omega,show 2 * d * (a - s) % 18446744073709551616=2 * d * (a - s) by omega]
 rfl
end Go.Proofs.YtmfblbbemekkoaaGreatDoor
