/- Part of the proof: VD, RN, BrW, RK, N6. -/
import Derived.Test.YtcbifofjjpfbcaaGreatDoorM36
set_option linter.unusedSimpArgs false
set_option linter.unusedVariables false
set_option maxHeartbeats 8000000
set_option maxRecDepth 16000
namespace Go.Proofs.YtcbifofjjpfbcaaGreatDoor
open Go Go.SL
open Go.RowKit (wrap64)
section
attribute [local go_sem] Int.toNat_natCast
def Vg (r:Rect) (x:Int):Int:=r.x0+x % (r.x1 - r.x0)
def Uq (r:Rect) (y:Int):Int:=r.y0+y % (r.y1 - r.y0)
theorem Ly (r:Rect) (x y:Int) (hr:Small r):aA Sg 25 [ag (aQ r),I x,I y] (fun q=>q = .tup [I (Vg r x),I (Uq r y)]):=by
 have ht:True:=trivial;obtain ⟨x0,x1,y0,y1,hw,hh⟩:=hr;have h1:=bD x (r.x1 - r.x0) (by omega) (by omega);have h2:=bD y (r.y1 - r.y0) (by omega) (by omega);have a1:=Int.emod_nonneg x (show r.x1 - r.x0≠0 by omega);have a2:=Int.emod_lt_of_pos x (show 0<r.x1 - r.x0 by omega);have a3:=Int.emod_nonneg y (show r.y1 - r.y0≠0 by omega);have a4:=Int.emod_lt_of_pos y (show 0<r.y1 - r.y0 by omega);unfold Vg Uq;generalize x % (r.x1 - r.x0)=a at *
 generalize y % (r.y1 - r.y0)=b at *
 refine aD Tryz.func25 [.tmp 6, .tmp 7] ?_;repeat' (first|with_reducible exact bq|refine an (fun K hK => ?_)|refine aa (h1) ?_|refine aa (h2) ?_|refine ax ?_|(refine aq hK ?_;try clear hK K))
theorem XM {r:Rect} (hr:Small r) (x y:Int):ic r (Vg r x) (Uq r y):=by
 obtain ⟨x0,x1,y0,y1,hw,hh⟩:=hr;have a1:=Int.emod_nonneg x (show r.x1 - r.x0≠0 by omega);have a2:=Int.emod_lt_of_pos x (show 0<r.x1 - r.x0 by omega);have a3:=Int.emod_nonneg y (show r.y1 - r.y0≠0 by omega);have a4:=Int.emod_lt_of_pos y (show 0<r.y1 - r.y0 by omega);unfold Vg Uq ic;omega
end
section
attribute [local go_sem] Int.toNat_natCast Lt
def iK (r:Rect) (n:K4):Rect :=
 ⟨r.x0+n.a % (r.x1 - r.x0),r.y0+n.b % (r.y1 - r.y0),r.x0+n.a % (r.x1 - r.x0)+1+n.c % (r.x1 - r.x0 - n.a % (r.x1 - r.x0)),r.y0+n.b % (r.y1 - r.y0)+1+n.d % (r.y1 - r.y0 - n.b % (r.y1 - r.y0))⟩
theorem LC {r:Rect} (hr:Small r) (n:K4):InR (iK r n) r:=by
 obtain ⟨h1,h2,h3,h4,hw,hh⟩:=hr;have a1:=Int.emod_nonneg n.a (show r.x1 - r.x0≠0 by omega);have a2:=Int.emod_lt_of_pos n.a (show 0<r.x1 - r.x0 by omega);have b1:=Int.emod_nonneg n.b (show r.y1 - r.y0≠0 by omega);have b2:=Int.emod_lt_of_pos n.b (show 0<r.y1 - r.y0 by omega);have c1:=Int.emod_nonneg n.c (show r.x1 - r.x0 - n.a % (r.x1 - r.x0)≠0 by omega);have c2:=Int.emod_lt_of_pos n.c (show 0<r.x1 - r.x0 - n.a % (r.x1 - r.x0) by omega);have d1:=Int.emod_nonneg n.d (show r.y1 - r.y0 - n.b % (r.y1 - r.y0)≠0 by omega);have d2:=Int.emod_lt_of_pos n.d (show 0<r.y1 - r.y0 - n.b % (r.y1 - r.y0) by omega);unfold iK;exact ⟨by dsimp only;omega,by dsimp only;omega,by dsimp only;omega,by dsimp only;omega,by dsimp only;omega,by dsimp only;omega⟩
theorem LM (r:Rect) (hr:Small r) (n:K4):aA Sg 23 [ag (aQ r),ag (Lt n)] (fun q=>q = .b (ag (aQ (iK r n)))):=by
 have ht:True:=trivial;obtain ⟨h1,h2,h3,h4,hw,hh⟩:=hr;have a1:=Int.emod_nonneg n.a (show r.x1 - r.x0≠0 by omega);have a2:=Int.emod_lt_of_pos n.a (show 0<r.x1 - r.x0 by omega);have b1:=Int.emod_nonneg n.b (show r.y1 - r.y0≠0 by omega);have b2:=Int.emod_lt_of_pos n.b (show 0<r.y1 - r.y0 by omega);have c1:=Int.emod_nonneg n.c (show r.x1 - r.x0 - n.a % (r.x1 - r.x0)≠0 by omega);have c2:=Int.emod_lt_of_pos n.c (show 0<r.x1 - r.x0 - n.a % (r.x1 - r.x0) by omega);have d1:=Int.emod_nonneg n.d (show r.y1 - r.y0 - n.b % (r.y1 - r.y0)≠0 by omega);have d2:=Int.emod_lt_of_pos n.d (show 0<r.y1 - r.y0 - n.b % (r.y1 - r.y0) by omega);have s1:=bD n.a (r.x1 - r.x0) (by omega) (by omega);have s2:=bD n.b (r.y1 - r.y0) (by omega) (by omega);have s3:=bD n.c (r.x1 - r.x0 - n.a % (r.x1 - r.x0)) (by omega) (by omega);have s4:=bD n.d (r.y1 - r.y0 - n.b % (r.y1 - r.y0)) (by omega) (by omega);unfold iK;generalize n.c % (r.x1 - r.x0 - n.a % (r.x1 - r.x0))=u3 at *
 generalize n.d % (r.y1 - r.y0 - n.b % (r.y1 - r.y0))=u4 at *
 generalize n.a % (r.x1 - r.x0)=u1 at *
 generalize n.b % (r.y1 - r.y0)=u2 at *
 refine aD Tryz.func23 [.cell 4 28] ?_;repeat' (first|refine an (fun K hK => ?_)|refine aa (s1) ?_|refine aa (s2) ?_|refine aa (s3) ?_|refine aa (s4) ?_|refine ax ?_|(refine aq hK ?_;try clear hK K))
 rfl
def uk (n:K4):Rect :=
 ⟨n.a % 12 - 6,n.b % 12 - 6,if (n.a.tdiv 12) % 30=29 then 1073741824+n.c % 3 - 1 else n.a % 12 - 6+n.c % 8 - 1,n.b % 12 - 6+n.d % 8 - 1⟩
theorem JK (n:K4) (hn:i64 n.a):aA Sg 26 [ag (Lt n)] (fun q=>q = .b (ag (aQ (uk n)))):=by
 have ht:True:=trivial;have s1:=bD n.a 12 (by omega) (by omega);have s2:=bD n.b 12 (by omega) (by omega);have s3:=bD n.c 8 (by omega) (by omega);have s4:=bD n.d 8 (by omega) (by omega);have s5:=bD n.c 3 (by omega) (by omega);have hq:IntKind.i64.wrap (n.a.tdiv 12)=n.a.tdiv 12:=Cf hn.1 hn.2 (by decide);have s6:aA Sg 18 [I (IntKind.i64.wrap (n.a.tdiv 12)),I 30] (fun r=>r = .b (I ((n.a.tdiv 12) % 30))):=by rw [hq];exact bD (n.a.tdiv 12) 30 (by omega) (by omega)
 have a1:0≤n.a % 12∧n.a % 12<12:=by omega
 have a2:0≤n.b % 12∧n.b % 12<12:=by omega
 have a3:0≤n.c % 8∧n.c % 8<8:=by omega
 have a4:0≤n.d % 8∧n.d % 8<8:=by omega
 have a5:0≤n.c % 3∧n.c % 3<3:=by omega
 unfold uk;generalize n.c % 3=u5 at *
 generalize n.c % 8=u3 at *
 generalize n.d % 8=u4 at *
 generalize n.a % 12=u1 at *
 generalize n.b % 12=u2 at *
 by_cases h:(n.a.tdiv 12) % 30=29
 ·have g1:((n.a.tdiv 12) % 30 == 29)=true:=beq_iff_eq.2 h;rw [if_pos h];refine aD Tryz.func26 [.cell 2 28] ?_;repeat' (refine aC ?_)
  refine sO (id:=1) (aT [(1, .b (.c (.ptr 0 0))),(2, .b (.c (.ptr 1 0))),(3, .b (.c (.ptr 2 0)))] [(0, .fix ((Lt n).map CV.p)),(1, .fix (List.replicate 4 (.p .any))),(2, .fix ([PI (u1 - 6),PI (u2 - 6),PI 0,PI 0].map CV.p))] 3) (.ho 0 true (.ho 4 true (.ho 1 false (.ho 5 false (.br 2 (.ho 3 true (.br 6 (.ho 7 true (.ho 8 true (.br 9 (.br 10 .leaf .nil) .nil))) (.br 9 (.br 6 (.ho 7 true (.ho 8 true (.br 10 .leaf .nil))) .nil) .nil))) (.br 9 (.br 2 (.ho 3 true (.br 6 (.ho 7 true (.ho 8 true (.br 10 .leaf .nil))) .nil)) .nil) .nil)))))) (by decide +kernel) (fun K0 hW => ?_) ?_
  ·repeat' (first|exact sQ|(refine sT (fun K' hK' => ?_))|(refine zE (fun K' hK' => ?_) ?_)|(refine pk (hW _ ?_);clear hW)|((first|refine aa (s1) ?_|refine aa (s2) ?_);(try simp (maxSteps:=999999)(disch:=omega) only [go_sem]);and_intros;(all_goals first|(refine hK' _ ?_;clear hK' K')|(refine hK' _ ?_ ?_;clear hK' K';focus ((try simp only [List.map_cons,List.map_nil,fS]);and_intros;(all_goals first|exact jZ|(simp (maxSteps:=999999)(disch:=omega) only [go_sem];and_intros;(all_goals first|exact fU (by (first|(simp (maxSteps:=999999)(disch:=omega) only [go_sem];done)|(simp (maxSteps:=999999)(disch:=omega) only [go_sem];rfl)|rfl))|trivial|omega|skip))|skip)))|trivial|omega|exact Nat.le_of_ble_eq_true rfl|exact ai|skip))|(simp (maxSteps:=999999)(disch:=omega) only [go_sem];and_intros;(all_goals first|(refine hK' _ ?_;clear hK' K')|(refine hK' _ ?_ ?_;clear hK' K';focus ((try simp only [List.map_cons,List.map_nil,fS]);and_intros;(all_goals first|exact jZ|(simp (maxSteps:=999999)(disch:=omega) only [go_sem];and_intros;(all_goals first|exact fU (by (first|(simp (maxSteps:=999999)(disch:=omega) only [go_sem];done)|(simp (maxSteps:=999999)(disch:=omega) only [go_sem];rfl)|rfl))|trivial|omega|skip))|skip)))|trivial|omega|exact Nat.le_of_ble_eq_true rfl|exact ai|skip)))
   ·refine au [(0,some 0),(1,some 1),(2,some 2)] ?_ ?_;and_intros;all_goals try exact aj
   ·refine au [(0,some 0),(1,some 1),(2,some 2)] ?_ ?_;and_intros;all_goals try exact aj
   ·refine au [(0,some 0),(1,some 1),(2,some 2)] ?_ ?_;and_intros;all_goals try exact aj
  repeat' (first|refine ah g1 ?_|refine ax ?_|refine an (fun K hK => ?_)|refine aa (s3) ?_|refine aa (s4) ?_|refine aa (s5) ?_|refine aa (s6) ?_|(refine aq hK ?_;try clear hK K))
  rfl
 ·have g1:((n.a.tdiv 12) % 30 == 29)=false:=beq_eq_false_iff_ne.2 h;rw [if_neg h];refine aD Tryz.func26 [.cell 2 28] ?_;repeat' (refine aC ?_)
  refine sO (id:=1) (aT [(1, .b (.c (.ptr 0 0))),(2, .b (.c (.ptr 1 0))),(3, .b (.c (.ptr 2 0)))] [(0, .fix ((Lt n).map CV.p)),(1, .fix (List.replicate 4 (.p .any))),(2, .fix ([PI (u1 - 6),PI (u2 - 6),PI 0,PI 0].map CV.p))] 3) (.ho 0 true (.ho 4 true (.ho 1 false (.ho 5 false (.br 2 (.ho 3 true (.br 6 (.ho 7 true (.ho 8 true (.br 9 (.br 10 .leaf .nil) .nil))) (.br 9 (.br 6 (.ho 7 true (.ho 8 true (.br 10 .leaf .nil))) .nil) .nil))) (.br 9 (.br 2 (.ho 3 true (.br 6 (.ho 7 true (.ho 8 true (.br 10 .leaf .nil))) .nil)) .nil) .nil)))))) (by decide +kernel) (fun K0 hW => ?_) ?_
  ·repeat' (first|exact sQ|(refine sT (fun K' hK' => ?_))|(refine zE (fun K' hK' => ?_) ?_)|(refine pk (hW _ ?_);clear hW)|((first|refine aa (s1) ?_|refine aa (s2) ?_);(try simp (maxSteps:=999999)(disch:=omega) only [go_sem]);and_intros;(all_goals first|(refine hK' _ ?_;clear hK' K')|(refine hK' _ ?_ ?_;clear hK' K';focus ((try simp only [List.map_cons,List.map_nil,fS]);and_intros;(all_goals first|exact jZ|(simp (maxSteps:=999999)(disch:=omega) only [go_sem];and_intros;(all_goals first|exact fU (by (first|(simp (maxSteps:=999999)(disch:=omega) only [go_sem];done)|(simp (maxSteps:=999999)(disch:=omega) only [go_sem];rfl)|rfl))|trivial|omega|skip))|skip)))|trivial|omega|exact Nat.le_of_ble_eq_true rfl|exact ai|skip))|(simp (maxSteps:=999999)(disch:=omega) only [go_sem];and_intros;(all_goals first|(refine hK' _ ?_;clear hK' K')|(refine hK' _ ?_ ?_;clear hK' K';focus ((try simp only [List.map_cons,List.map_nil,fS]);and_intros;(all_goals first|exact jZ|(simp (maxSteps:=999999)(disch:=omega) only [go_sem];and_intros;(all_goals first|exact fU (by (first|(simp (maxSteps:=999999)(disch:=omega) only [go_sem];done)|(simp (maxSteps:=999999)(disch:=omega) only [go_sem];rfl)|rfl))|trivial|omega|skip))|skip)))|trivial|omega|exact Nat.le_of_ble_eq_true rfl|exact ai|skip)))
   ·refine au [(0,some 0),(1,some 1),(2,some 2)] ?_ ?_;and_intros;all_goals try exact aj
   ·refine au [(0,some 0),(1,some 1),(2,some 2)] ?_ ?_;and_intros;all_goals try exact aj
   ·refine au [(0,some 0),(1,some 1),(2,some 2)] ?_ ?_;and_intros;all_goals try exact aj
  repeat' (first|refine ah g1 ?_|refine ax ?_|refine an (fun K hK => ?_)|refine aa (s3) ?_|refine aa (s4) ?_|refine aa (s6) ?_|(refine aq hK ?_;try clear hK K))
  rfl
end
section
open Go Go.SL Go.ChangeShapes Go.WideShapes Go.ChangeAt Go.RowKit
theorem XF:qN Sg.P 61 Lt (fun n=>i64 n.a):=by
 refine qN.to (iy ?_ ?_ (aV dH rfl (aV dH rfl (aV dH rfl (aV dH rfl kX))))) (fun (a,b,c,d,_)=>(⟨a,b,c,d⟩:K4)) (fun _=>rfl) ?_
 ·kernel_rfl
 ·kernel_rfl
 ·rintro _ ⟨h1,_⟩;exact h1
end
theorem ug {s:Script}:cN s=lT s s.canvas:=rfl
section
attribute [local go_sem] Int.toNat_natCast Lt List.append_eq List.cons_append List.nil_append
theorem InR.covers {t c:Rect} (h:InR t c) (hc:Small c):gm c t=true:=by
 have he:=h.empty hc;have h3:=lM hc;obtain ⟨h1,h2,h3,h4,h5,h6⟩:=h;unfold gm;simp_all
theorem IF (c:Scene) (hc:SceneOk c) (n k:K4) (hk:i64 k.a) (x y:Int):aA Sg 6 [ag (fi c),ag (Lt n),ag (Lt k),I x,I y] (fun r=>r = .b (B true)):=by
 have ht:True:=trivial;have hg:=qP c hc;have hO:=UZ c;have hsm:=hO.small;have h0:aW (ay c)=(0,0):=mM hO.V hO.im;have hir:=LC hsm n;have hsr:=hir.small hsm;have hp:=LM (ay c).canvas hsm n;have hq:=JK k hk;have h1:=kR (ay c) (iK (ay c).canvas n) hO.ev (fun _=>hsm);have e1:dV (ay c) (iK (ay c).canvas n)=0:=by
  unfold dV;rw [h0,if_neg (by decide),if_neg];rw [hir.empty hsm,hir.covers hsm];decide
 have e2:iR (ay c) (iK (ay c).canvas n)=lT (ay c) (iK (ay c).canvas n):=by unfold iR;rw [if_pos e1];rfl
 rw [e1,e2] at h1;have h2:=hO.rend;have h3:=Ly (iK (ay c).canvas n) x y hsr;have hin:=XM hsr x y;have h4:=za (lT (ay c) (iK (ay c).canvas n)) (Vg (iK (ay c).canvas n) x - (iK (ay c).canvas n).x0) (Uq (iK (ay c).canvas n) y - (iK (ay c).canvas n).y0);rw [rE hsr hin] at h4;have h5:=za (cN (ay c)) (Vg (iK (ay c).canvas n) x - (ay c).canvas.x0) (Uq (iK (ay c).canvas n) y - (ay c).canvas.y0);rw [ug,rE hsm (hir.pt hin),← ug] at h5;obtain ⟨w1,w2⟩:=FJ (s:=ay c) hsr;have h6:=kR (ay c) (uk k) hO.ev (fun _=>hsm);have h7:=nh (ay c) (uk k) hO.ev (fun _=>hsm);have h8:=fv (iR (ay c) (uk k)) (vd fun _=>hsm);have haw:=pW;obtain ⟨b1,b2,b3,b4,b5,b6⟩:=id hsm;obtain ⟨r1,r2,r3,r4,r5,r6⟩:=id hsr;unfold ic at hin;generalize dV (ay c) (uk k)=E at *
 generalize iR (ay c) (uk k)=M2 at *
 generalize lT (ay c) (iK (ay c).canvas n)=M1 at *
 generalize Vg (iK (ay c).canvas n) x=u at *
 generalize Uq (iK (ay c).canvas n) y=v at *
 generalize dS (ay c) u v=w at *
 generalize cN (ay c)=M at *
 generalize iK (ay c).canvas n=R at *
 generalize uk k=Q at *
 generalize ay c=s at *
 have g1:(M1.w == R.x1 - R.x0)=true:=beq_iff_eq.2 w1;have g2:(M1.h == R.y1 - R.y0)=true:=beq_iff_eq.2 w2;refine aD Tryz.func6 [.tmp 10] ?_;repeat' (first|((with_reducible refine bN (id:=8) (fun K hW => ?_));(try simp (maxSteps:=999999)(disch:=omega) only [go_sem]);and_intros;all_goals first|(refine hK _ ?_;clear hK K)|try exact ai)|refine an (fun K hK => ?_)|refine aa (hg) ?_|refine aa (hp) ?_|refine aa (h1) ?_|refine aa (h2) ?_|refine aa (h3) ?_|refine aa (hq) ?_|refine aa (h6) ?_|refine aa (h7) ?_|(refine aq hK ?_;try clear hK K))
 refine hW _ (aT [(10, .b (B false)),(11, .b (.c (.ptr 3 0))),(12, .b (.c (.ptr 4 0))),(13, .b (.c (.ptr 5 0))),(14, .b (I 0)),(15, .b (.c (.ptr 6 0))),(16, .b (I 0)),(18, .b (I u)),(19, .b (I v)),(21, .b (.c (.ptr 8 0))),(22, .b (I E)),(23, .b (.c (.ptr 9 0))),(24, .b (I E))]
  [(3, .fix ((aF s).map CV.p)),(4, .fix ((aQ R).map CV.p)),(5, .fix ((aI M1).map CV.p)),(6, .fix ((aI M).map CV.p)),(8, .fix ((aI M2).map CV.p)),(9, .fix ((aI M2).map CV.p))] 10) ?_ ?_
 ·clear hW;refine au [(3,some 3),(4,some 4),(5,some 5),(6,some 6),(8,some 8),(9,some 9)] ?_ ?_;and_intros;all_goals try exact aj
 clear hW;repeat' (first|refine an (fun K hK => ?_)|refine aa (haw) ?_|refine aw (fun hg=>h4) ?_|refine aw (fun hg=>h5) ?_|refine aw (fun hg=>h8) ?_|refine ax ?_|(refine aq hK ?_;try clear hK K))
 refine congrArg (fun b=>SV.b (B b)) (?_:_=true);rw [g1,g2];simp only [beq_self_eq_true,Bool.and_self,Bool.true_and,Bool.and_true]
end
end Go.Proofs.YtcbifofjjpfbcaaGreatDoor
