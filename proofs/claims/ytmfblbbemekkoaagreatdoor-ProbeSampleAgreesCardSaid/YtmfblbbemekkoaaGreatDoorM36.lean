/- Part of the proof: BrT, L5. -/
import Derived.Test.YtmfblbbemekkoaaGreatDoorM35
set_option linter.unusedSimpArgs false
set_option linter.unusedVariables false
namespace Go.SL
open Go Go.ChangeShapes Go.WideShapes Go.ChangeAt Go.RowKit
section
variable {P:Program} {H:Type} {enc:TypeId × Value→H}
theorem yH {w : World} {cz : Nat} {spare : Nat → Bool} {held : Bool} {t0 t1 t2 t3 t4 t5 : TypeId} {args : Array Value} {ds : List (DataW H)} {ps : List MemPlace} (h : DataW.TrodAll enc P w cz spare held [t0, t1, t2, t3, t4, t5] args.toList ds ps) :
  ∃ v0 v1 v2 v3 v4 v5 d0 d1 d2 d3 d4 d5 p0 p1 p2 p3 p4 p5,args = #[v0,v1,v2,v3,v4,v5]∧ds=[d0,d1,d2,d3,d4,d5]∧ps=p0 ++ p1 ++ p2 ++ p3 ++ p4 ++ p5∧DataW.Trod enc P w cz spare held t0 v0 d0 p0∧DataW.Trod enc P w cz spare held t1 v1 d1 p1 ∧
   DataW.Trod enc P w cz spare held t2 v2 d2 p2∧DataW.Trod enc P w cz spare held t3 v3 d3 p3∧DataW.Trod enc P w cz spare held t4 v4 d4 p4∧DataW.Trod enc P w cz spare held t5 v5 d5 p5:=by
 obtain ⟨v0,vs,d0,ds',p0,q,hargs,rfl,rfl,h0,hrest⟩:=trodAll_cons h
 obtain ⟨v1,vs1,d1,ds1,p1,q1,rfl,rfl,rfl,h1,hrest1⟩:=trodAll_cons hrest
 obtain ⟨v2,vs2,d2,ds2,p2,q2,rfl,rfl,rfl,h2,hrest2⟩:=trodAll_cons hrest1
 obtain ⟨v3,vs3,d3,ds3,p3,q3,rfl,rfl,rfl,h3,hrest3⟩:=trodAll_cons hrest2
 obtain ⟨v4,vs4,d4,ds4,p4,q4,rfl,rfl,rfl,h4,hrest4⟩:=trodAll_cons hrest3
 obtain ⟨v5,vs5,d5,ds5,p5,q5,rfl,rfl,rfl,h5,hrest5⟩:=trodAll_cons hrest4
 obtain ⟨rfl,rfl,rfl⟩:=trodAll_nil hrest5
 exact ⟨v0,v1,v2,v3,v4,v5,d0,d1,d2,d3,d4,d5,p0,p1,p2,p3,p4,p5,by cases args;simp_all,rfl,by simp,h0,h1,h2,h3,h4,h5⟩
end
end Go.SL
set_option maxHeartbeats 4000000
set_option maxRecDepth 16000
namespace Go.Proofs.YtmfblbbemekkoaaGreatDoor
open Go Go.SL
open Go.RowKit (wrap64)
attribute [local go_sem] Int.toNat_natCast ig Dl vG Cq
theorem vu (c : Scene) (hc : SceneOk c) (o : Op) (r : Raw) (hr : RawOk r) (x y more : Int) (hx : i64 x) (hy : i64 y) (o1 : i64 o.x) (o2 : i64 o.y) (o3 : i64 o.maskX) (o4 : i64 o.maskY) (o5 : i64 o.mask) :
  aC Sg 3 [ag (dk c),ag (cT o),ag (za r),I x,I y,I more] (fun r=>r = .b (B true)):=by
 have ht:True:=trivial
 have hg:=lN c hc
 have hO:=Gt c
 have hsz:=fun k hk=>Cu c (k:=k) hk
 have hT:=sZ hO hsz more
 have hsm:Small (au c).canvas:=bK c
 have hsl:=hT.sl
 have hn1:=hO.n1
 have hn2:=hO.n2
 have haw:=mn
 have hcx : -6≤(au c).canvas.x0∧(au c).canvas.x0≤6 ∧ -6≤(au c).canvas.y0∧(au c).canvas.y0≤6:=by
  show -6≤(aq c).x0∧(aq c).x0≤6 ∧ -6≤(aq c).y0∧(aq c).y0≤6
  unfold aq
  dsimp only
  omega
 have hs:∀ i,i<(au c).images.length→aC Sg 16 [ag (aN ((au c).images.getD i default)),I more] (fun r=>r = .b (ag (aN (bG ((au c).images.getD i default) more)))):=fun i hi =>
  tq _ more (ta hO hi) (hsz i hi).1 (hsz i hi).2
 have hl:(bz (au c) more).images.length=(au c).images.length:=by simp [bz]
 have hcv:(bz (au c) more).canvas=(au c).canvas:=rfl
 generalize au c=s at *
 have m1:=bN x 30 (by omega) (by omega)
 have m2:=bN y 30 (by omega) (by omega)
 have m5:=bN more 5 (by omega) (by omega)
 have a1:=Int.emod_nonneg x (show (30:Int)≠0 by omega)
 have a2:=Int.emod_lt_of_pos x (show (0:Int)<30 by omega)
 have a3:=Int.emod_nonneg y (show (30:Int)≠0 by omega)
 have a4:=Int.emod_lt_of_pos y (show (0:Int)<30 by omega)
 have hop:=xT r (more % 5 == 0) (s.images.length+1) s.canvas true 255 hr (by omega) (by omega) (by omega) (by omega) (by omega) (by omega) ⟨by omega,by omega⟩
 have q1:=dq r.x s.canvas.x0
 have q2:=dq r.y s.canvas.y0
 have q3:=dq r.maskX s.canvas.x0
 have q4:=dq r.maskY s.canvas.y0
 have e5:=Int.emod_nonneg (r.mask.tdiv 4) (show ((s.images.length:Int)+1)≠0 by omega)
 have e6:=Int.emod_lt_of_pos (r.mask.tdiv 4) (show (0:Int)<(s.images.length:Int)+1 by omega)
 have hq : i64 (kz r (more % 5 == 0) (s.images.length + 1) s.canvas.x0 s.canvas.y0 true 255).x ∧ i64 (kz r (more % 5 == 0) (s.images.length + 1) s.canvas.x0 s.canvas.y0 true 255).y ∧
   i64 (kz r (more % 5 == 0) (s.images.length+1) s.canvas.x0 s.canvas.y0 true 255).maskX∧i64 (kz r (more % 5 == 0) (s.images.length+1) s.canvas.x0 s.canvas.y0 true 255).maskY ∧
   i64 (kz r (more % 5 == 0) (s.images.length+1) s.canvas.x0 s.canvas.y0 true 255).mask:=by
  unfold kz i64
  dsimp only
  refine ⟨?_, ?_, ?_, ?_, ?_⟩ <;> (split <;> omega)
 generalize kz r (more % 5 == 0) (s.images.length+1) s.canvas.x0 s.canvas.y0 true 255=q at *
 have s1:=eR (bz s more) q (x % 30 - 15) (y % 30 - 15) hsl ⟨by omega,by omega⟩ ⟨by omega,by omega⟩ hq.1 hq.2.1 hq.2.2.1 hq.2.2.2.1 hq.2.2.2.2
 have s2:=ir (bz s more) q (x % 30 - 15) (y % 30 - 15) hsl ⟨by omega,by omega⟩ ⟨by omega,by omega⟩ hq.1 hq.2.1 hq.2.2.1 hq.2.2.2.1
 have s3:=eR (bz s more) o x y hsl hx hy o1 o2 o3 o4 o5
 have s4:=ir (bz s more) o x y hsl hx hy o1 o2 o3 o4
 have s5:=eR (bz s more) o o.x o.y hsl o1 o2 o1 o2 o3 o4 o5
 have s6:=ir (bz s more) o o.x o.y hsl o1 o2 o1 o2 o3 o4
 generalize x % 30=xm at *
 generalize y % 30=ym at *
 generalize bd (bz s more) (xm - 15) (ym - 15) q=z1 at *
 generalize bd (bz s more) x y o=z2 at *
 generalize bd (bz s more) o.x o.y o=z3 at *
 refine aA Tryz.func3 [.tmp 12] ?_
 repeat' (first|refine an ?_|((with_reducible refine aT (id:=2) (fun K hW => ?_));(try simp (maxSteps:=999999)(disch:=omega) only [go_sem]);and_intros;(all_goals first|(refine hK _ ?_;clear hK K)|exact aa|skip))|((first|refine ai (fun K hK => ?_)|refine xg (hg) ?_);and_intros;(all_goals first|(refine hK _ ?_;clear hK K)|exact aa|skip)))
 refine hW _ (aQ [(3, .b (I x)),(4, .b (I y)),(5, .b (I more)),(7, .b (.c (.ptr 1 0))),(8, .b (.c (.ptr 2 0))),(12, .b (B false)),(13, .b (.c (.ptr 4 0))),(14, .b (I 0))] [(1, .fix ((cT o).map CV.p)),(2, .fix ((za r).map CV.p)),(3, .arr 47 28 s.images.length (rP more s.images 0)),
  (4, .fix [.p (PI s.bits), .p (PI s.canvas.x0), .p (PI s.canvas.y0), .p (PI s.canvas.x1), .p (PI s.canvas.y1), .p (PI s.tileW), .p (PI s.tileH), .p (dQ s.order), .own 3 s.images.length, .p (ma s.ops)])] 5) ?_ ?_
 ·refine az [(1,some 1),(2,some 2),(3,some 3),(4,some 4)] ?_ ?_
  and_intros
  all_goals first|exact ao|skip
  all_goals exact .inl wT.symm
 clear hW
 repeat' (refine an ?_)
 refine aO (X:=Nat) (fun i=>aQ [(3, .b (I x)),(4, .b (I y)),(5, .b (I more)),(7, .b (.c (.ptr 1 0))),(8, .b (.c (.ptr 2 0))),(12, .b (B false)),(13, .b (.c (.ptr 4 0))),(14, .b (I i))] [(1, .fix ((cT o).map CV.p)),(2, .fix ((za r).map CV.p)),(3, .arr 47 28 s.images.length (rP more s.images i)),
  (4, .fix [.p (PI s.bits), .p (PI s.canvas.x0), .p (PI s.canvas.y0), .p (PI s.canvas.x1), .p (PI s.canvas.y1), .p (PI s.tileW), .p (PI s.tileH), .p (dQ s.order), .own 3 s.images.length, .p (ma s.ops)])] 5) (fun i=>i≤s.images.length) (fun i=>s.images.length - i) 0 ?_ ?_ ?_
 ·omega
 ·refine az [(1,some 1),(2,some 2),(3,some 3),(4,some 4)] ?_ ?_
  and_intros
  all_goals first|exact ao|skip
 intro i hi
 rcases Nat.lt_or_ge i s.images.length with h|h
 ·have g0:decide ((i:Int)<s.images.length)=true:=decide_eq_true (by omega)
  have hsi:=hs i h
  repeat' (first|refine aj g0 ?_|refine an ?_|((first|refine ai (fun K hK => ?_)|refine ae (hsi) ?_);and_intros;(all_goals first|(refine hK _ ?_;clear hK K)|exact aa|skip)))
  rw [ah]
  refine aw (i+1) ?_ (by omega) (by omega)
  refine az [(1,some 1),(2,some 2),(3,some 3),(4,some 4)] ?_ ?_
  and_intros
  all_goals first|exact ao|skip
  all_goals
   refine .inr fun a ha j hj => ?_
   by_cases hai:a=i
   ·subst hai
    rw [if_pos rfl,if_pos ⟨Nat.zero_le _,hj⟩,wh]
    have hivl:j=0∨j=1∨j=2∨j=3∨j=4∨j=5∨j=6∨j=7∨j=8∨j=9∨j=10∨j=11∨j=12∨j=13∨j=14∨j=15∨j=16∨j=17∨j=18∨j=19∨j=20∨j=21∨j=22∨j=23∨j=24∨j=25∨j=26∨j=27:=by omega
    rcases hivl with rfl|rfl|rfl|rfl|rfl|rfl|rfl|rfl|rfl|rfl|rfl|rfl|rfl|rfl|rfl|rfl|rfl|rfl|rfl|rfl|rfl|rfl|rfl|rfl|rfl|rfl|rfl|rfl <;> exact PV.le_refl _
   ·rw [if_neg hai,zM hai]
    exact PV.le_refl _
 ·have g0:decide ((i:Int)<s.images.length)=false:=decide_eq_false (by omega)
  have hi2:i=s.images.length:=by omega
  subst hi2
  repeat' (first|refine an ?_|((with_reducible refine aT (id:=3) (fun K hW => ?_));(try simp (maxSteps:=999999)(disch:=omega) only [go_sem]);and_intros;(all_goals first|(refine hK _ ?_;clear hK K)|exact aa|skip)))
  refine hW _ (aQ [(36, .b (B (decide ((s.images.length:Int)<s.images.length)))),(3, .b (I x)),(4, .b (I y)),(5, .b (I more)),(7, .b (.c (.ptr 1 0))),(8, .b (.c (.ptr 2 0))),(12, .b (B false)),(13, .b (.c (.ptr 3 0)))] [(1, .fix ((cT o).map CV.p)),(2, .fix ((za r).map CV.p)),(3, .fix ((aE (bz s more)).map CV.p))] 4) ?_ ?_
  ·refine az [(1,some 1),(2,some 2),(3,some 4)] ?_ ?_
   and_intros
   all_goals first|exact ao|skip
   all_goals first
    | exact hl.symm
    | (refine fun a ha j hj => ?_;rw [Ad ha];exact PV.le_refl _)
  clear hW
  rw [← hl] at hop
  repeat' (first|refine aj g0 ?_|refine an ?_|((first|refine ai (fun K hK => ?_)|refine ae (m1) ?_|refine ae (m2) ?_);and_intros;(all_goals first|(refine hK _ ?_;clear hK K)|exact aa|skip)))
  refine dN (id:=7) (.br 0 (.br 1 (.br 4 (.br 5 (.br 6 (.br 7 (.br 8 (.br 9 (.br 2 (.br 3 (.br 10 (.br 11 (.br 12 .leaf .nil) .nil) .nil) .nil) (.br 11 (.br 2 (.br 3 (.br 10 (.br 12 .leaf .nil) .nil) .nil) .nil) .nil)) .nil) .nil) .nil) .nil) .nil) .nil) .nil) .nil) (by decide +kernel) (by (first|(refine And.intro (fun iw hiw => ?_) ?_;(focus ((try simp (maxSteps:=999999)(disch:=omega) only [go_sem] at hiw ⊢);(repeat (refine Eq.trans (if_neg ?_) ?_;(focus omega)));exact hw iw (by omega)));(focus (first|exact Nat.zero_le _|(simp (maxSteps:=999999)(disch:=omega) only [go_sem];done)|(simp (maxSteps:=999999)(disch:=omega) only [go_sem];omega))))|exact cR)) (fun K0 hW => ?_)
  refine (fun (tl:∀ st,Le st (aQ [(3, .b (I x)),(4, .b (I y)),(7, .b (.c (.ptr 1 0))),(12, .b (B false)),(13, .b (.c (.ptr 3 0))),(15, .b (I (xm - 15))),(16, .b (I (ym - 15))),(17, .b (.c (.ptr 4 0)))] [(1, .fix ((cT o).map CV.p)),(3, .fix ((aE (bz s more)).map CV.p)),(4, .fix ((cT q).map CV.p))] 5)→K0 st) => ?_) (fun st hl=>hW st _ hl ?_)
  ·clear hW
   repeat' (first|exact ba|(refine bq (fun K' hK' => ?_) ?_)|(refine aV (tl _ ?_);clear tl)|((first|refine ae (m5) ?_|refine ae (hop) ?_);(try simp (maxSteps:=999999)(disch:=omega) only [go_sem]);and_intros;(all_goals first|(refine hK' _ ?_;clear hK' K')|trivial|omega|exact Nat.le_of_ble_eq_true rfl|exact aa|skip))|(simp (maxSteps:=999999)(disch:=omega) only [go_sem];and_intros;(all_goals first|(refine hK' _ ?_;clear hK' K')|trivial|omega|exact Nat.le_of_ble_eq_true rfl|exact aa|skip)))
   all_goals
    refine az [(1,some 1),(3,some 3),(4,some 4)] ?_ ?_
    and_intros
    all_goals first|exact ao|skip
  clear hW
  repeat' (first|((first|refine ai (fun K hK => ?_)|refine ae (s1) ?_|refine ae (s2) ?_|refine ae (s3) ?_|refine ae (s4) ?_|refine ae (s5) ?_|refine ae (s6) ?_|refine ae (haw) ?_);and_intros;(all_goals first|(refine hK _ ?_;clear hK K)|exact aa|skip))|(refine ak ?_;(try clear hB KB);(try clear hK K)))
  refine congrArg (fun b=>SV.b (B b)) (?_:_=true)
  simp only [beq_self_eq_true,Bool.and_self,Bool.true_and,Bool.and_true]
end Go.Proofs.YtmfblbbemekkoaaGreatDoor
