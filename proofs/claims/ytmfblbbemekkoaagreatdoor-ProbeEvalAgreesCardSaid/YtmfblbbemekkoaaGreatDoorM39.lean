/- Part of the proof: W0, LS, L4. -/
import Derived.Test.YtmfblbbemekkoaaGreatDoorM35
set_option linter.unusedSimpArgs false
set_option linter.unusedVariables false
namespace Go.Proofs.YtmfblbbemekkoaaGreatDoor
theorem AR {m:Image} {more:Int} (h:aX m=true) (hw:m.w≤1000) (hh:m.h≤1000) (x y:Int):eI (bG m more) x y=eI m x y:=by
 obtain ⟨e1,e2,_,_⟩:=uQ (m:=m) (more:=more)
 unfold eI
 rw [mu hw hh h,h,e1,e2]
 by_cases c:true=false∨x<0∨m.w≤x∨y<0∨m.h≤y
 ·rw [if_pos c,if_pos c]
 ·rw [if_neg c,if_neg c]
  exact rI h hw hh (by omega) (by omega) (by omega) (by omega)
theorem Ax {s t:Script} (h1:s.bits=t.bits) (h2:s.ops=t.ops) (h3:s.images.length=t.images.length) (h:∀ i:Int,0≤i→i<s.images.length→∀ x y,eI (gC s i) x y=eI (gC t i) x y) (x y:Int):cK s x y=cK t x y:=by
 have key:bd s x y=bd t x y:=by
  funext o
  unfold bd
  refine Prod.ext ?_ ?_
  ·dsimp only
   rw [← h3]
   split
   ·rename_i c
    rw [ji,ji,h _ c.2.1 c.2.2]
   ·rfl
  ·dsimp only
   rw [← h3]
   split
   ·rename_i c
    rw [ji,ji,h _ (by omega) (by omega)]
   ·rfl
 unfold cK
 rw [key,h1,h2]
end Go.Proofs.YtmfblbbemekkoaaGreatDoor
set_option maxRecDepth 8000
set_option maxHeartbeats 4000000
namespace Go.Proofs.YtmfblbbemekkoaaGreatDoor
open Go Go.SL
open Go.RowKit (wrap64)
theorem vD {c:Scene} {s:Script} (h:Of c s) (hsz:∀ k,k<s.images.length→(s.images.getD k default).w≤5∧(s.images.getD k default).h≤4) (more x y:Int):cK s x y=cK (bz s more) x y:=by
 have hl:s.images.length=(bz s more).images.length:=by simp only [bz,List.length_map]
 have hb:s.bits=(bz s more).bits:=by simp only [bz]
 have ho:s.ops=(bz s more).ops:=by simp only [bz]
 refine Ax hb ho hl (fun i h0 h1 a b => ?_) x y
 rw [rq h0 h1]
 obtain ⟨n,rfl⟩:=Int.eq_ofNat_of_zero_le h0
 have q:=hsz n (by omega)
 have e:gC s (n:Int)=s.images.getD n default:=by unfold gC;rw [Int.toNat_natCast]
 rw [AR (by rw [e];exact ta h (by omega)) (by rw [e];omega) (by rw [e];omega)]
theorem KX {s:Script} {m x y:Int} (C:Pt s m x y):PixV (cK s x y) m:=by
 have ha:=BW C s.ops.length (Nat.le_refl _)
 have e:fI m (bd s x y) s.ops s.ops.length=jR m (bd s x y) s.ops [cz]:=by unfold fI;rw [List.take_length]
 obtain ⟨t,r,q⟩:=ha.ne
 rw [q] at ha
 unfold cK
 rw [C.mx,← e,q]
 exact fW C.hm ha.v.head.v
end Go.Proofs.YtmfblbbemekkoaaGreatDoor
set_option maxHeartbeats 4000000
set_option maxRecDepth 16000
namespace Go.Proofs.YtmfblbbemekkoaaGreatDoor
open Go Go.SL
open Go.RowKit (wrap64)
attribute [local go_sem] Int.toNat_natCast ig Dl vG Cq
theorem zX (c:Scene) (hc:SceneOk c) (x y more:Int):aC Sg 4 [ag (dk c),I x,I y,I more] (fun r=>r = .b (B true)):=by
 have ht:True:=trivial
 have hg:=lN c hc
 have hO:=Gt c
 have hsz:=fun k hk=>Cu c (k:=k) hk
 have hT:=sZ hO hsz more
 have hsm:Small (au c).canvas:=bK c
 have hin:=CB hsm x y
 have hp:=pd (au c).canvas x y hsm
 have hi:=BU hsm x y
 have C:=hO.pt (x:=Ei (au c).canvas x) (y:=Ez (au c).canvas y) hin
 have D:=hT.pt (x:=Ei (au c).canvas x) (y:=Ez (au c).canvas y) hin
 have hsl:=ru c
 have hn2:=hO.n2
 generalize Ei (au c).canvas x=u at *
 generalize Ez (au c).canvas y=v at *
 have h0:=yI (au c) u v _ C hsl hi.1 hi.2
 have h1:=gF (bz (au c) more) u v hT.ev hi.1 hi.2
 rw [(oR D).1,(oR D).2.1,← vD hO hsz more u v] at h1
 have h3:aC Sg 25 [I (au c).bits] (fun x=>x = .tup [U (bO c.bits),B (decide ((au c).bits=8∨(au c).bits=16))]):=by
  have:=fy (au c).bits
  rw [show (if (au c).bits=8 then (255:Int) else if (au c).bits=16 then 65535 else 0)=bo (au c).bits from rfl,C.mx] at this
  exact this
 have h4:=dY (cK (au c) u v) (bO c.bits)
 rw [gi (KX C)] at h4
 have haw:=mn
 have hs:∀ i,i<(au c).images.length→aC Sg 16 [ag (aN ((au c).images.getD i default)),I more] (fun r=>r = .b (ag (aN (bG ((au c).images.getD i default) more)))):=fun i hi =>
  tq _ more (ta hO hi) (hsz i hi).1 (hsz i hi).2
 generalize cK (au c) u v=w at *
 have hl:(bz (au c) more).images.length=(au c).images.length:=by simp [bz]
 generalize au c=s at *
 refine aA Tryz.func4 [.tmp 8] ?_
 repeat' (first|((with_reducible refine aT (id:=3) (fun K hW => ?_));(try simp (maxSteps:=999999)(disch:=omega) only [go_sem]);and_intros;(all_goals first|(refine hK _ ?_;clear hK K)|exact aa|skip))|((first|refine ai (fun K hK => ?_)|refine xg (hg) ?_|refine ae (hp) ?_);and_intros;(all_goals first|(refine hK _ ?_;clear hK K)|exact aa|skip)))
 refine ik ?_ ?_ (by simp (maxSteps:=999999)(disch:=omega) only [go_sem]) ?_ (h0)
 try simp (maxSteps:=999999)(disch:=omega) only [go_sem]
 try (refine hK _ ?_;clear hK K)
 rotate_left
 ·simp (maxSteps:=1000000) (disch:=omega) only [go_sem,fA,gn]
  exact ⟨fun _ _ _ _ h=>h,fun _ _ _ _ h=>h,fun _ _ _ _ h=>h⟩
 ·exact fT _
 refine hW _ (aQ [(3, .b (I more)),(8, .b (B false)),(9, .b (.c (.ptr 2 0))),(10, .b (I u)),(11, .b (I v)),(12, .b (.c (.ptr 3 0)))] [(1, .arr 47 28 s.images.length (rP more s.images 0)),
  (2, .fix [.p (PI s.bits), .p (PI s.canvas.x0), .p (PI s.canvas.y0), .p (PI s.canvas.x1), .p (PI s.canvas.y1), .p (PI s.tileW), .p (PI s.tileH), .p (dQ s.order), .own 1 s.images.length, .p (ma s.ops)]),(3, .fix ((aF w).map CV.p))] 4) ?_ ?_
 ·refine az [(1,some 1),(2,some 2),(3,some 3)] ?_ ?_
  and_intros
  all_goals first|exact ao|skip
  all_goals exact .inl wT.symm
 clear hW
 repeat' (first|refine an ?_|(refine ai (fun K hK => ?_);and_intros;(all_goals first|(refine hK _ ?_;clear hK K)|exact aa|skip)))
 refine aO (X:=Nat) (fun i=>aQ [(3, .b (I more)),(8, .b (B false)),(9, .b (.c (.ptr 2 0))),(10, .b (I u)),(11, .b (I v)),(12, .b (.c (.ptr 3 0))),(13, .b (I i))] [(1, .arr 47 28 s.images.length (rP more s.images i)),
  (2, .fix [.p (PI s.bits), .p (PI s.canvas.x0), .p (PI s.canvas.y0), .p (PI s.canvas.x1), .p (PI s.canvas.y1), .p (PI s.tileW), .p (PI s.tileH), .p (dQ s.order), .own 1 s.images.length, .p (ma s.ops)]),(3, .fix ((aF w).map CV.p))] 4) (fun i=>i≤s.images.length) (fun i=>s.images.length - i) 0 ?_ ?_ ?_
 ·omega
 ·refine az [(1,some 1),(2,some 2),(3,some 3)] ?_ ?_
  and_intros
  all_goals first|exact ao|skip
 intro i hi
 rcases Nat.lt_or_ge i s.images.length with h|h
 ·have g0:decide ((i:Int)<s.images.length)=true:=decide_eq_true (by omega)
  have hsi:=hs i h
  repeat' (first|refine aj g0 ?_|refine an ?_|((first|refine ai (fun K hK => ?_)|refine ae (hsi) ?_);and_intros;(all_goals first|(refine hK _ ?_;clear hK K)|exact aa|skip)))
  rw [ah]
  refine aw (i+1) ?_ (by omega) (by omega)
  refine az [(1,some 1),(2,some 2),(3,some 3)] ?_ ?_
  and_intros
  all_goals first|exact ao|skip
  all_goals
   refine .inr fun a ha j hj => ?_
   by_cases hai:a=i
   ·subst hai
    rw [if_pos rfl,if_pos ⟨Nat.zero_le _,hj⟩,wh]
    have hivl:j=0∨j=1∨j=2∨j=3∨j=4∨j=5∨j=6∨j=7∨j=8∨j=9∨j=10∨j=11∨j=12∨j=13∨j=14∨j=15∨j=16∨j=17∨j=18∨j=19∨j=20∨j=21∨j=22∨j=23∨j=24∨j=25∨j=26∨j=27:=by omega
    rcases hivl with rfl|rfl|rfl|rfl|rfl|rfl|rfl|rfl|rfl|rfl|rfl|rfl|rfl|rfl|rfl|rfl|rfl|rfl|rfl|rfl|rfl|rfl|rfl|rfl|rfl|rfl|rfl|rfl <;> exact PV.le_refl _
   ·rw [if_neg hai,zM hai]
    exact PV.le_refl _
 ·have g0:decide ((i:Int)<s.images.length)=false:=decide_eq_false (by omega)
  have hi2:i=s.images.length:=by omega
  subst hi2
  repeat' (first|refine an ?_|((with_reducible refine aT (id:=5) (fun K hW => ?_));(try simp (maxSteps:=999999)(disch:=omega) only [go_sem]);and_intros;(all_goals first|(refine hK _ ?_;clear hK K)|exact aa|skip)))
  refine hW _ (aQ [(36, .b (B (decide ((s.images.length:Int)<s.images.length)))),(8, .b (B false)),(9, .b (.c (.ptr 2 0))),(10, .b (I u)),(11, .b (I v)),(12, .b (.c (.ptr 3 0)))] [(2, .fix ((aE (bz s more)).map CV.p)),(3, .fix ((aF w).map CV.p))] 4) ?_ ?_
  ·refine az [(2,some 2),(3,some 3)] ?_ ?_
   and_intros
   all_goals first|exact ao|skip
   all_goals first
    | exact hl.symm
    | (refine fun a ha j hj => ?_;rw [Ad ha];exact PV.le_refl _)
  clear hW
  repeat' (first|refine aj g0 ?_|refine an ?_|((first|refine ai (fun K hK => ?_)|refine ae (h1) ?_|refine ae (h3) ?_|refine aD (fun hg=>h4) ?_|refine ae (haw) ?_);and_intros;(all_goals first|(refine hK _ ?_;clear hK K)|exact aa|skip))|(refine ak ?_;(try clear hB KB);(try clear hK K)))
  refine congrArg (fun b=>SV.b (B b)) (?_:_=true)
  simp only [beq_self_eq_true,Bool.and_self,Bool.true_and,Bool.and_true]
end Go.Proofs.YtmfblbbemekkoaaGreatDoor
