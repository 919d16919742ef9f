/- Part of the proof: RH, N1, RJ. -/
import Derived.Test.YtcbifofjjpfbcaaGreatDoorM33
set_option linter.unusedSimpArgs false
set_option linter.unusedVariables false
set_option maxHeartbeats 8000000
set_option maxRecDepth 16000
namespace Go.Proofs.YtcbifofjjpfbcaaGreatDoor
open Go Go.SL
open Go.RowKit (wrap64)
def uE:Script := { bits:=8,canvas:=⟨0,0,2,1⟩,tileW:=1,tileH:=1,order:=[],images:=[awI],ops:=[] }
theorem Uz:EvOk uE:=⟨⟨by decide,by decide,by decide⟩,fun o ho=>(by cases ho),fun _ m hm=>by rw [List.mem_singleton.1 hm];exact ⟨.inr (.inr rfl),by decide,by decide,by decide⟩⟩
theorem WC:aW uE=(0,0)∧aW Er=(0,0)∧dS uE 1 0=bQ∧dS Er 1 0=VS∧dS Er 0 0=bQ:=by decide +kernel
theorem mH:Small (⟨0,0,2,1⟩:Rect):=⟨by decide,by decide,by decide,by decide,by decide,by decide⟩
theorem pW:aA Sg 15 [] (fun r=>r = .b (B true)):=by
 have ht:True:=trivial;obtain ⟨e1,e2,e3,e4,e5⟩:=WC;have h1:=ju uE Uz (fun _=>mH);have h2:=ju Er Wj (fun _=>mH);have r1:ga uE=lT uE ⟨0,0,2,1⟩:=by unfold ga;rw [e1,if_pos rfl];rfl
 have r2:ga Er=lT Er ⟨0,0,2,1⟩:=by unfold ga;rw [e2,if_pos rfl];rfl
 rw [r1,e1] at h1;rw [r2,e2] at h2;have a1:=rE (s:=uE) mH (x:=1) (y:=0) (by unfold ic;decide);have a2:=rE (s:=Er) mH (x:=1) (y:=0) (by unfold ic;decide);have a3:=rE (s:=Er) mH (x:=0) (y:=0) (by unfold ic;decide);have w1:=FJ (s:=uE) mH;rw [e3] at a1;rw [e4] at a2;rw [e5] at a3;have q1:=za (lT uE ⟨0,0,2,1⟩) 1 0;have q2:=za (lT Er ⟨0,0,2,1⟩) 1 0;have q3:=za (lT Er ⟨0,0,2,1⟩) 0 0;rw [show cU (lT uE ⟨0,0,2,1⟩) 1 0=bQ from a1] at q1;rw [show cU (lT Er ⟨0,0,2,1⟩) 1 0=VS from a2] at q2;rw [show cU (lT Er ⟨0,0,2,1⟩) 0 0=bQ from a3] at q3;obtain ⟨w1,w2⟩:=w1;generalize lT uE ⟨0,0,2,1⟩=M at *
 generalize lT Er ⟨0,0,2,1⟩=N at *
 have w1:M.w=2:=w1;have w2:M.h=1:=w2;refine aD Tryz.func15 [.tmp 0] ?_;repeat' (first|((with_reducible refine bN (id:=2) (fun K hW => ?_));(try simp (maxSteps:=999999)(disch:=omega) only [go_sem]);and_intros;all_goals first|(refine hK _ ?_;clear hK K)|try exact ai)|refine aC ?_)
 refine hW _ (aT [(0, .b (B false)),(1, .b (.c (.ptr 0 0))),(2, .b (.c (.ptr 1 0)))] [(0, .fix ((aS VS).map CV.p)),(1, .fix ((aF uE).map CV.p))] 2) ?_ ?_
 ·refine au [(1,some 2)] ?_ ?_;and_intros;all_goals try exact aj
  ·exact ed
  ·intro i hi j hj;obtain rfl:i=0:=by omega
   have hivl:j=0∨j=1∨j=2∨j=3∨j=4∨j=5∨j=6∨j=7∨j=8∨j=9∨j=10∨j=11∨j=12∨j=13∨j=14∨j=15∨j=16∨j=17∨j=18∨j=19∨j=20∨j=21∨j=22∨j=23∨j=24∨j=25∨j=26∨j=27:=by omega
   rcases hivl with rfl|rfl|rfl|rfl|rfl|rfl|rfl|rfl|rfl|rfl|rfl|rfl|rfl|rfl|rfl|rfl|rfl|rfl|rfl|rfl|rfl|rfl|rfl|rfl|rfl|rfl|rfl|rfl <;> (first|exact PV.le_refl _|exact ed)
  ·exact ed
 clear hW;repeat' (first|((with_reducible refine bN (id:=4) (fun K hW => ?_));(try simp (maxSteps:=999999)(disch:=omega) only [go_sem]);and_intros;all_goals first|(refine hK _ ?_;clear hK K)|try exact ai)|refine an (fun K hK => ?_)|refine aa (h1) ?_|(refine aq hK ?_;try clear hK K))
 refine hW _ (aT [(0, .b (B false)),(1, .b (.c (.ptr 0 0))),(2, .b (.c (.ptr 1 0))),(3, .b (.c (.ptr 2 0))),(4, .b (I 0))] [(0, .fix ((aS VS).map CV.p)),(1, .fix ((aF Er).map CV.p)),(2, .fix ((aI M).map CV.p))] 3) ?_ ?_
 ·refine au [(1,some 1),(2,some 2)] ?_ ?_;and_intros;all_goals try exact aj
  intro i hi j hj;obtain rfl:i=0:=by omega
  have hivl:j=0∨j=1∨j=2∨j=3∨j=4∨j=5∨j=6∨j=7∨j=8∨j=9∨j=10∨j=11:=by omega
  rcases hivl with rfl|rfl|rfl|rfl|rfl|rfl|rfl|rfl|rfl|rfl|rfl|rfl <;> exact PV.le_refl _
 clear hW;repeat' (first|refine an (fun K hK => ?_)|refine aa (h2) ?_|refine aw (fun hg=>q1) ?_|refine aw (fun hg=>q2) ?_|refine aw (fun hg=>q3) ?_|refine ax ?_|(refine aq hK ?_;try clear hK K))
 rw [w1,w2];rfl
section
attribute [local go_sem] Int.toNat_natCast
theorem Of.small' {c:Scene} {s:Script} (h:Of c s):(aW s).1=0→Small s.canvas:=fun _=>h.small
theorem Of.zero {c:Scene} {s:Script} (h:Of c s):aW s=(0,0):=mM h.V h.im
theorem Of.rend {c:Scene} {s:Script} (h:Of c s):aA Sg 13 [ag (aF s)] (fun r=>r = .tup [ag (aI (cN s)),I 0,I 0]):=by
 have:=ju s h.ev h.small';rw [h.zero] at this;have e:ga s=cN s:=by unfold ga;rw [h.zero,if_pos rfl]
 rw [e] at this;exact this
end
section
attribute [local go_sem] Nat.add_zero lq Int.toNat_natCast cA
theorem InR.small {t c:Rect} (h:InR t c) (hc:Small c):Small t:=by
 obtain ⟨h1,h2,h3,h4,h5,h6⟩:=h;obtain ⟨c1,c2,c3,c4,c5,c6⟩:=hc;exact ⟨by omega,by omega,by omega,by omega,by omega,by omega⟩
theorem Qf {sz n:Nat} {f g:Nat→Nat→PV} (h:∀ i,i<n→∀ j,j<sz→PV.le (f i j) (g i j)):PV.le (.lst sz n f) (.lst sz n g):=fun _ _ u hu=>by
 obtain ⟨a,c,e,hn,hb⟩:=hu;refine ⟨a,c,e,hn,fun h0 => ?_⟩;obtain ⟨b,o,ha,hok,hc⟩:=hb h0;refine ⟨b,o,ha,hok,fun i hi j hj => ?_⟩;obtain ⟨x,h1,h2,h3⟩:=hc i hi j hj;exact ⟨x,h1,h2,h i hi j hj _ _ _ h3⟩
theorem MB {st : St} {K : SV → St → Prop} {q : Prop} {w h : Int} {n : Nat} {f : Nat → Pixel} (l : List Pixel) (hl : l.length = n) (hn : n ≤ 16777216) (he : ∀ i, i < n → l.getD i default = f i) {M : Image} {b : Bool} (hM : dd w h l = M) (hb : cZ w h l.length = b) (hk : q)
  (wk:q→K (.tup [ag (aI M),B b]) st:=by (first|(intro h;first|(simp (maxSteps:=999999)(disch:=omega) only [go_sem];exact h)|exact h)|fail)):en Sg st 43 [I w,I h, .c (.p (.lst 5 n (oq aS f)))] (Sl.of K):=by
 subst hl;subst hM;subst hb;refine Rd (Mn w h l hn) ⟨fun _ _ _ _ q=>q,fun _ _ _ _ q=>q,fun ρ ok w u hu=>Qf (f:=oq aS f) (g:=bK aS l) (fun i hi j hj => ?_) ok w u hu,trivial⟩ ⟨trivial,trivial,trivial,trivial⟩ (wk hk);show PV.le ((aS (f i)).getD j .any) ((aS (l.getD i default)).getD j .any);rw [he i hi];exact PV.le_refl _
theorem kR (s:Script) (r:Rect) (E:EvOk s) (hc:(aW s).1=0→Small s.canvas):aA Sg 24 [ag (aF s),ag (aQ r)] (fun x=>x = .tup [ag (aI (iR s r)),I (dV s r)]):=by
 have ht:True:=trivial;have h1:=qB s E.len (fun h=>⟨gC h,fun m hm=>(E.im h m hm).1⟩);have h2:=cG r;have h3:=Dr s.canvas r;by_cases h0:(aW s).1=0
 ·have hsm:=hc h0;obtain ⟨hf,V,hI,hm⟩:=E.zero h0;have C:∀ x y,ic s.canvas x y→Pt s (bg s.bits) x y:=fun x y hx=>E.ptz h0 hx;by_cases he:aP r=true
  ·have hr:dV s r=20:=by unfold dV;rw [if_neg (by omega),if_pos (.inl he)]
   have hr2:iR s r=fB:=by unfold iR;rw [if_neg (by omega)]
   rw [hr,hr2];rw [h0] at h1;rw [he] at h2;refine dY ?_;refine aD Tryz.func24 [.cell 4 43, .tmp 5] ?_;repeat' (first|refine ah ht ?_|refine ax ?_|refine an (fun K hK => ?_)|refine aa (h1) ?_|refine aa (h2) ?_|refine aw (fun hg=>h3) ?_|(refine aq hK ?_;try clear hK K))
   refine dq ⟨gj ?_,cX trivial,trivial⟩;simp only [List.map_cons,List.map_nil,dF,fx];and_intros;all_goals first|exact .inl rfl|exact .inl trivial|exact .inr ed|trivial|skip
  have he:aP r=false:=by simpa using he
  rw [he] at h2;by_cases hcv:gm s.canvas r=true
  ·have hi:=qn he hcv;have hsr:=hi.small hsm;obtain ⟨i1,i2,i3,i4,i5,i6⟩:=id hi;have hr:dV s r=0:=by unfold dV;rw [if_neg (by omega),if_neg (by rw [he,hcv];simp)]
   have hr2:iR s r=dd (r.x1 - r.x0) (r.y1 - r.y0) (bC s r ((r.x1 - r.x0) * (r.y1 - r.y0)).toNat):=by unfold iR;rw [if_pos hr]
   obtain ⟨W,hW⟩:∃ W:Nat,(W:Int)=r.x1 - r.x0:=⟨(r.x1 - r.x0).toNat,by omega⟩
   obtain ⟨H,hH⟩:∃ H:Nat,(H:Int)=r.y1 - r.y0:=⟨(r.y1 - r.y0).toNat,by omega⟩
   have eWH:((r.x1 - r.x0) * (r.y1 - r.y0)).toNat=(r.y1 - r.y0).toNat * (r.x1 - r.x0).toNat:=by
    have e1:(r.x1 - r.x0).toNat=W:=by omega
    have e2:(r.y1 - r.y0).toNat=H:=by omega
    rw [e1,e2,← hW,← hH,← Int.natCast_mul,Int.toNat_natCast,Nat.mul_comm]
   have h20:(r.y1 - r.y0).toNat * (r.x1 - r.x0).toNat≤20:=Nat.le_trans (Nat.mul_le_mul (show (r.y1 - r.y0).toNat≤4 by have:=hsr.h;omega) (show (r.x1 - r.x0).toNat≤5 by have:=hsr.w;omega)) (by decide);rw [hr,hr2];rw [h0] at h1;rw [hcv] at h3;obtain ⟨s1,s2,s3,s4,s5,s6⟩:=id hsr;generalize hM:dd (r.x1 - r.x0) (r.y1 - r.y0) (bC s r ((r.x1 - r.x0) * (r.y1 - r.y0)).toNat)=M;generalize hB:cZ (r.x1 - r.x0) (r.y1 - r.y0) (bC s r ((r.x1 - r.x0) * (r.y1 - r.y0)).toNat).length=B0;refine aD Tryz.func24 [.cell 4 43, .tmp 5] ?_;repeat' (first|refine ah ht ?_|refine ax ?_|((with_reducible refine bN (id:=4) (fun K hW => ?_));(try simp (maxSteps:=999999)(disch:=omega) only [go_sem]);and_intros;all_goals first|(refine hK _ ?_;clear hK K)|try exact ai)|refine an (fun K hK => ?_)|refine aa (h1) ?_|refine aa (h2) ?_|refine aw (fun hg=>h3) ?_|(refine aq hK ?_;try clear hK K))
   refine hW _ (aT [(2, .b (.c (.ptr 0 0))),(3, .b (.c (.ptr 1 0))),(4, .b (.c (.ptr 2 0))),(5, .b (I 0)),(27, .t false)] [(0, .fix ((aF s).map CV.p)),(1, .fix ((aQ r).map CV.p)),(2, .fix (List.replicate 28 (.p .any)))] 3) ?_ ?_
   ·clear hW;refine au [(0,some 0),(1,some 1),(2,some 2)] ?_ ?_;and_intros;all_goals try exact aj
   clear hW;repeat' (first|refine ah ht ?_|refine aC ?_)
   refine xm (id:=6) (.ho 0 true (.ho 2 true (.ho 5 true (.ho 7 true (.ho 1 false (.ho 3 false (.ho 4 true (.ho 6 false (.ho 8 false (.ho 9 true (.ho 10 false (.ho 12 false (.br 11 (.br 13 (.br 14 (.ho 15 true (.ho 16 true (.ho 17 true (.br 18 (.br 19 (.ho 20 true .leaf) .nil) .nil)))) (.br 18 (.br 14 (.ho 15 true (.ho 16 true (.ho 17 true (.br 19 (.ho 20 true .leaf) .nil)))) .nil) .nil)) (.br 18 (.br 13 (.br 14 (.ho 15 true (.ho 16 true (.ho 17 true (.br 19 (.ho 20 true .leaf) .nil)))) .nil) .nil) .nil)) (.br 18 (.br 11 (.br 13 (.br 14 (.ho 15 true (.ho 16 true (.ho 17 true (.br 19 (.ho 20 true .leaf) .nil)))) .nil) .nil) .nil) .nil)))))))))))))) (by decide +kernel) (fun K0 hW => ?_);replace hW:=iS hW;repeat' (first|exact sQ|(refine sT (fun K' hK' => ?_))|(refine zE (fun K' hK' => ?_) ?_)|(refine pk (hW _ ?_);clear hW)|((first|refine Au s V ?_|refine pY 3 4 0 0 _ s r (bg s.bits) (by decide) (Nat.le_refl _) hi hsm C E.len ?_|refine pY 4 5 0 0 _ s r (bg s.bits) (by decide) (Nat.le_refl _) hi hsm C E.len ?_|refine MB (bC s r ((r.x1 - r.x0) * (r.y1 - r.y0)).toNat) (eG.trans eWH) (Nat.le_trans h20 (by decide)) (fun i hi=>nt (Nat.lt_of_lt_of_eq hi eWH.symm)) hM hB ?_);(try simp (maxSteps:=999999)(disch:=omega) only [go_sem]);and_intros;(all_goals first|(refine hK' _ ?_;clear hK' K')|(refine hK' _ ?_ ?_;clear hK' K';focus ((try simp only [List.map_cons,List.map_nil,fS]);and_intros;(all_goals first|exact jZ|(simp (maxSteps:=999999)(disch:=omega) only [go_sem];and_intros;(all_goals first|exact fU (by (first|(simp (maxSteps:=999999)(disch:=omega) only [go_sem];done)|(simp (maxSteps:=999999)(disch:=omega) only [go_sem];rfl)|rfl))|trivial|omega|skip))|skip)))|trivial|omega|exact Nat.le_of_ble_eq_true rfl|exact ai|skip))|(simp (maxSteps:=999999)(disch:=omega) only [go_sem];and_intros;(all_goals first|(refine hK' _ ?_;clear hK' K')|(refine hK' _ ?_ ?_;clear hK' K';focus ((try simp only [List.map_cons,List.map_nil,fS]);and_intros;(all_goals first|exact jZ|(simp (maxSteps:=999999)(disch:=omega) only [go_sem];and_intros;(all_goals first|exact fU (by (first|(simp (maxSteps:=999999)(disch:=omega) only [go_sem];done)|(simp (maxSteps:=999999)(disch:=omega) only [go_sem];rfl)|rfl))|trivial|omega|skip))|skip)))|trivial|omega|exact Nat.le_of_ble_eq_true rfl|exact ai|skip)))
   ·refine dJ ?_;repeat' (refine aC ?_)
    rfl
   ·refine dJ ?_;repeat' (refine aC ?_)
    rfl
   ·refine dJ ?_;repeat' (refine aC ?_)
    rfl
   ·refine dJ ?_;repeat' (refine aC ?_)
    rfl
  ·have hcv:gm s.canvas r=false:=by simpa using hcv
   have hr:dV s r=20:=by unfold dV;rw [if_neg (by omega),if_pos (.inr hcv)]
   have hr2:iR s r=fB:=by unfold iR;rw [if_neg (by omega)]
   rw [hr,hr2];rw [h0] at h1;rw [hcv] at h3;refine dY ?_;refine aD Tryz.func24 [.cell 4 43, .tmp 5] ?_;repeat' (first|refine ah ht ?_|refine ax ?_|refine an (fun K hK => ?_)|refine aa (h1) ?_|refine aa (h2) ?_|refine aw (fun hg=>h3) ?_|(refine aq hK ?_;try clear hK K))
   refine dq ⟨gj ?_,cX trivial,trivial⟩;simp only [List.map_cons,List.map_nil,dF,fx];and_intros;all_goals first|exact .inl rfl|exact .inl trivial|exact .inr ed|trivial|skip
 ·have g0:((aW s).1 != 0)=true:=bne_iff_ne.2 h0;have hr:dV s r=(aW s).1:=by unfold dV;rw [if_pos h0]
  have hr2:iR s r=fB:=by unfold iR;rw [if_neg (by omega)]
  rw [hr,hr2];refine dY ?_;refine aD Tryz.func24 [.cell 4 43, .tmp 5] ?_;repeat' (first|refine ah g0 ?_|refine ax ?_|refine an (fun K hK => ?_)|refine aa (h1) ?_|(refine aq hK ?_;try clear hK K))
  refine dq ⟨gj ?_,cX trivial,trivial⟩;simp only [List.map_cons,List.map_nil,dF,fx];and_intros;all_goals first|exact .inl rfl|exact .inl trivial|exact .inr ed|trivial|skip
end
end Go.Proofs.YtcbifofjjpfbcaaGreatDoor
