/- Part of the proof: Z2, Z4. -/
import Derived.Test.YtmfblbbemekkoaaGreatDoorM31
set_option linter.unusedSimpArgs false
set_option linter.unusedVariables false
set_option maxHeartbeats 8000000
set_option maxRecDepth 16000
namespace Go.Proofs.YtmfblbbemekkoaaGreatDoor
open Go Go.SL
open Go.RowKit (wrap64)
attribute [local go_sem] cN pE cA Int.toNat_natCast cP cM iE va
theorem zc {n:Nat} {o:Op} {g h:Nat→Nat→PV} (hh:∀ j,j<12→h 0 j=(cT o).getD j .any):∀ a,a<n+1→∀ j,j<12→PV.le (fX n g h a j) (AK n o g a j):=fun a ha j hj=>by
 unfold fX AK
 rcases Nat.lt_or_ge a n with q|q
 ·rw [if_pos q,if_neg (by omega)];exact PV.le_refl _
 ·have e:a=n:=by omega
  subst e
  rw [if_neg (by omega),if_pos rfl,Nat.sub_self,hh j hj];exact PV.le_refl _
theorem wx {p:Pixel} {n:Int}:(SV.tup [ag (aF p),I n]).flat:=fun v hv=>by
 rcases List.mem_cons.1 hv with rfl|hv
 ·exact fT p
 ·rw [List.mem_singleton.1 hv];trivial
theorem FV (s : Script) (x y m : Int) (C : Pt s m x y) (hs : ScriptLen s) (hx : i64 x) (hy : i64 y) :
  aC Sg 62 [ag (aE s),I x,I y,iE] (fun r=>r = .b (ag (aF (cK s x y)))):=by
 have V:=C.V
 have W:=V.wf
 have hm:=C.hm
 have hmx:aC Sg 103 [I s.bits] (fun x=>x = .tup [U m,B (decide (s.bits=8∨s.bits=16))]):=by
  have:=fC s.bits
  rw [show (if s.bits=8 then (255:Int) else if s.bits=16 then 65535 else 0)=bo s.bits from rfl,C.mx] at this
  exact this
 have hcnt:=V.cnt
 have ht:True:=trivial
 have hv:∀ t r,fI m (bd s x y) s.ops s.ops.length=t :: r→cK s x y=aU t.acc t.back m:=fun t r e=>by
  have e2:jR m (bd s x y) s.ops [cz]=t :: r:=by
   rw [← e];unfold fI;rw [List.take_length]
  unfold cK
  rw [C.mx,e2];rfl
 generalize cK s x y=vv at *
 refine aA Tryz.func62 [.cell 8 41] ?_
 repeat' ((first|refine ai (fun K hK => ?_)|refine ae (hmx) ?_);and_intros;(all_goals first|(refine hK _ ?_;clear hK K)|exact aa|skip))
 refine vZ m hm ?_ (fun F0 hF0 => ?_)
 ·intro iw hiw
  simp (maxSteps:=999999)(disch:=omega) only [go_sem] at hiw ⊢
  repeat (refine Eq.trans (if_neg ?_) ?_;(focus omega))
  rfl
 simp (maxSteps:=999999)(disch:=omega) only [go_sem]
 refine hK _ ?_
 clear hK
 repeat' (first|refine an ?_|(refine ai (fun K hK => ?_);and_intros;(all_goals first|(refine hK _ ?_;clear hK K)|exact aa|skip)))
 have e0:fI m (bd s x y) s.ops 0=[cz]:=by
  unfold fI jR
  rw [List.take_zero,List.foldl_nil]
 refine aO (X:=Nat × Nat × (Nat→Nat→PV) × Nat × (Nat→Nat→PV)) (fun z=>aQ [(1, .b (I x)),(2, .b (I y)),(3, .b iE),(4, .b (.c (.ptr 0 0))),(8, .b (.c (.ptr 3 0))),(9, .b (U m)),(11, .b (.c (.ptr 1 0))),(13, .b (.c (.own 4 ((bD s.ops z.1).length)))),(38, .b (.c (.p (ma s.ops)))),(39, .b (I s.ops.length)),(40, .b (I z.1))] [(0, .fix ((aE s).map CV.p)),(1, .fix [.p (PU m), .own 2 ((bD s.ops z.1).length+1)]),(2, .arr 201 23 (z.2.1) z.2.2.1),(3, .fix ((aF aI).map CV.p)),(4, .arr 29 12 (z.2.2.2.1) z.2.2.2.2)] 5)
  (fun z=>z.1≤s.ops.length∧(bD s.ops z.1).length+1≤z.2.1∧uz z.2.2.1 (fI m (bd s x y) s.ops z.1)∧(bD s.ops z.1).length≤z.2.2.2.1∧uR s.ops z.2.2.2.2 (bD s.ops z.1)) (fun z=>s.ops.length - z.1) (0,1,F0,0,fun _ _ => .any) ?_ ?_ ?_
 ·refine ⟨Nat.zero_le _,Nat.le_refl _, ?_,Nat.le_refl _,trivial⟩
  rw [e0]
  exact ⟨hF0,trivial⟩
 ·refine az [(1,some 3),(2,some 2),(3,some 1),(4,none)] ?_ ?_
  and_intros
  all_goals first|exact ao|skip
 rintro ⟨i,N,f,NO,g⟩ ⟨hi,hN,hh,hNO,hop⟩
 dsimp only at hi hN hh hNO hop ⊢
 have ha:=BW C i hi
 obtain ⟨t,r,e⟩:=ha.ne
 rw [e] at ha hh
 have hlen:(bD s.ops i).length=r.length:=by
  have:=congrArg List.length ha.o
  simp only [List.length_map,List.length_cons,List.length_append,List.length_nil] at this
  omega
 have hf:cQ (f (bD s.ops i).length) t:=by rw [hlen];exact hh.1
 have hst:=xp V hi
 rcases Nat.lt_or_ge i s.ops.length with hlt|hge
 ·rcases W.kinds i hlt with hk|hk|hk
  ·have hk2:(s.ops.getD i default).kind=1:=hk
   have hfit:=ha.fit C hlt (by omega)
   obtain ⟨b0,b1,b2,⟨b3,b3'⟩,⟨b4,b4'⟩,⟨b5,b5'⟩,b6,b6'⟩:=kC C hlt (by omega)
   have hz:=C.z
   have himg:=hs.images
   obtain ⟨q1,q2,q3,q4⟩:=bP.1 (V.ok i hlt)
   obtain ⟨_,_,_,q5,q6,_⟩:=q4 (by omega)
   simp only [fV,decide_eq_true_eq] at q5 q6
   have hsm:=eR s (aR s.ops i) x y hs hx hy ⟨by omega,by omega⟩ ⟨by omega,by omega⟩ ⟨by omega,by omega⟩ ⟨by omega,by omega⟩ ⟨by omega,by omega⟩
   have hp:=hz.p (aR s.ops i)
   have hk0:=hz.k0 (aR s.ops i)
   have hkm:=hz.km (aR s.ops i)
   have hko:t.op.knockout=true→(s.ops.getD i default).operator=4:=fun h=>hfit.ctx.elim id fun q=>by rw [h] at q;cases q.2
   have hnx:=dS (m:=m) (z:=bd s x y) hlt
   rw [e,lP hk] at hnx
   generalize hz1:bd s x y (aR s.ops i)=zz at *
   obtain ⟨p,ms⟩:=zz
   dsimp only at *
   unfold aR at *
   have hsc:=rr (s.ops.getD i default) ⟨(i:Int),1,aI,aI,0,p⟩ ms m hm hp hk0 hkm hfit.op0 hfit.opm
   have hbl:=sE m (bD s.ops i).length f t (s.ops.getD i default) (by omega) hf (by omega)
   repeat' (first|refine aj hk2 ?_|refine an ?_|((with_reducible refine aT (id:=11) (fun K hW => ?_));(try simp (maxSteps:=999999)(disch:=omega) only [go_sem]);and_intros;(all_goals first|(refine hK _ ?_;clear hK K)|exact aa|skip))|((first|refine ai (fun K hK => ?_)|refine ae (hsm) ?_);and_intros;(all_goals first|(refine hK _ ?_;clear hK K)|exact aa|skip))|(refine aW (fun hb => ?_) (fun hb => ?_);all_goals try exact aG))
   refine hW _ (aQ [(1, .b (I x)),(2, .b (I y)),(3, .b iE),(4, .b (.c (.ptr 0 0))),(8, .b (.c (.ptr 3 0))),(9, .b (U m)),(11, .b (.c (.ptr 1 0))),(13, .b (.c (.own 4 ((bD s.ops i).length)))),(38, .b (.c (.p (ma s.ops)))),(39, .b (I s.ops.length)),(40, .b (I i)),(14, .b (I i)),(15, .b (.c (.ptr 5 0))),(16, .b (.c (.ptr 6 0))),(17, .b (.c (.ptr 7 0))),(18, .b (U ms)),(19, .b (.c (.ptr 8 0)))] [(0, .fix ((aE s).map CV.p)),(1, .fix [.p (PU m), .own 2 ((bD s.ops i).length+1)]),(2, .arr 201 23 (N) f),(3, .fix ((aF aI).map CV.p)),(4, .arr 29 12 (NO) g),(5, .fix ((cT (s.ops.getD i default)).map CV.p)),(6, .fix ((cT (s.ops.getD i default)).map CV.p)),(7, .fix ((aF p).map CV.p)),(8, .fix ((cP ⟨(i:Int),1,aI,aI,0,p⟩).map CV.p))] 9) ?_ ?_
   ·refine az [(1,some 1),(2,some 2),(3,some 3),(4,some 4),(5,some 5),(6,some 6),(7,some 7),(8,some 8)] ?_ ?_
    and_intros
    all_goals first|exact ao|skip
   clear hW
   repeat' (first|refine aj hk2 ?_|refine an ?_|((with_reducible refine aT (id:=20) (fun K hW => ?_));(try simp (maxSteps:=999999)(disch:=omega) only [go_sem]);and_intros;(all_goals first|(refine hK _ ?_;clear hK K)|exact aa|skip))|((first|refine ai (fun K hK => ?_)|refine ae (hsc) ?_);and_intros;(all_goals first|(refine hK _ ?_;clear hK K)|exact aa|skip)))
   refine hW _ (aQ [(1, .b (I x)),(2, .b (I y)),(3, .b iE),(4, .b (.c (.ptr 0 0))),(8, .b (.c (.ptr 3 0))),(9, .b (U m)),(11, .b (.c (.ptr 1 0))),(13, .b (.c (.own 4 ((bD s.ops i).length)))),(38, .b (.c (.p (ma s.ops)))),(39, .b (I s.ops.length)),(40, .b (I i)),(14, .b (I i)),(15, .b (.c (.ptr 5 0))),(17, .b (.c (.ptr 6 0))),(18, .b (U ms)),(22, .b (.c (.ptr 7 0)))] [(0, .fix ((aE s).map CV.p)),(1, .fix [.p (PU m), .own 2 ((bD s.ops i).length+1)]),(2, .arr 201 23 (N) f),(3, .fix ((aF aI).map CV.p)),(4, .arr 29 12 (NO) g),(5, .fix ((cT (s.ops.getD i default)).map CV.p)),(6, .fix ((aF p).map CV.p)),(7, .fix ((aF (ax m (s.ops.getD i default) p ms)).map CV.p))] 8) ?_ ?_
   ·refine az [(1,some 1),(2,some 2),(3,some 3),(4,some 4),(5,some 5),(6,some 7),(7,some 9)] ?_ ?_
    and_intros
    all_goals first|exact ao|skip
   clear hW
   repeat' (refine ai (fun K hK => ?_);and_intros;(all_goals first|(refine hK _ ?_;clear hK K)|exact aa|skip))
   refine jY 1 2 ((bD s.ops i).length+1) N f m (s.ops.getD i default) hN hbl ?_ ?_ ?_
   ·simp (maxSteps:=999999)(disch:=omega) only [go_sem]
   ·simp (maxSteps:=999999)(disch:=omega) only [go_sem]
   simp (maxSteps:=999999)(disch:=omega) only [go_sem]
   refine hK _ ?_
   clear hK
   repeat' (first|refine aj hk2 ?_|refine an ?_|((with_reducible refine aT (id:=24) (fun K hW => ?_));(try simp (maxSteps:=999999)(disch:=omega) only [go_sem]);and_intros;(all_goals first|(refine hK _ ?_;clear hK K)|exact aa|skip))|(refine ai (fun K hK => ?_);and_intros;(all_goals first|(refine hK _ ?_;clear hK K)|exact aa|skip)))
   refine uG 1 2 (bD s.ops i).length N hN f m (s.ops.getD i default) p ms t ?_ ?_ ?_ ?_ (by decide) (by omega) hf hm hk2 q5 q6 ⟨hfit.op0,hfit.opm⟩ hp ⟨hk0,hkm⟩ ha.v.head.v hko ?_ (fun F hF1 hF2 => ?_)
   ·simp (maxSteps:=999999)(disch:=omega) only [go_sem]
   ·simp (maxSteps:=999999)(disch:=omega) only [go_sem]
   ·simp (maxSteps:=999999)(disch:=omega) only [go_sem]
   ·simp (maxSteps:=999999)(disch:=omega) only [go_sem]
   ·refine (?_:dW 0 _).1
    repeat' (first|exact sT rfl|refine dW.set ?_ _ _|refine dW.newBox ?_ _|refine lu (by (first|(simp (maxSteps:=999999)(disch:=omega) only [go_sem];done)|(simp (maxSteps:=999999)(disch:=omega) only [go_sem];omega))) ?_)
   have hac2:=lG m (bD s.ops i).length F _ (by omega) hF1
   have hco2:=gx (bJ m (s.ops.getD i default) (ax m (s.ops.getD i default) p ms) t).acc
   simp (maxSteps:=999999)(disch:=omega) only [go_sem]
   refine hW _ (aQ [(1, .b (I x)),(2, .b (I y)),(3, .b iE),(4, .b (.c (.ptr 0 0))),(8, .b (.c (.ptr 3 0))),(9, .b (U m)),(11, .b (.c (.ptr 1 0))),(13, .b (.c (.own 4 ((bD s.ops i).length)))),(38, .b (.c (.p (ma s.ops)))),(39, .b (I s.ops.length)),(40, .b (I i)),(14, .b (I i)),(22, .b (.c (.ptr 5 0))),(23, .b (.c (.ptr 6 0)))] [(0, .fix ((aE s).map CV.p)),(1, .fix [.p (PU m), .own 2 ((bD s.ops i).length+1)]),(2, .arr 201 23 (N) F),(3, .fix ((aF aI).map CV.p)),(4, .arr 29 12 (NO) g),(5, .fix ((aF (ax m (s.ops.getD i default) p ms)).map CV.p)),(6, .fix ((aF (dP t.acc)).map CV.p))] 7) ?_ ?_
   ·refine az [(1,some 1),(2,some 2),(3,some 3),(4,some 4),(5,some 7),(6,some 8)] ?_ ?_
    and_intros
    all_goals first|exact ao|skip
   clear hW
   refine iP (id:=25) (.br 0 (.br 1 (.br 2 (.br 3 (.br 4 (.br 5 (.br 6 (.br 7 (.br 8 .leaf .nil) .nil) .nil) .nil) .nil) .nil) .nil) .nil) .nil) (by decide +kernel) ?_ (fun K0 hW => ?_)
   ·refine ⟨?_,Nat.zero_le _⟩
    refine (?_:dW 0 _).1
    repeat' (exact sT rfl)
   replace hW:=ep hW
   repeat' (first|exact ba|(refine bq (fun K' hK' => ?_) ?_)|(refine aV (hW _ ?_);clear hW)|((first|refine fN (k:=2) (e:=201) hN hac2 (eZ _) ?_|refine ae (hco2) ?_|refine ae (ng _ _ _ _ _ _ _ _ _ _ _ _ _ _ _ _ _ _) ?_);(try simp (maxSteps:=999999)(disch:=omega) only [go_sem]);and_intros;(all_goals first|(refine hK' _ ?_;clear hK' K')|trivial|omega|exact Nat.le_of_ble_eq_true rfl|exact aa|skip))|(simp (maxSteps:=999999)(disch:=omega) only [go_sem];and_intros;(all_goals first|(refine hK' _ ?_;clear hK' K')|trivial|omega|exact Nat.le_of_ble_eq_true rfl|exact aa|skip)))
   all_goals
    refine dg ?_
    refine .inl ⟨aQ [(1, .b (I x)),(2, .b (I y)),(3, .b iE),(4, .b (.c (.ptr 0 0))),(8, .b (.c (.ptr 3 0))),(9, .b (U m)),(11, .b (.c (.ptr 1 0))),(13, .b (.c (.own 4 ((bD s.ops i).length)))),(38, .b (.c (.p (ma s.ops)))),(39, .b (I s.ops.length)),(40, .b (I i))] [(0, .fix ((aE s).map CV.p)),(1, .fix [.p (PU m), .own 2 ((bD s.ops i).length+1)]),(2, .arr 201 23 (N) F),(3, .fix ((aF aI).map CV.p)),(4, .arr 29 12 (NO) g)] 5, ?_, ?_⟩
    ·refine az [(1,some 1),(2,some 2),(3,some 3),(4,some 4)] ?_ ?_
     and_intros
     all_goals first|exact ao|skip
    repeat' (refine ai (fun K hK => ?_);and_intros;(all_goals first|(refine hK _ ?_;clear hK K)|exact aa|skip))
    rw [ah]
    refine aw (i+1,N,F,NO,g) ?_ ⟨by dsimp only;omega,by dsimp only;rw [fv hk];exact hN, ?_,by dsimp only;rw [fv hk];exact hNO,by dsimp only;rw [fv hk];exact hop⟩ (by dsimp only;omega)
    ·dsimp only
     rw [fv hk]
     refine az [(1,some 1),(2,some 2),(3,some 3),(4,some 4)] ?_ ?_
     and_intros
     all_goals first|exact ao|skip
    ·dsimp only
     rw [hnx]
     refine ⟨by rw [hlen] at hF1;exact hF1,cB (fun a ha j=>hF2 a (by rw [hlen];exact ha) j) hh.2⟩
  ·have hk2:(s.ops.getD i default).kind=2:=hk
   have himg:=hs.images
   obtain ⟨b0,b1,b2,⟨b3,b3'⟩,⟨b4,b4'⟩,⟨b5,b5'⟩,b6,b6'⟩:=kC C hlt (by omega)
   obtain ⟨_,_,_,q4⟩:=bP.1 (V.ok i hlt)
   obtain ⟨_,_,_,_,_,_,q7⟩:=q4 (by omega)
   have hd:=q7 hk
   rw [List.length_map,List.length_reverse] at hd
   have hnx:=dS (m:=m) (z:=bd s x y) hlt
   rw [e,lp hk] at hnx
   have hsm:=eR s (aR s.ops i) x y hs hx hy ⟨by omega,by omega⟩ ⟨by omega,by omega⟩ ⟨by omega,by omega⟩ ⟨by omega,by omega⟩ ⟨by omega,by omega⟩
   generalize hz1:bd s x y (aR s.ops i)=zz at hsm
   obtain ⟨p,ms⟩:=zz
   dsimp only at hsm
   unfold aR at hsm
   repeat' (first|refine aj hk2 ?_|refine an ?_|((with_reducible refine aT (id:=11) (fun K hW => ?_));(try simp (maxSteps:=999999)(disch:=omega) only [go_sem]);and_intros;(all_goals first|(refine hK _ ?_;clear hK K)|exact aa|skip))|((first|refine ai (fun K hK => ?_)|refine ae (hsm) ?_);and_intros;(all_goals first|(refine hK _ ?_;clear hK K)|exact aa|skip))|(refine aW (fun hb => ?_) (fun hb => ?_);all_goals try exact aG))
   refine hW _ (aQ [(1, .b (I x)),(2, .b (I y)),(3, .b iE),(4, .b (.c (.ptr 0 0))),(8, .b (.c (.ptr 3 0))),(9, .b (U m)),(11, .b (.c (.ptr 1 0))),(13, .b (.c (.own 4 ((bD s.ops i).length)))),(38, .b (.c (.p (ma s.ops)))),(39, .b (I s.ops.length)),(40, .b (I i)),(14, .b (I i)),(15, .b (.c (.ptr 5 0)))] [(0, .fix ((aE s).map CV.p)),(1, .fix [.p (PU m), .own 2 ((bD s.ops i).length+1)]),(2, .arr 201 23 (N) f),(3, .fix ((aF aI).map CV.p)),(4, .arr 29 12 (NO) g),(5, .fix ((cT (s.ops.getD i default)).map CV.p))] 6) ?_ ?_
   ·refine az [(1,some 1),(2,some 2),(3,some 3),(4,some 4),(5,some 5)] ?_ ?_
    and_intros
    all_goals first|exact ao|skip
   clear hW
   repeat' (first|refine aj hk2 ?_|refine an ?_|((with_reducible refine aT (id:=14) (fun K hW => ?_));(try simp (maxSteps:=999999)(disch:=omega) only [go_sem]);and_intros;(all_goals first|(refine hK _ ?_;clear hK K)|exact aa|skip))|(refine ai (fun K hK => ?_);and_intros;(all_goals first|(refine hK _ ?_;clear hK K)|exact aa|skip)))
   refine tF 1 2 (bD s.ops i).length N hN f m (s.ops.getD i default) t ?_ ?_ ?_ ?_ (by decide) hd hf hk2 ?_ (fun F hF1 hF2 => ?_)
   ·simp (maxSteps:=999999)(disch:=omega) only [go_sem]
   ·simp (maxSteps:=999999)(disch:=omega) only [go_sem]
   ·simp (maxSteps:=999999)(disch:=omega) only [go_sem]
   ·simp (maxSteps:=999999)(disch:=omega) only [go_sem]
   ·refine (?_:dW 0 _).1
    repeat' (first|exact sT rfl|refine dW.set ?_ _ _)
   have hbk:=pB m ((bD s.ops i).length+1) F (fi (s.ops.getD i default) t) (by omega) hF1
   simp (maxSteps:=999999)(disch:=omega) only [go_sem]
   refine hW _ (aQ [(1, .b (I x)),(2, .b (I y)),(3, .b iE),(4, .b (.c (.ptr 0 0))),(8, .b (.c (.ptr 3 0))),(9, .b (U m)),(11, .b (.c (.ptr 1 0))),(13, .b (.c (.own 4 ((bD s.ops i).length)))),(38, .b (.c (.p (ma s.ops)))),(39, .b (I s.ops.length)),(40, .b (I i)),(14, .b (I i)),(15, .b (.c (.ptr 5 0)))] [(0, .fix ((aE s).map CV.p)),(1, .fix [.p (PU m), .own 2 ((bD s.ops i).length+1+1)]),(2, .arr 201 23 ((bD s.ops i).length+2) F),(3, .fix ((aF aI).map CV.p)),(4, .arr 29 12 (NO) g),(5, .fix ((cT (s.ops.getD i default)).map CV.p))] 6) ?_ ?_
   ·refine az [(1,some 1),(2,some 11),(3,some 3),(4,some 4),(5,some 5)] ?_ ?_
    and_intros
    all_goals first|exact ao|skip
   clear hW
   repeat' (first|refine an ?_|((first|refine ai (fun K hK => ?_)|refine fN (k:=2) (e:=201) (Nat.le_refl _) hbk (fT _) ?_|refine ae (ng _ _ _ _ _ _ _ _ _ _ _ _ _ _ _ _ _ _) ?_);and_intros;(all_goals first|(refine hK _ ?_;clear hK K)|exact aa|skip)))
   rw [ah]
   refine aw (i+1,(bD s.ops i).length+2,F,(bD s.ops i).length+1,AK (bD s.ops i).length (s.ops.getD i default) g) ?_ ⟨by dsimp only;omega,by dsimp only;rw [fx hk];exact Nat.le_refl _, ?_,by dsimp only;rw [fx hk];exact Nat.le_refl _,by dsimp only;rw [fx hk];exact tJ hop⟩ (by dsimp only;omega)
   ·dsimp only
    rw [fx hk,List.length_cons]
    refine az [(1,some 1),(2,some 2),(3,some 3),(4,some 7)] ?_ ?_
    and_intros
    all_goals first|exact ao|skip
    exact .inr fun a ha j hj=>zc (fun j hj=>by (have hivl:j=0∨j=1∨j=2∨j=3∨j=4∨j=5∨j=6∨j=7∨j=8∨j=9∨j=10∨j=11:=by omega);rcases hivl with rfl|rfl|rfl|rfl|rfl|rfl|rfl|rfl|rfl|rfl|rfl|rfl <;> rfl) a ha j hj
   ·dsimp only
    rw [hnx]
    refine ⟨by rw [hlen] at hF1;exact hF1,cB (fun a ha j=>hF2 a (by rw [hlen];exact ha) j) hh⟩
  ·have hk2:(s.ops.getD i default).kind=3:=hk
   have hnx:=dS (m:=m) (z:=bd s x y) hlt
   have himg:=hs.images
   obtain ⟨a,sk,hsk⟩:∃ a sk,bD s.ops i=a :: sk:=by
    cases hq:bD s.ops i with
    | nil=>exact absurd hq (W.pops i hlt hk)
    | cons a sk=>exact ⟨a,sk,rfl⟩
   cases r with
   | nil=>rw [hsk] at hlen;cases hlen
   | cons u r =>
   rw [e,nb hk] at hnx
   obtain ⟨vt,vf,vs⟩:=ha.v
   have ho:=ha.o
   rw [hsk] at ho
   have eg:t.op=aR s.ops a:=(List.cons.inj ho).1
   have hgl:a<i:=qu (ops:=s.ops) (by rw [hsk];exact List.mem_cons_self ..)
   have hgk:(aR s.ops a).kind=2:=iG (i:=i) (by rw [hsk];exact List.mem_cons_self ..)
   obtain ⟨b0,b1,b2,⟨b3,b3'⟩,⟨b4,b4'⟩,⟨b5,b5'⟩,b6,b6'⟩:=kC C (show a<s.ops.length by omega) (by omega)
   obtain ⟨_,_,_,q4⟩:=bP.1 (V.ok a (by omega))
   obtain ⟨_,_,_,q5,q6,_⟩:=q4 (by omega)
   rw [← eg] at b0 b1 b2 b3 b3' b4 b4' b5 b5' b6 b6' q5 q6
   simp only [fV,decide_eq_true_eq] at q5 q6
   have hlk:(bD s.ops i).length=r.length+1:=by rw [hlen];rfl
   have hls:(bD s.ops (i+1)).length=r.length:=by rw [lC hk,List.length_tail,hlk];rfl
   have hu:cQ (f r.length) u:=hh.2.1
   have hskl:sk.length=r.length:=by rw [hsk] at hlk;simpa using hlk
   rw [hsk] at hop
   have hrow:∀ c,g r.length c=(cT t.op).getD c .any:=fun c=>by rw [← hskl,eg];exact hop.1 c
   rw [hlk] at hf hst hN hNO ⊢
   have hz:=C.z
   have hsm:=eR s t.op x y hs hx hy ⟨by omega,by omega⟩ ⟨by omega,by omega⟩ ⟨by omega,by omega⟩ ⟨by omega,by omega⟩ ⟨by omega,by omega⟩
   have hk0:=hz.k0 t.op
   have hkm:=hz.km t.op
   have hacT:=lG m (r.length+1) f t (by omega) hf
   have hbkT:=pB m (r.length+1) f t (by omega) hf
   have hre:=lJ t.acc t.back m hm vt.v
   have hrv:=fW hm vt.v
   have hko:u.op.knockout=true→t.op.operator=4:=fun h=>vf.ctx.elim id fun q=>by rw [h] at q;cases q.2
   generalize hz1:bd s x y t.op=zz at *
   obtain ⟨p,ms⟩:=zz
   dsimp only at hsm hk0 hkm hnx
   have hbl:=vi m r.length f u (s.ops.getD i default) (by omega) hu hk2
   have hsc:=rr t.op ⟨(i:Int),6,aI,aI,0,aU t.acc t.back m⟩ ms m hm hrv hk0 hkm vf.op0 vf.opm
   have er:ag [g r.length 0,g r.length 1,g r.length 2,g r.length 3,g r.length 4,g r.length 5,g r.length 6,g r.length 7,g r.length 8,g r.length 9,g r.length 10,g r.length 11]=ag (cT t.op):=by rw [hrow 0,hrow 1,hrow 2,hrow 3,hrow 4,hrow 5,hrow 6,hrow 7,hrow 8,hrow 9,hrow 10,hrow 11];rfl
   rw [← er] at hsm
   generalize hres:aU t.acc t.back m=res at *
   repeat' (first|refine an ?_|((with_reducible refine aT (id:=7) (fun K hW => ?_));(try simp (maxSteps:=999999)(disch:=omega) only [go_sem]);and_intros;(all_goals first|(refine hK _ ?_;clear hK K)|exact aa|skip))|(refine ai (fun K hK => ?_);and_intros;(all_goals first|(refine hK _ ?_;clear hK K)|exact aa|skip))|(refine aW (fun hb => ?_) (fun hb => ?_);all_goals try exact aG))
   refine hW _ (aQ [(1, .b (I x)),(2, .b (I y)),(3, .b iE),(4, .b (.c (.ptr 0 0))),(8, .b (.c (.ptr 3 0))),(9, .b (U m)),(11, .b (.c (.ptr 1 0))),(13, .b (.c (.own 4 (r.length+1)))),(38, .b (.c (.p (ma s.ops)))),(39, .b (I s.ops.length)),(40, .b (I i)),(14, .b (I i)),(15, .b (.c (.ptr 5 0))),(16, .b (.c (.ptr 6 0)))] [(0, .fix ((aE s).map CV.p)),(1, .fix [.p (PU m), .own 2 (r.length+1+1)]),(2, .arr 201 23 (N) f),(3, .fix ((aF aI).map CV.p)),(4, .arr 29 12 (NO) g),(5, .fix ((cT (s.ops.getD i default)).map CV.p)),(6, .fix ((cT (s.ops.getD i default)).map CV.p))] 7) ?_ ?_
   ·refine az [(1,some 1),(2,some 2),(3,some 3),(4,some 4),(5,some 5),(6,some 6)] ?_ ?_
    and_intros
    all_goals first|exact ao|skip
   clear hW
   repeat' (first|refine aj hk2 ?_|refine an ?_|((with_reducible refine aT (id:=11) (fun K hW => ?_));(try simp (maxSteps:=999999)(disch:=omega) only [go_sem]);and_intros;(all_goals first|(refine hK _ ?_;clear hK K)|exact aa|skip))|((first|refine ai (fun K hK => ?_)|refine ae (hsm) ?_);and_intros;(all_goals first|(refine hK _ ?_;clear hK K)|exact aa|skip)))
   refine hW _ (aQ [(1, .b (I x)),(2, .b (I y)),(3, .b iE),(4, .b (.c (.ptr 0 0))),(8, .b (.c (.ptr 3 0))),(9, .b (U m)),(11, .b (.c (.ptr 1 0))),(13, .b (.c (.own 4 (r.length)))),(38, .b (.c (.p (ma s.ops)))),(39, .b (I s.ops.length)),(40, .b (I i)),(14, .b (I i)),(15, .b (.c (.ptr 5 0))),(16, .b (.c (.ptr 6 0))),(18, .b (U ms)),(19, .b (.c (.ptr 7 0)))] [(0, .fix ((aE s).map CV.p)),(1, .fix [.p (PU m), .own 2 (r.length+1+1)]),(2, .arr 201 23 (N) f),(3, .fix ((aF aI).map CV.p)),(4, .arr 29 12 (NO) g),(5, .fix ((cT (s.ops.getD i default)).map CV.p)),(6, .fix ((cT t.op).map CV.p)),(7, .fix ((cP ⟨(i:Int),1,aI,aI,0,p⟩).map CV.p))] 8) ?_ ?_
   ·refine az [(1,some 1),(2,some 2),(3,some 3),(4,some 4),(5,some 5),(6,some 6),(7,some 8)] ?_ ?_
    and_intros
    all_goals first|exact ao|skip
    all_goals exact .inl (hrow _)
   clear hW
   repeat' (first|refine aj hk2 ?_|refine an ?_|((with_reducible refine aT (id:=20) (fun K hW => ?_));(try simp (maxSteps:=999999)(disch:=omega) only [go_sem]);and_intros;(all_goals first|(refine hK _ ?_;clear hK K)|exact aa|skip))|((first|refine ai (fun K hK => ?_)|refine fN (k:=2) (e:=201) hN hacT (eZ _) ?_|refine fN (k:=2) (e:=201) hN hbkT (fT _) ?_|refine ae (hre) ?_|refine ae (hsc) ?_);and_intros;(all_goals first|(refine hK _ ?_;clear hK K)|exact aa|skip)))
   refine hW _ (aQ [(1, .b (I x)),(2, .b (I y)),(3, .b iE),(4, .b (.c (.ptr 0 0))),(8, .b (.c (.ptr 3 0))),(9, .b (U m)),(11, .b (.c (.ptr 1 0))),(13, .b (.c (.own 4 (r.length)))),(38, .b (.c (.p (ma s.ops)))),(39, .b (I s.ops.length)),(40, .b (I i)),(14, .b (I i)),(15, .b (.c (.ptr 5 0))),(18, .b (U ms)),(22, .b (.c (.ptr 6 0)))] [(0, .fix ((aE s).map CV.p)),(1, .fix [.p (PU m), .own 2 (r.length+1+1)]),(2, .arr 201 23 (N) f),(3, .fix ((aF aI).map CV.p)),(4, .arr 29 12 (NO) g),(5, .fix ((cT (s.ops.getD i default)).map CV.p)),(6, .fix ((aF (ax m t.op res ms)).map CV.p))] 7) ?_ ?_
   ·refine az [(1,some 1),(2,some 2),(3,some 3),(4,some 4),(5,some 5),(6,some 9)] ?_ ?_
    and_intros
    all_goals first|exact ao|skip
   clear hW
   repeat' (refine ai (fun K hK => ?_);and_intros;(all_goals first|(refine hK _ ?_;clear hK K)|exact aa|skip))
   refine jY 1 2 (r.length+1+1) N f m (s.ops.getD i default) hN hbl ?_ ?_ ?_
   ·simp (maxSteps:=999999)(disch:=omega) only [go_sem]
   ·simp (maxSteps:=999999)(disch:=omega) only [go_sem]
   simp (maxSteps:=999999)(disch:=omega) only [go_sem]
   refine hK _ ?_
   clear hK
   repeat' (first|refine aj hk2 ?_|refine an ?_|((with_reducible refine aT (id:=23) (fun K hW => ?_));(try simp (maxSteps:=999999)(disch:=omega) only [go_sem]);and_intros;(all_goals first|(refine hK _ ?_;clear hK K)|exact aa|skip))|(refine ai (fun K hK => ?_);and_intros;(all_goals first|(refine hK _ ?_;clear hK K)|exact aa|skip)))
   refine vQ 1 2 r.length N hN f m ms t u ?_ ?_ ?_ ?_ (by decide) (by omega) hf hu hm q5 q6 ⟨vf.op0,vf.opm⟩ ⟨hk0,hkm⟩ vt.v vs.head.v hko ?_ (fun F hF1 hF2 => ?_)
   ·simp (maxSteps:=999999)(disch:=omega) only [go_sem]
   ·simp (maxSteps:=999999)(disch:=omega) only [go_sem]
   ·simp (maxSteps:=999999)(disch:=omega) only [go_sem]
   ·simp (maxSteps:=999999)(disch:=omega) only [go_sem]
   ·refine (?_:dW 0 _).1
    repeat' (first|exact sT rfl|refine dW.set ?_ _ _|refine dW.newBox ?_ _|refine lu (by (first|(simp (maxSteps:=999999)(disch:=omega) only [go_sem];done)|(simp (maxSteps:=999999)(disch:=omega) only [go_sem];omega))) ?_)
   rw [hres] at hF1 ⊢
   have hac2:=lG m r.length F _ (by omega) hF1
   have hco2:=gx (bJ m t.op (ax m t.op res ms) u).acc
   simp (maxSteps:=999999)(disch:=omega) only [go_sem]
   refine hW _ (aQ [(1, .b (I x)),(2, .b (I y)),(3, .b iE),(4, .b (.c (.ptr 0 0))),(8, .b (.c (.ptr 3 0))),(9, .b (U m)),(11, .b (.c (.ptr 1 0))),(13, .b (.c (.own 4 (r.length)))),(38, .b (.c (.p (ma s.ops)))),(39, .b (I s.ops.length)),(40, .b (I i)),(14, .b (I i)),(22, .b (.c (.ptr 5 0))),(23, .b (.c (.ptr 6 0)))] [(0, .fix ((aE s).map CV.p)),(1, .fix [.p (PU m), .own 2 (r.length+1)]),(2, .arr 201 23 (N) F),(3, .fix ((aF aI).map CV.p)),(4, .arr 29 12 (NO) g),(5, .fix ((aF (ax m t.op res ms)).map CV.p)),(6, .fix ((aF (dP u.acc)).map CV.p))] 7) ?_ ?_
   ·refine az [(1,some 1),(2,some 2),(3,some 3),(4,some 4),(5,some 6),(6,some 7)] ?_ ?_
    and_intros
    all_goals first|exact ao|skip
   clear hW
   refine iP (id:=25) (.br 0 (.br 1 (.br 2 (.br 3 (.br 4 (.br 5 (.br 6 (.br 7 (.br 8 .leaf .nil) .nil) .nil) .nil) .nil) .nil) .nil) .nil) .nil) (by decide +kernel) ?_ (fun K0 hW => ?_)
   ·refine ⟨?_,Nat.zero_le _⟩
    refine (?_:dW 0 _).1
    repeat' (exact sT rfl)
   replace hW:=ep hW
   repeat' (first|exact ba|(refine bq (fun K' hK' => ?_) ?_)|(refine aV (hW _ ?_);clear hW)|((first|refine fN (k:=2) (e:=201) (show r.length+1≤N by omega) hac2 (eZ _) ?_|refine ae (hco2) ?_|refine ae (ng _ _ _ _ _ _ _ _ _ _ _ _ _ _ _ _ _ _) ?_);(try simp (maxSteps:=999999)(disch:=omega) only [go_sem]);and_intros;(all_goals first|(refine hK' _ ?_;clear hK' K')|trivial|omega|exact Nat.le_of_ble_eq_true rfl|exact aa|skip))|(simp (maxSteps:=999999)(disch:=omega) only [go_sem];and_intros;(all_goals first|(refine hK' _ ?_;clear hK' K')|trivial|omega|exact Nat.le_of_ble_eq_true rfl|exact aa|skip)))
   all_goals
    refine dg ?_
    refine .inl ⟨aQ [(1, .b (I x)),(2, .b (I y)),(3, .b iE),(4, .b (.c (.ptr 0 0))),(8, .b (.c (.ptr 3 0))),(9, .b (U m)),(11, .b (.c (.ptr 1 0))),(13, .b (.c (.own 4 (r.length)))),(38, .b (.c (.p (ma s.ops)))),(39, .b (I s.ops.length)),(40, .b (I i))] [(0, .fix ((aE s).map CV.p)),(1, .fix [.p (PU m), .own 2 (r.length+1)]),(2, .arr 201 23 (N) F),(3, .fix ((aF aI).map CV.p)),(4, .arr 29 12 (NO) g)] 5, ?_, ?_⟩
    ·refine az [(1,some 1),(2,some 2),(3,some 3),(4,some 4)] ?_ ?_
     and_intros
     all_goals first|exact ao|skip
    repeat' (refine ai (fun K hK => ?_);and_intros;(all_goals first|(refine hK _ ?_;clear hK K)|exact aa|skip))
    rw [ah]
    refine aw (i+1,N,F,NO,g) ?_ ⟨by dsimp only;omega,by dsimp only;rw [hls];omega, ?_,by dsimp only;rw [hls];omega,by dsimp only;rw [lC hk,hsk];exact hop.2⟩ (by dsimp only;omega)
    ·dsimp only
     rw [hls]
     refine az [(1,some 1),(2,some 2),(3,some 3),(4,some 4)] ?_ ?_
     and_intros
     all_goals first|exact ao|skip
    ·dsimp only
     rw [hnx]
     exact ⟨hF1,cB (fun a ha j=>hF2 a ha j) hh.2.2⟩
 ·have hi2:i=s.ops.length:=by omega
  subst hi2
  have hg:decide (((s.ops.length:Nat):Int)<s.ops.length)=false:=decide_eq_false (by omega)
  have hl0:(bD s.ops s.ops.length).length=0:=by rw [W.fin];rfl
  rw [hl0] at hf hN ⊢
  have hre:=rG m f t hf hm ha.v.head.v
  rw [hv t r e]
  generalize aU t.acc t.back m=q at *
  repeat' (first|refine aj hg ?_|refine an ?_|((first|refine ai (fun K hK => ?_)|refine fN (k:=2) (e:=201) hN hre (wx) ?_);and_intros;(all_goals first|(refine hK _ ?_;clear hK K)|exact aa|skip))|(refine ak ?_;(try clear hB KB);(try clear hK K)))
  try rfl
end Go.Proofs.YtmfblbbemekkoaaGreatDoor
set_option maxHeartbeats 8000000
set_option maxRecDepth 16000
namespace Go.Proofs.YtmfblbbemekkoaaGreatDoor
open Go Go.SL
open Go.RowKit (wrap64)
attribute [local go_sem] cN Int.toNat_natCast cP cM va Mc
theorem vz {a c d k nx:Nat} {A C D:Bx} {bx b:Nat→Option Bx} (hw:∀ i,nx≤i→bx i=none) (h1:b a=some A) (h2:b c=some C) (h4:b d=some D) (h3:∀ i,i<nx→i≠a→i≠c→i≠d→i≠k→b i=bx i):LN (aB a A (aB c C (aB d D (cY k bx)))) b:=fun i y hi=>by
 unfold aB at hi
 split at hi
 ·rename_i e;rw [e,h1];exact hi
 rename_i e
 split at hi
 ·rename_i e2;rw [e2,h2];exact hi
 rename_i e2
 split at hi
 ·rename_i e4;rw [e4,h4];exact hi
 rename_i e4
 unfold cY at hi
 split at hi
 ·cases hi
 ·rename_i e3
  rcases Nat.lt_or_ge i nx with q|q
  ·rw [h3 i q e e2 e4 e3];exact hi
  ·rw [hw i q] at hi;cases hi
theorem xB (n : Nat) (g : Nat → Nat → PV) (v : Mic) (hn : n ≤ 100000) : ∃ G : Nat → Nat → PV, (∀ L : List Mic, L.length = n → fp g L → fp G (L ++ [v])) ∧ ∀ (bx : Nat → Option Bx) (nx T k : Nat), bx T = some (.fix [.own k n]) → bx k = some (.arr 120 18 n g) → T < nx → k < nx → T ≠ k → (∀ i, nx ≤ i → bx i = none) →
  iV Sg bx nx 66 [ag (cP v), .c (.ptr T 0)] (.tup []) (aB T (.fix [.own (nx+2) (n+1)]) (aB (nx+2) (.arr 120 18 (n+1) G) (cY k bx))) (nx+3):=by
 have ht:True:=trivial
 refine ⟨?G, ?hG, ?hI⟩
 case hI =>
  intro bx nx T k hT hk nT nk dT hw
  have e:bx=aB T (.fix [.own k n]) (aB k (.arr 120 18 n g) bx):=by rw [← bg hk];exact bg hT
  refine dO Tryz.func66 rfl (rs:=[]) rfl rfl dK (by decide +kernel) (Nat.le_of_ble_eq_true rfl) ?_ (fun kf => ?_)
  ·intro v hv
   simp only [List.mem_cons,List.not_mem_nil,or_false] at hv
   rcases hv with rfl|rfl
   ·exact fun c hc=>by (obtain ⟨x,_,rfl⟩:=List.mem_map.1 hc;trivial)
   ·exact nT
  rw [e]
  repeat' (refine ai (fun K hK => ?_);and_intros;(all_goals first|(refine hK _ ?_;clear hK K)|exact aa|skip))
  refine ⟨trivial,rfl,kh (bx:=aB T (.fix [.own k n]) (aB k (.arr 120 18 n g) bx)) (nx:=nx) ?_ ?_ ?_ (fun i hi h1 h2 h3 => ?_), ?_, ?_, ?_⟩
  ·rw [← e];exact hw
  ·simp (maxSteps:=999999)(disch:=omega) only [go_sem]
  ·(first|(simp (maxSteps:=999999)(disch:=omega) only [go_sem];done)|(simp (maxSteps:=999999)(disch:=omega) only [go_sem];rfl))
  ·simp (maxSteps:=999999)(disch:=omega) only [go_sem]
  ·simp (maxSteps:=999999)(disch:=omega) only [go_sem]
  ·rfl
  ·exact fun v hv=>(by cases hv)
 ·intro L hL hg
  show fp (fX n g _) _
  refine gN hL hg fun j hj => ?_
  have hivl:j=0∨j=1∨j=2∨j=3∨j=4∨j=5∨j=6∨j=7∨j=8∨j=9∨j=10∨j=11∨j=12∨j=13∨j=14∨j=15∨j=16∨j=17:=by omega
  rcases hivl with rfl|rfl|rfl|rfl|rfl|rfl|rfl|rfl|rfl|rfl|rfl|rfl|rfl|rfl|rfl|rfl|rfl|rfl <;> rfl
noncomputable def iR (n:Nat) (g:Nat→Nat→PV) (v:Mic):Nat→Nat→PV:=if h:n≤100000 then Classical.choose (xB n g v h) else g
theorem jX {n:Nat} {g:Nat→Nat→PV} {v:Mic} {L:List Mic} (hn:n≤100000) (hL:L.length=n) (hg:fp g L):fp (iR n g v) (L ++ [v]):=by
 unfold iR
 rw [dif_pos hn]
 exact (Classical.choose_spec (xB n g v hn)).1 L hL hg
theorem GH (bx : Nat → Option Bx) (nx T k n : Nat) (g : Nat → Nat → PV) (v : Mic) (hT : bx T = some (.fix [.own k n])) (hk : bx k = some (.arr 120 18 n g)) (nT : T < nx) (nk : k < nx) (dT : T ≠ k) (hn : n ≤ 100000) (hw : ∀ i, nx ≤ i → bx i = none) :
  iV Sg bx nx 66 [ag (cP v), .c (.ptr T 0)] (.tup []) (aB T (.fix [.own (nx+2) (n+1)]) (aB (nx+2) (.arr 120 18 (n+1) (iR n g v)) (cY k bx))) (nx+3):=by
 unfold iR
 rw [dif_pos hn]
 exact (Classical.choose_spec (xB n g v hn)).2 bx nx T k hT hk nT nk dT hw
theorem jx {st : St} {K : SV → St → Prop} (T k n : Nat) (g : Nat → Nat → PV) (v : Mic) (hT : st.bx T = some (.fix [.own k n])) (hk : st.bx k = some (.arr 120 18 n g)) (nT : T < st.nx) (nk : k < st.nx) (dT : T ≠ k) (hn : n ≤ 100000) (hw : ∀ i, st.nx ≤ i → st.bx i = none)
  (hK:K (.tup []) (st.turn (aB T (.fix [.own (st.nx+2) (n+1)]) (aB (st.nx+2) (.arr 120 18 (n+1) (iR n g v)) (cY k st.bx))) (st.nx+3))) :
  du Sg st 66 [ag (cP v), .c (.ptr T 0)] (Sl.of K):=by
 refine cf (GH st.bx st.nx T k n g v hT hk nT nk dT hn hw) rfl (fun i hi => ?_) (by omega) hK
 unfold aB cY
 rw [if_neg (by omega),if_neg (by omega),if_neg (by omega)]
 exact hw i (by omega)
theorem yL (bx : Nat → Option Bx) (nx b5 b2 b3 b1 T k n : Nat) (g : Nat → Nat → PV) (kd q m : Int) (p : Pixel) (v : Mic)
  (h5:bx b5=some (.fix ((aF p).map CV.p))) (h2:bx b2=some (.fix [.p (PU m)])) (h3:bx b3=some (.fix [.clo 66 [(T,0)]])) (h1:bx b1=some (.fix ((cP v).map CV.p))) (hT:bx T=some (.fix [.own k n])) (hk:bx k=some (.arr 120 18 n g))
  (nb5:b5<nx) (nb2:b2<nx) (nb3:b3<nx) (nb1:b1<nx) (nT:T<nx) (nk:k<nx) (db5b2:b5≠b2) (db5b3:b5≠b3) (db5b1:b5≠b1) (db5T:b5≠T) (db5k:b5≠k) (db2b3:b2≠b3) (db2b1:b2≠b1) (db2T:b2≠T) (db2k:b2≠k) (db3b1:b3≠b1) (db3T:b3≠T) (db3k:b3≠k) (db1T:b1≠T) (db1k:b1≠k) (dTk:T≠k) (hn:n≤100000)
  (hm:Full m) (hp:PixV p m) (hq:0≤q) (hqm:q≤m) (hw:∀ i,nx≤i→bx i=none) :
  iV Sg bx nx 151 [I kd,U q, .c (.ptr b5 0), .c (.ptr b2 0), .c (.ptr b3 0), .c (.ptr b1 0)] (.tup [])
   (aB b5 (.fix ((aF (aL p q m)).map CV.p)) (aB T (.fix [.own (nx+3) (n+1)]) (aB (nx+3) (.arr 120 18 (n+1) (iR n g ⟨v.op,kd,p,aI,q,aL p q m⟩)) (cY k bx)))) (nx+4):=by
 have hs:=jz p q m hm hp hq hqm
 have e:bx=aB b5 (.fix ((aF p).map CV.p)) (aB b2 (.fix [.p (PU m)]) (aB b3 (.fix [.clo 66 [(T,0)]]) (aB b1 (.fix ((cP v).map CV.p)) (aB T (.fix [.own k n]) (aB k (.arr 120 18 n g) bx))))):=by
  rw [← bg hk,← bg hT,← bg h1,← bg h3,← bg h2];exact bg h5
 have ht:True:=trivial
 generalize aL p q m=r at *
 refine dO Tryz.func151 rfl (rs:=[]) rfl rfl dK (by decide +kernel) (Nat.le_of_ble_eq_true rfl) ?_ (fun kf => ?_)
 ·intro v hv
  simp only [List.mem_cons,List.not_mem_nil,or_false] at hv
  rcases hv with rfl|rfl|rfl|rfl|rfl|rfl
  ·trivial
  ·trivial
  ·exact nb5
  ·exact nb2
  ·exact nb3
  ·exact nb1
 rw [e]
 repeat' ((first|refine ai (fun K hK => ?_)|refine ae (hs) ?_);and_intros;(all_goals first|(refine hK _ ?_;clear hK K)|exact aa|skip))
 refine jx T k n g ⟨v.op,kd,p,aI,q,r⟩ ?_ ?_ ?_ ?_ dTk hn ?_ ?_
 ·simp (maxSteps:=999999)(disch:=omega) only [go_sem]
 ·simp (maxSteps:=999999)(disch:=omega) only [go_sem]
 ·(first|(simp (maxSteps:=999999)(disch:=omega) only [go_sem];done)|(simp (maxSteps:=999999)(disch:=omega) only [go_sem];omega))
 ·(first|(simp (maxSteps:=999999)(disch:=omega) only [go_sem];done)|(simp (maxSteps:=999999)(disch:=omega) only [go_sem];omega))
 ·intro iw hiw
  (try simp (maxSteps:=999999)(disch:=omega) only [go_sem] at hiw ⊢)
  (repeat (refine Eq.trans (if_neg ?_) ?_;(focus omega)))
  exact hw iw (by omega)
 simp (maxSteps:=999999)(disch:=omega) only [go_sem]
 refine hK _ ?_
 clear hK
 repeat' (refine ai (fun K hK => ?_);and_intros;(all_goals first|(refine hK _ ?_;clear hK K)|exact aa|skip))
 refine ⟨trivial,rfl,vz (bx:=aB b5 (.fix ((aF p).map CV.p)) (aB b2 (.fix [.p (PU m)]) (aB b3 (.fix [.clo 66 [(T,0)]]) (aB b1 (.fix ((cP v).map CV.p)) (aB T (.fix [.own k n]) (aB k (.arr 120 18 n g) bx)))))) (nx:=nx) ?_ ?_ ?_ ?_ (fun i hi q1 q2 q3 q4 => ?_), ?_, ?_, ?_⟩
 ·rw [← e];exact hw
 ·(first|(simp (maxSteps:=999999)(disch:=omega) only [go_sem];done)|(simp (maxSteps:=999999)(disch:=omega) only [go_sem];rfl))
 ·simp (maxSteps:=999999)(disch:=omega) only [go_sem]
 ·(first|(simp (maxSteps:=999999)(disch:=omega) only [go_sem];done)|(simp (maxSteps:=999999)(disch:=omega) only [go_sem];rfl))
 ·simp (maxSteps:=999999)(disch:=omega) only [go_sem]
 ·simp (maxSteps:=999999)(disch:=omega) only [go_sem]
 ·rfl
 ·exact fun v hv=>(by cases hv)
theorem lT {st : St} {K : SV → St → Prop} (b5 b2 b3 b1 T k n : Nat) (g : Nat → Nat → PV) (kd q m : Int) (p : Pixel) (v : Mic)
  (h5:st.bx b5=some (.fix ((aF p).map CV.p))) (h2:st.bx b2=some (.fix [.p (PU m)])) (h3:st.bx b3=some (.fix [.clo 66 [(T,0)]])) (h1:st.bx b1=some (.fix ((cP v).map CV.p))) (hT:st.bx T=some (.fix [.own k n])) (hk:st.bx k=some (.arr 120 18 n g))
  (hl:b5<st.nx∧b2<st.nx∧b3<st.nx∧b1<st.nx∧T<st.nx∧k<st.nx) (db5b2:b5≠b2) (db5b3:b5≠b3) (db5b1:b5≠b1) (db5T:b5≠T) (db5k:b5≠k) (db2b3:b2≠b3) (db2b1:b2≠b1) (db2T:b2≠T) (db2k:b2≠k) (db3b1:b3≠b1) (db3T:b3≠T) (db3k:b3≠k) (db1T:b1≠T) (db1k:b1≠k) (dTk:T≠k) (hn:n≤100000)
  (hm:Full m) (hp:PixV p m) (hq:0≤q) (hqm:q≤m) (hw:∀ i,st.nx≤i→st.bx i=none)
  (hK:K (.tup []) (st.turn (aB b5 (.fix ((aF (aL p q m)).map CV.p)) (aB T (.fix [.own (st.nx+3) (n+1)]) (aB (st.nx+3) (.arr 120 18 (n+1) (iR n g ⟨v.op,kd,p,aI,q,aL p q m⟩)) (cY k st.bx)))) (st.nx+4))) :
  du Sg st 151 [I kd,U q, .c (.ptr b5 0), .c (.ptr b2 0), .c (.ptr b3 0), .c (.ptr b1 0)] (Sl.of K):=by
 obtain ⟨l1,l2,l3,l4,l5,l6⟩:=hl
 refine cf (yL st.bx st.nx b5 b2 b3 b1 T k n g kd q m p v h5 h2 h3 h1 hT hk l1 l2 l3 l4 l5 l6 db5b2 db5b3 db5b1 db5T db5k db2b3 db2b1 db2T db2k db3b1 db3T db3k db1T db1k dTk hn hm hp hq hqm hw) rfl (fun i hi => ?_) (by omega) hK
 unfold aB cY
 rw [if_neg (by omega),if_neg (by omega),if_neg (by omega),if_neg (by omega)]
 exact hw i (by omega)
theorem Hn {st:St} {d:Option Nat} {v:SV} {B:Nat→Option Bx} {n:Nat}:(st.set d v).turn B n=(st.turn B n).set d v:=by cases d <;> rfl
theorem Ic {st:St} {x:Bx} {B:Nat→Option Bx} {n:Nat}:(st.newBox x).turn B n=st.turn B n:=rfl
theorem EK {st:St} {i:Nat} {x:Bx} {B:Nat→Option Bx} {n:Nat}:(st.setBox i x).turn B n=st.turn B n:=rfl
theorem HQ {st:St} {i:Nat} {B:Nat→Option Bx} {n:Nat}:(st.delBox i).turn B n=st.turn B n:=rfl
theorem DC {st:St} {B C:Nat→Option Bx} {n k:Nat}:(st.turn C k).turn B n=st.turn B n:=rfl
attribute [local go_sem] Hn Ic EK HQ DC js eP eW eL
theorem vA (bx : Nat → Option Bx) (n : Nat) (g : Nat → Nat → PV) (o : Op) (v : Mic) (ms m : Int) (hT : bx 1 = some (.fix [.own 2 n])) (hk : bx 2 = some (.arr 120 18 n g)) (hn : n ≤ 90000) (hm : Full m) (hp : PixV v.out m) (hms : 0 ≤ ms) (hmm : ms ≤ m) (ho : 0 ≤ o.opacity) (hom : o.opacity ≤ m) (hw : ∀ i, 12 ≤ i → bx i = none) (h : o.mask = 0) :
  iV Sg bx 12 109 [ag (cT o),ag (cP v),U ms,U m, .c (.clo 66 [(1,0)])] (.b (ag (aF (ax m o v.out ms))))
   (aB 1 (.fix [.own 24 (n+2)]) (aB 24 (.arr 120 18 (n+2) (iR (n+1) (iR n g v) ⟨v.op,3,v.out,aI,o.opacity,aL v.out o.opacity m⟩)) (cY 2 bx))) 25:=by
 have e:bx=aB 1 (.fix [.own 2 n]) (aB 2 (.arr 120 18 n g) bx):=by rw [← bg hk];exact bg hT
 have gg:(o.mask != 0)=false:=bne_eq_false_iff_eq.2 h
 unfold ax
 rw [if_pos h,gr hm]
 have hclo:BV.lt 12 (.c (.clo 66 [(1,0)])):=fun p hp=>by rw [List.mem_singleton.1 hp];decide
 refine dO Tryz.func109 rfl (rs:=[.cell 10 41]) rfl rfl dK (by decide +kernel) (Nat.le_of_ble_eq_true rfl) ?_ (fun kf => ?_)
 ·intro v hv
  simp only [List.mem_cons,List.not_mem_nil,or_false] at hv
  rcases hv with rfl|rfl|rfl|rfl|rfl
  ·exact fun c hc=>by (obtain ⟨x,_,rfl⟩:=List.mem_map.1 hc;trivial)
  ·exact fun c hc=>by (obtain ⟨x,_,rfl⟩:=List.mem_map.1 hc;trivial)
  ·trivial
  ·trivial
  ·exact hclo
 rw [e]
 repeat' (refine ai (fun K hK => ?_);and_intros;(all_goals first|(refine hK _ ?_;clear hK K)|exact aa|skip))
 refine jx 1 2 n g v ?_ ?_ ?_ ?_ (by decide) (by omega) ?_ ?_
 ·simp (maxSteps:=999999)(disch:=omega) only [go_sem]
 ·(first|(simp (maxSteps:=999999)(disch:=omega) only [go_sem];done)|(simp (maxSteps:=999999)(disch:=omega) only [go_sem];rfl))
 ·(first|(simp (maxSteps:=999999)(disch:=omega) only [go_sem];done)|(simp (maxSteps:=999999)(disch:=omega) only [go_sem];omega))
 ·(first|(simp (maxSteps:=999999)(disch:=omega) only [go_sem];done)|(simp (maxSteps:=999999)(disch:=omega) only [go_sem];omega))
 ·intro iw hiw
  have hiw:17≤iw:=hiw
  simp only [js,eP,eW,eL,jl,lZ,fM,fE,fD,fG,jg,lR,lD,ly]
  repeat (refine Eq.trans (if_neg ?_) ?_;(focus omega))
  exact hw iw (by omega)
 simp (maxSteps:=999999)(disch:=omega) only [go_sem]
 refine hK _ ?_
 clear hK
 repeat' (first|refine aj gg ?_|refine an ?_|(refine ai (fun K hK => ?_);and_intros;(all_goals first|(refine hK _ ?_;clear hK K)|exact aa|skip)))
 refine lT 20 14 15 13 1 19 (n+1) (iR n g v) 3 o.opacity m v.out v ?_ ?_ ?_ ?_ ?_ ?_ ?_ (by decide) (by decide) (by decide) (by decide) (by decide) (by decide) (by decide) (by decide) (by decide) (by decide) (by decide) (by decide) (by decide) (by decide) (by decide) (by omega) hm hp ho hom ?_ ?_
 ·(first|(simp (maxSteps:=999999)(disch:=omega) only [go_sem];done)|(simp (maxSteps:=999999)(disch:=omega) only [go_sem];rfl))
 ·(first|(simp (maxSteps:=999999)(disch:=omega) only [go_sem];done)|(simp (maxSteps:=999999)(disch:=omega) only [go_sem];rfl))
 ·(first|(simp (maxSteps:=999999)(disch:=omega) only [go_sem];done)|(simp (maxSteps:=999999)(disch:=omega) only [go_sem];rfl))
 ·(first|(simp (maxSteps:=999999)(disch:=omega) only [go_sem];done)|(simp (maxSteps:=999999)(disch:=omega) only [go_sem];rfl))
 ·(first|(simp (maxSteps:=999999)(disch:=omega) only [go_sem];done)|(simp (maxSteps:=999999)(disch:=omega) only [go_sem];rfl))
 ·(first|(simp (maxSteps:=999999)(disch:=omega) only [go_sem];done)|(simp (maxSteps:=999999)(disch:=omega) only [go_sem];rfl))
 ·refine ⟨?_, ?_, ?_, ?_, ?_, ?_⟩ <;> (first|(simp (maxSteps:=999999)(disch:=omega) only [go_sem];done)|(simp (maxSteps:=999999)(disch:=omega) only [go_sem];omega))
 ·intro iw hiw
  have hiw:21≤iw:=hiw
  simp only [js,eP,eW,eL,jl,lZ,fM,fE,fD,fG,jg,lR,lD,ly]
  repeat (refine Eq.trans (if_neg ?_) ?_;(focus omega))
  exact hw iw (by omega)
 simp (maxSteps:=999999)(disch:=omega) only [go_sem]
 refine hK _ ?_
 clear hK
 repeat' (first|(refine ai (fun K hK => ?_);and_intros;(all_goals first|(refine hK _ ?_;clear hK K)|exact aa|skip))|(refine ak ?_;(try clear hB KB);(try clear hK K)))
 refine ⟨rfl,kh (bx:=aB 1 (.fix [.own 2 n]) (aB 2 (.arr 120 18 n g) bx)) (nx:=12) ?_ ?_ ?_ (fun i hi h1 h2 h3 => ?_)⟩
 ·rw [← e];exact hw
 ·simp (maxSteps:=999999)(disch:=omega) only [go_sem]
 ·(first|(simp (maxSteps:=999999)(disch:=omega) only [go_sem];done)|(simp (maxSteps:=999999)(disch:=omega) only [go_sem];rfl))
 ·simp only [js,eP,eW,eL,jl,lZ,fM,fE,fD,fG,jg,lR,lD,ly]
  repeat (refine Eq.trans (if_neg ?_) ?_;(focus omega))
  (repeat (refine Eq.trans ?_ (if_neg ?_).symm;rotate_left;(focus omega)))
  rfl
theorem vk (bx : Nat → Option Bx) (n : Nat) (g : Nat → Nat → PV) (o : Op) (v : Mic) (ms m : Int) (hT : bx 1 = some (.fix [.own 2 n])) (hk : bx 2 = some (.arr 120 18 n g)) (hn : n ≤ 90000) (hm : Full m) (hp : PixV v.out m) (hms : 0 ≤ ms) (hmm : ms ≤ m) (ho : 0 ≤ o.opacity) (hom : o.opacity ≤ m) (hw : ∀ i, 12 ≤ i → bx i = none) (h : o.mask ≠ 0) :
  iV Sg bx 12 109 [ag (cT o),ag (cP v),U ms,U m, .c (.clo 66 [(1,0)])] (.b (ag (aF (ax m o v.out ms))))
   (aB 1 (.fix [.own 28 (n+3)]) (aB 28 (.arr 120 18 (n+3) (iR (n+2) (iR (n+1) (iR n g v) ⟨v.op,2,v.out,aI,ms,aL v.out ms m⟩) ⟨v.op,3,aL v.out ms m,aI,o.opacity,aL (aL v.out ms m) o.opacity m⟩)) (cY 2 bx))) 29:=by
 have e:bx=aB 1 (.fix [.own 2 n]) (aB 2 (.arr 120 18 n g) bx):=by rw [← bg hk];exact bg hT
 have gg:(o.mask != 0)=true:=bne_iff_ne.2 h
 have hp2:=gP hm hp hms hmm
 unfold ax
 rw [if_neg h]
 have hclo:BV.lt 12 (.c (.clo 66 [(1,0)])):=fun p hp=>by rw [List.mem_singleton.1 hp];decide
 refine dO Tryz.func109 rfl (rs:=[.cell 10 41]) rfl rfl dK (by decide +kernel) (Nat.le_of_ble_eq_true rfl) ?_ (fun kf => ?_)
 ·intro v hv
  simp only [List.mem_cons,List.not_mem_nil,or_false] at hv
  rcases hv with rfl|rfl|rfl|rfl|rfl
  ·exact fun c hc=>by (obtain ⟨x,_,rfl⟩:=List.mem_map.1 hc;trivial)
  ·exact fun c hc=>by (obtain ⟨x,_,rfl⟩:=List.mem_map.1 hc;trivial)
  ·trivial
  ·trivial
  ·exact hclo
 rw [e]
 repeat' (refine ai (fun K hK => ?_);and_intros;(all_goals first|(refine hK _ ?_;clear hK K)|exact aa|skip))
 refine jx 1 2 n g v ?_ ?_ ?_ ?_ (by decide) (by omega) ?_ ?_
 ·simp (maxSteps:=999999)(disch:=omega) only [go_sem]
 ·(first|(simp (maxSteps:=999999)(disch:=omega) only [go_sem];done)|(simp (maxSteps:=999999)(disch:=omega) only [go_sem];rfl))
 ·(first|(simp (maxSteps:=999999)(disch:=omega) only [go_sem];done)|(simp (maxSteps:=999999)(disch:=omega) only [go_sem];omega))
 ·(first|(simp (maxSteps:=999999)(disch:=omega) only [go_sem];done)|(simp (maxSteps:=999999)(disch:=omega) only [go_sem];omega))
 ·intro iw hiw
  have hiw:17≤iw:=hiw
  simp only [js,eP,eW,eL,jl,lZ,fM,fE,fD,fG,jg,lR,lD,ly]
  repeat (refine Eq.trans (if_neg ?_) ?_;(focus omega))
  exact hw iw (by omega)
 simp (maxSteps:=999999)(disch:=omega) only [go_sem]
 refine hK _ ?_
 clear hK
 repeat' (first|refine aj gg ?_|refine an ?_|(refine ai (fun K hK => ?_);and_intros;(all_goals first|(refine hK _ ?_;clear hK K)|exact aa|skip)))
 refine lT 20 14 15 13 1 19 (n+1) (iR n g v) 2 ms m v.out v ?_ ?_ ?_ ?_ ?_ ?_ ?_ (by decide) (by decide) (by decide) (by decide) (by decide) (by decide) (by decide) (by decide) (by decide) (by decide) (by decide) (by decide) (by decide) (by decide) (by decide) (by omega) hm hp hms hmm ?_ ?_
 ·(first|(simp (maxSteps:=999999)(disch:=omega) only [go_sem];done)|(simp (maxSteps:=999999)(disch:=omega) only [go_sem];rfl))
 ·(first|(simp (maxSteps:=999999)(disch:=omega) only [go_sem];done)|(simp (maxSteps:=999999)(disch:=omega) only [go_sem];rfl))
 ·(first|(simp (maxSteps:=999999)(disch:=omega) only [go_sem];done)|(simp (maxSteps:=999999)(disch:=omega) only [go_sem];rfl))
 ·(first|(simp (maxSteps:=999999)(disch:=omega) only [go_sem];done)|(simp (maxSteps:=999999)(disch:=omega) only [go_sem];rfl))
 ·(first|(simp (maxSteps:=999999)(disch:=omega) only [go_sem];done)|(simp (maxSteps:=999999)(disch:=omega) only [go_sem];rfl))
 ·(first|(simp (maxSteps:=999999)(disch:=omega) only [go_sem];done)|(simp (maxSteps:=999999)(disch:=omega) only [go_sem];rfl))
 ·refine ⟨?_, ?_, ?_, ?_, ?_, ?_⟩ <;> (first|(simp (maxSteps:=999999)(disch:=omega) only [go_sem];done)|(simp (maxSteps:=999999)(disch:=omega) only [go_sem];omega))
 ·intro iw hiw
  have hiw:21≤iw:=hiw
  simp only [js,eP,eW,eL,jl,lZ,fM,fE,fD,fG,jg,lR,lD,ly]
  repeat (refine Eq.trans (if_neg ?_) ?_;(focus omega))
  exact hw iw (by omega)
 simp (maxSteps:=999999)(disch:=omega) only [go_sem]
 refine hK _ ?_
 clear hK
 repeat' (refine ai (fun K hK => ?_);and_intros;(all_goals first|(refine hK _ ?_;clear hK K)|exact aa|skip))
 refine lT 20 14 15 13 1 24 (n+2) (iR (n+1) (iR n g v) ⟨v.op,2,v.out,aI,ms,aL v.out ms m⟩) 3 o.opacity m (aL v.out ms m) v ?_ ?_ ?_ ?_ ?_ ?_ ?_ (by decide) (by decide) (by decide) (by decide) (by decide) (by decide) (by decide) (by decide) (by decide) (by decide) (by decide) (by decide) (by decide) (by decide) (by decide) (by omega) hm hp2 ho hom ?_ ?_
 ·(first|(simp (maxSteps:=999999)(disch:=omega) only [go_sem];done)|(simp (maxSteps:=999999)(disch:=omega) only [go_sem];rfl))
 ·(first|(simp (maxSteps:=999999)(disch:=omega) only [go_sem];done)|(simp (maxSteps:=999999)(disch:=omega) only [go_sem];rfl))
 ·(first|(simp (maxSteps:=999999)(disch:=omega) only [go_sem];done)|(simp (maxSteps:=999999)(disch:=omega) only [go_sem];rfl))
 ·(first|(simp (maxSteps:=999999)(disch:=omega) only [go_sem];done)|(simp (maxSteps:=999999)(disch:=omega) only [go_sem];rfl))
 ·(first|(simp (maxSteps:=999999)(disch:=omega) only [go_sem];done)|(simp (maxSteps:=999999)(disch:=omega) only [go_sem];rfl))
 ·(first|(simp (maxSteps:=999999)(disch:=omega) only [go_sem];done)|(simp (maxSteps:=999999)(disch:=omega) only [go_sem];rfl))
 ·refine ⟨?_, ?_, ?_, ?_, ?_, ?_⟩ <;> (first|(simp (maxSteps:=999999)(disch:=omega) only [go_sem];done)|(simp (maxSteps:=999999)(disch:=omega) only [go_sem];omega))
 ·intro iw hiw
  have hiw:25≤iw:=hiw
  simp only [js,eP,eW,eL,jl,lZ,fM,fE,fD,fG,jg,lR,lD,ly]
  repeat (refine Eq.trans (if_neg ?_) ?_;(focus omega))
  exact hw iw (by omega)
 simp (maxSteps:=999999)(disch:=omega) only [go_sem]
 refine hK _ ?_
 clear hK
 repeat' (first|(refine ai (fun K hK => ?_);and_intros;(all_goals first|(refine hK _ ?_;clear hK K)|exact aa|skip))|(refine ak ?_;(try clear hB KB);(try clear hK K)))
 refine ⟨rfl,kh (bx:=aB 1 (.fix [.own 2 n]) (aB 2 (.arr 120 18 n g) bx)) (nx:=12) ?_ ?_ ?_ (fun i hi h1 h2 h3 => ?_)⟩
 ·rw [← e];exact hw
 ·simp (maxSteps:=999999)(disch:=omega) only [go_sem]
 ·(first|(simp (maxSteps:=999999)(disch:=omega) only [go_sem];done)|(simp (maxSteps:=999999)(disch:=omega) only [go_sem];rfl))
 ·simp only [js,eP,eW,eL,jl,lZ,fM,fE,fD,fG,jg,lR,lD,ly]
  repeat (refine Eq.trans (if_neg ?_) ?_;(focus omega))
  (repeat (refine Eq.trans ?_ (if_neg ?_).symm;rotate_left;(focus omega)))
  rfl
end Go.Proofs.YtmfblbbemekkoaaGreatDoor
