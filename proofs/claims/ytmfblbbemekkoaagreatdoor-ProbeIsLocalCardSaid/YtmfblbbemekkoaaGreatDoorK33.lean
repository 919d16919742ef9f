/- Part of the proof: Z2, Z4, TE, P5, Y2, LS. -/
import Derived.Test.YtmfblbbemekkoaaGreatDoorK31
import Derived.Test.YtmfblbbemekkoaaGreatDoorK32
set_option linter.unusedSimpArgs false
set_option linter.unusedVariables false
set_option maxHeartbeats 8000000
set_option maxRecDepth 16000
namespace Go.Proofs.YtmfblbbemekkoaaGreatDoor
open Go Go.SL
open Go.RowKit (wrap64)
attribute [local go_sem] dI uB cO Int.toNat_natCast cB cU fM qm
theorem wK {n:Nat} {o:Op} {g h:Nat→Nat→PV} (hh:∀ j,j<12→h 0 j=(dJ o).getD j .any):∀ a,a<n+1→∀ j,j<12→PV.le (ix n g h a j) (yu n o g a j):=fun a ha j hj=>by
 unfold ix yu
 rcases Nat.lt_or_ge a n with q|q
 ·rw [if_pos q,if_neg (by omega)];exact PV.le_refl _
 ·have e:a=n:=by omega
  subst e
  rw [if_neg (by omega),if_pos rfl,Nat.sub_self,hh j hj];exact PV.le_refl _
theorem tE {p:Pixel} {n:Int}:(SV.tup [ag (aH p),I n]).flat:=fun v hv=>by
 rcases List.mem_cons.1 hv with rfl|hv
 ·exact ig p
 ·rw [List.mem_singleton.1 hv];trivial
theorem CU (s : Script) (x y m : Int) (C : Pt s m x y) (hs : ScriptLen s) (hx : i64 x) (hy : i64 y) :
  aD Sg 62 [ag (aM s),I x,I y,fM] (fun r=>r = .b (ag (aH (dF s x y)))):=by
 have V:=C.V
 have W:=V.wf
 have hm:=C.hm
 have hmx:aD Sg 103 [I s.bits] (fun x=>x = .tup [U m,B (decide (s.bits=8∨s.bits=16))]):=by
  have:=dN s.bits
  rw [show (if s.bits=8 then (255:Int) else if s.bits=16 then 65535 else 0)=bz s.bits from rfl,C.mx] at this
  exact this
 have hcnt:=V.cnt
 have ht:True:=trivial
 have hv:∀ t r,ga m (bI s x y) s.ops s.ops.length=t :: r→dF s x y=bl t.acc t.back m:=fun t r e=>by
  have e2:mo m (bI s x y) s.ops [base]=t :: r:=by
   rw [← e];unfold ga;rw [List.take_length]
  unfold dF
  rw [C.mx,e2];rfl
 generalize dF s x y=vv at *
 refine aC Tryz.func62 [.cell 8 41] ?_
 repeat' ((first|refine ai (fun K hK => ?_)|refine ae (hmx) ?_);and_intros;all_goals first|(refine hK _ ?_;clear hK K)|try exact aa)
 refine tM m hm ?_ (fun F0 hF0 => ?_)
 ·intro iw hiw
  simp (maxSteps:=999999)(disch:=omega) only [go_sem] at hiw ⊢
  repeat (refine Eq.trans (if_neg ?_) ?_;(focus omega))
  rfl
 simp (maxSteps:=999999)(disch:=omega) only [go_sem]
 refine hK _ ?_
 clear hK
 repeat' (first|refine ak ?_|(refine ai (fun K hK => ?_);and_intros;all_goals first|(refine hK _ ?_;clear hK K)|try exact aa))
 have e0:ga m (bI s x y) s.ops 0=[base]:=by
  unfold ga mo
  rw [List.take_zero,List.foldl_nil]
 refine aS (X:=Nat × Nat × (Nat→Nat→PV) × Nat × (Nat→Nat→PV)) (fun z=>aZ [(1, .b (I x)),(2, .b (I y)),(3, .b fM),(4, .b (.c (.ptr 0 0))),(8, .b (.c (.ptr 3 0))),(9, .b (U m)),(11, .b (.c (.ptr 1 0))),(13, .b (.c (.own 4 ((bR s.ops z.1).length)))),(38, .b (.c (.p (kq s.ops)))),(39, .b (I s.ops.length)),(40, .b (I z.1))] [(0, .fix ((aM s).map CV.p)),(1, .fix [.p (PU m), .own 2 ((bR s.ops z.1).length+1)]),(2, .arr 201 23 (z.2.1) z.2.2.1),(3, .fix ((aH aG).map CV.p)),(4, .arr 29 12 (z.2.2.2.1) z.2.2.2.2)] 5)
  (fun z=>z.1≤s.ops.length∧(bR s.ops z.1).length+1≤z.2.1∧xg z.2.2.1 (ga m (bI s x y) s.ops z.1)∧(bR s.ops z.1).length≤z.2.2.2.1∧rA s.ops z.2.2.2.2 (bR s.ops z.1)) (fun z=>s.ops.length - z.1) (0,1,F0,0,fun _ _ => .any) ?_ ?_ ?_
 ·refine ⟨Nat.zero_le _,Nat.le_refl _, ?_,Nat.le_refl _,trivial⟩
  rw [e0]
  exact ⟨hF0,trivial⟩
 ·refine ay [(1,some 3),(2,some 2),(3,some 1),(4,none)] ?_ ?_
  and_intros
  all_goals first|exact ao|skip
 rintro ⟨i,N,f,NO,g⟩ ⟨hi,hN,hh,hNO,hop⟩
 dsimp only at hi hN hh hNO hop ⊢
 have ha:=Hn C i hi
 obtain ⟨t,r,e⟩:=ha.ne
 rw [e] at ha hh
 have hlen:(bR s.ops i).length=r.length:=by
  have:=congrArg List.length ha.o
  simp only [List.length_map,List.length_cons,List.length_append,List.length_nil] at this
  omega
 have hf:eI (f (bR s.ops i).length) t:=by rw [hlen];exact hh.1
 have hst:=CY V hi
 rcases Nat.lt_or_ge i s.ops.length with hlt|hge
 ·rcases W.kinds i hlt with hk|hk|hk
  ·have hk2:(s.ops.getD i default).kind=1:=hk
   have hfit:=ha.fit C hlt (by omega)
   obtain ⟨b0,b1,b2,⟨b3,b3'⟩,⟨b4,b4'⟩,⟨b5,b5'⟩,b6,b6'⟩:=nN C hlt (by omega)
   have hz:=C.z
   have himg:=hs.images
   obtain ⟨q1,q2,q3,q4⟩:=cK.1 (V.ok i hlt)
   obtain ⟨_,_,_,q5,q6,_⟩:=q4 (by omega)
   simp only [jh,decide_eq_true_eq] at q5 q6
   have hsm:=fB s (aO s.ops i) x y hs hx hy ⟨by omega,by omega⟩ ⟨by omega,by omega⟩ ⟨by omega,by omega⟩ ⟨by omega,by omega⟩ ⟨by omega,by omega⟩
   have hp:=hz.p (aO s.ops i)
   have hk0:=hz.k0 (aO s.ops i)
   have hkm:=hz.km (aO s.ops i)
   have hko:t.op.knockout=true→(s.ops.getD i default).operator=4:=fun h=>hfit.ctx.elim id fun q=>by rw [h] at q;cases q.2
   have hnx:=eN (m:=m) (z:=bI s x y) hlt
   rw [e,jE hk] at hnx
   generalize hz1:bI s x y (aO s.ops i)=zz at *
   obtain ⟨p,ms⟩:=zz
   dsimp only at *
   unfold aO at *
   have hsc:=oO (s.ops.getD i default) ⟨(i:Int),1,aG,aG,0,p⟩ ms m hm hp hk0 hkm hfit.op0 hfit.opm
   have hbl:=qs m (bR s.ops i).length f t (s.ops.getD i default) (by omega) hf (by omega)
   repeat' (first|refine aj hk2 ?_|refine ak ?_|((with_reducible refine aT (id:=11) (fun K hW => ?_));(try simp (maxSteps:=999999)(disch:=omega) only [go_sem]);and_intros;all_goals first|(refine hK _ ?_;clear hK K)|try exact aa)|((first|refine ai (fun K hK => ?_)|refine ae (hsm) ?_);and_intros;all_goals first|(refine hK _ ?_;clear hK K)|try exact aa)|(refine bc (fun hb => ?_) (fun hb => ?_);all_goals try exact aJ))
   refine hW _ (aZ [(1, .b (I x)),(2, .b (I y)),(3, .b fM),(4, .b (.c (.ptr 0 0))),(8, .b (.c (.ptr 3 0))),(9, .b (U m)),(11, .b (.c (.ptr 1 0))),(13, .b (.c (.own 4 ((bR s.ops i).length)))),(38, .b (.c (.p (kq s.ops)))),(39, .b (I s.ops.length)),(40, .b (I i)),(14, .b (I i)),(15, .b (.c (.ptr 5 0))),(16, .b (.c (.ptr 6 0))),(17, .b (.c (.ptr 7 0))),(18, .b (U ms)),(19, .b (.c (.ptr 8 0)))] [(0, .fix ((aM s).map CV.p)),(1, .fix [.p (PU m), .own 2 ((bR s.ops i).length+1)]),(2, .arr 201 23 (N) f),(3, .fix ((aH aG).map CV.p)),(4, .arr 29 12 (NO) g),(5, .fix ((dJ (s.ops.getD i default)).map CV.p)),(6, .fix ((dJ (s.ops.getD i default)).map CV.p)),(7, .fix ((aH p).map CV.p)),(8, .fix ((cB ⟨(i:Int),1,aG,aG,0,p⟩).map CV.p))] 9) ?_ ?_
   ·refine ay [(1,some 1),(2,some 2),(3,some 3),(4,some 4),(5,some 5),(6,some 6),(7,some 7),(8,some 8)] ?_ ?_
    and_intros
    all_goals first|exact ao|skip
   clear hW
   repeat' (first|refine aj hk2 ?_|refine ak ?_|((with_reducible refine aT (id:=20) (fun K hW => ?_));(try simp (maxSteps:=999999)(disch:=omega) only [go_sem]);and_intros;all_goals first|(refine hK _ ?_;clear hK K)|try exact aa)|((first|refine ai (fun K hK => ?_)|refine ae (hsc) ?_);and_intros;all_goals first|(refine hK _ ?_;clear hK K)|try exact aa))
   refine hW _ (aZ [(1, .b (I x)),(2, .b (I y)),(3, .b fM),(4, .b (.c (.ptr 0 0))),(8, .b (.c (.ptr 3 0))),(9, .b (U m)),(11, .b (.c (.ptr 1 0))),(13, .b (.c (.own 4 ((bR s.ops i).length)))),(38, .b (.c (.p (kq s.ops)))),(39, .b (I s.ops.length)),(40, .b (I i)),(14, .b (I i)),(15, .b (.c (.ptr 5 0))),(17, .b (.c (.ptr 6 0))),(18, .b (U ms)),(22, .b (.c (.ptr 7 0)))] [(0, .fix ((aM s).map CV.p)),(1, .fix [.p (PU m), .own 2 ((bR s.ops i).length+1)]),(2, .arr 201 23 (N) f),(3, .fix ((aH aG).map CV.p)),(4, .arr 29 12 (NO) g),(5, .fix ((dJ (s.ops.getD i default)).map CV.p)),(6, .fix ((aH p).map CV.p)),(7, .fix ((aH (az m (s.ops.getD i default) p ms)).map CV.p))] 8) ?_ ?_
   ·refine ay [(1,some 1),(2,some 2),(3,some 3),(4,some 4),(5,some 5),(6,some 7),(7,some 9)] ?_ ?_
    and_intros
    all_goals first|exact ao|skip
   clear hW
   repeat' (refine ai (fun K hK => ?_);and_intros;all_goals first|(refine hK _ ?_;clear hK K)|try exact aa)
   refine iJ 1 2 ((bR s.ops i).length+1) N f m (s.ops.getD i default) hN hbl ?_ ?_ ?_
   ·simp (maxSteps:=999999)(disch:=omega) only [go_sem]
   ·simp (maxSteps:=999999)(disch:=omega) only [go_sem]
   simp (maxSteps:=999999)(disch:=omega) only [go_sem]
   refine hK _ ?_
   clear hK
   repeat' (first|refine aj hk2 ?_|refine ak ?_|((with_reducible refine aT (id:=24) (fun K hW => ?_));(try simp (maxSteps:=999999)(disch:=omega) only [go_sem]);and_intros;all_goals first|(refine hK _ ?_;clear hK K)|try exact aa)|(refine ai (fun K hK => ?_);and_intros;all_goals first|(refine hK _ ?_;clear hK K)|try exact aa))
   refine rT 1 2 (bR s.ops i).length N hN f m (s.ops.getD i default) p ms t ?_ ?_ ?_ ?_ (by decide) (by omega) hf hm hk2 q5 q6 ⟨hfit.op0,hfit.opm⟩ hp ⟨hk0,hkm⟩ ha.v.head.v hko ?_ (fun F hF1 hF2 => ?_)
   ·simp (maxSteps:=999999)(disch:=omega) only [go_sem]
   ·simp (maxSteps:=999999)(disch:=omega) only [go_sem]
   ·simp (maxSteps:=999999)(disch:=omega) only [go_sem]
   ·simp (maxSteps:=999999)(disch:=omega) only [go_sem]
   ·refine (?_:dB 0 _).1
    repeat' (first|exact xn rfl|refine dB.set ?_ _ _|refine dB.newBox ?_ _|refine mO (by (first|(simp (maxSteps:=999999)(disch:=omega) only [go_sem];done)|(simp (maxSteps:=999999)(disch:=omega) only [go_sem];omega))) ?_)
   have hac2:=jP m (bR s.ops i).length F _ (by omega) hF1
   have hco2:=eM (bT m (s.ops.getD i default) (az m (s.ops.getD i default) p ms) t).acc
   simp (maxSteps:=999999)(disch:=omega) only [go_sem]
   refine hW _ (aZ [(1, .b (I x)),(2, .b (I y)),(3, .b fM),(4, .b (.c (.ptr 0 0))),(8, .b (.c (.ptr 3 0))),(9, .b (U m)),(11, .b (.c (.ptr 1 0))),(13, .b (.c (.own 4 ((bR s.ops i).length)))),(38, .b (.c (.p (kq s.ops)))),(39, .b (I s.ops.length)),(40, .b (I i)),(14, .b (I i)),(22, .b (.c (.ptr 5 0))),(23, .b (.c (.ptr 6 0)))] [(0, .fix ((aM s).map CV.p)),(1, .fix [.p (PU m), .own 2 ((bR s.ops i).length+1)]),(2, .arr 201 23 (N) F),(3, .fix ((aH aG).map CV.p)),(4, .arr 29 12 (NO) g),(5, .fix ((aH (az m (s.ops.getD i default) p ms)).map CV.p)),(6, .fix ((aH (dU t.acc)).map CV.p))] 7) ?_ ?_
   ·refine ay [(1,some 1),(2,some 2),(3,some 3),(4,some 4),(5,some 7),(6,some 8)] ?_ ?_
    and_intros
    all_goals first|exact ao|skip
   clear hW
   refine nd (id:=25) (.br 0 (.br 1 (.br 2 (.br 3 (.br 4 (.br 5 (.br 6 (.br 7 (.br 8 .leaf .nil) .nil) .nil) .nil) .nil) .nil) .nil) .nil) .nil) (by decide +kernel) ?_ (fun K0 hW => ?_)
   ·refine ⟨?_,Nat.zero_le _⟩
    refine (?_:dB 0 _).1
    repeat' (exact xn rfl)
   replace hW:=kD hW
   repeat' (first|exact cz|(refine cZ (fun K' hK' => ?_) ?_)|(refine cj (hW _ ?_);clear hW)|((first|refine ed (k:=2) (e:=201) hN hac2 (jA _) ?_|refine ae (hco2) ?_|refine ae (lu _ _ _ _ _ _ _ _ _ _ _ _ _ _ _ _ _ _) ?_);(try simp (maxSteps:=999999)(disch:=omega) only [go_sem]);and_intros;(all_goals first|(refine hK' _ ?_;clear hK' K')|trivial|omega|exact Nat.le_of_ble_eq_true rfl|exact aa|skip))|(simp (maxSteps:=999999)(disch:=omega) only [go_sem];and_intros;(all_goals first|(refine hK' _ ?_;clear hK' K')|trivial|omega|exact Nat.le_of_ble_eq_true rfl|exact aa|skip)))
   all_goals
    refine iT ?_
    refine .inl ⟨aZ [(1, .b (I x)),(2, .b (I y)),(3, .b fM),(4, .b (.c (.ptr 0 0))),(8, .b (.c (.ptr 3 0))),(9, .b (U m)),(11, .b (.c (.ptr 1 0))),(13, .b (.c (.own 4 ((bR s.ops i).length)))),(38, .b (.c (.p (kq s.ops)))),(39, .b (I s.ops.length)),(40, .b (I i))] [(0, .fix ((aM s).map CV.p)),(1, .fix [.p (PU m), .own 2 ((bR s.ops i).length+1)]),(2, .arr 201 23 (N) F),(3, .fix ((aH aG).map CV.p)),(4, .arr 29 12 (NO) g)] 5, ?_, ?_⟩
    ·refine ay [(1,some 1),(2,some 2),(3,some 3),(4,some 4)] ?_ ?_
     and_intros
     all_goals first|exact ao|skip
    repeat' (refine ai (fun K hK => ?_);and_intros;all_goals first|(refine hK _ ?_;clear hK K)|try exact aa)
    rw [ah]
    refine au (i+1,N,F,NO,g) ?_ ⟨by dsimp only;omega,by dsimp only;rw [fc hk];exact hN, ?_,by dsimp only;rw [fc hk];exact hNO,by dsimp only;rw [fc hk];exact hop⟩ (by dsimp only;omega)
    ·dsimp only
     rw [fc hk]
     refine ay [(1,some 1),(2,some 2),(3,some 3),(4,some 4)] ?_ ?_
     and_intros
     all_goals first|exact ao|skip
    ·dsimp only
     rw [hnx]
     refine ⟨by rw [hlen] at hF1;exact hF1,dL (fun a ha j=>hF2 a (by rw [hlen];exact ha) j) hh.2⟩
  ·have hk2:(s.ops.getD i default).kind=2:=hk
   have himg:=hs.images
   obtain ⟨b0,b1,b2,⟨b3,b3'⟩,⟨b4,b4'⟩,⟨b5,b5'⟩,b6,b6'⟩:=nN C hlt (by omega)
   obtain ⟨_,_,_,q4⟩:=cK.1 (V.ok i hlt)
   obtain ⟨_,_,_,_,_,_,q7⟩:=q4 (by omega)
   have hd:=q7 hk
   rw [List.length_map,List.length_reverse] at hd
   have hnx:=eN (m:=m) (z:=bI s x y) hlt
   rw [e,jQ hk] at hnx
   have hsm:=fB s (aO s.ops i) x y hs hx hy ⟨by omega,by omega⟩ ⟨by omega,by omega⟩ ⟨by omega,by omega⟩ ⟨by omega,by omega⟩ ⟨by omega,by omega⟩
   generalize hz1:bI s x y (aO s.ops i)=zz at hsm
   obtain ⟨p,ms⟩:=zz
   dsimp only at hsm
   unfold aO at hsm
   repeat' (first|refine aj hk2 ?_|refine ak ?_|((with_reducible refine aT (id:=11) (fun K hW => ?_));(try simp (maxSteps:=999999)(disch:=omega) only [go_sem]);and_intros;all_goals first|(refine hK _ ?_;clear hK K)|try exact aa)|((first|refine ai (fun K hK => ?_)|refine ae (hsm) ?_);and_intros;all_goals first|(refine hK _ ?_;clear hK K)|try exact aa)|(refine bc (fun hb => ?_) (fun hb => ?_);all_goals try exact aJ))
   refine hW _ (aZ [(1, .b (I x)),(2, .b (I y)),(3, .b fM),(4, .b (.c (.ptr 0 0))),(8, .b (.c (.ptr 3 0))),(9, .b (U m)),(11, .b (.c (.ptr 1 0))),(13, .b (.c (.own 4 ((bR s.ops i).length)))),(38, .b (.c (.p (kq s.ops)))),(39, .b (I s.ops.length)),(40, .b (I i)),(14, .b (I i)),(15, .b (.c (.ptr 5 0)))] [(0, .fix ((aM s).map CV.p)),(1, .fix [.p (PU m), .own 2 ((bR s.ops i).length+1)]),(2, .arr 201 23 (N) f),(3, .fix ((aH aG).map CV.p)),(4, .arr 29 12 (NO) g),(5, .fix ((dJ (s.ops.getD i default)).map CV.p))] 6) ?_ ?_
   ·refine ay [(1,some 1),(2,some 2),(3,some 3),(4,some 4),(5,some 5)] ?_ ?_
    and_intros
    all_goals first|exact ao|skip
   clear hW
   repeat' (first|refine aj hk2 ?_|refine ak ?_|((with_reducible refine aT (id:=14) (fun K hW => ?_));(try simp (maxSteps:=999999)(disch:=omega) only [go_sem]);and_intros;all_goals first|(refine hK _ ?_;clear hK K)|try exact aa)|(refine ai (fun K hK => ?_);and_intros;all_goals first|(refine hK _ ?_;clear hK K)|try exact aa))
   refine re 1 2 (bR s.ops i).length N hN f m (s.ops.getD i default) t ?_ ?_ ?_ ?_ (by decide) hd hf hk2 ?_ (fun F hF1 hF2 => ?_)
   ·simp (maxSteps:=999999)(disch:=omega) only [go_sem]
   ·simp (maxSteps:=999999)(disch:=omega) only [go_sem]
   ·simp (maxSteps:=999999)(disch:=omega) only [go_sem]
   ·simp (maxSteps:=999999)(disch:=omega) only [go_sem]
   ·refine (?_:dB 0 _).1
    repeat' (first|exact xn rfl|refine dB.set ?_ _ _)
   have hbk:=mS m ((bR s.ops i).length+1) F (fW (s.ops.getD i default) t) (by omega) hF1
   simp (maxSteps:=999999)(disch:=omega) only [go_sem]
   refine hW _ (aZ [(1, .b (I x)),(2, .b (I y)),(3, .b fM),(4, .b (.c (.ptr 0 0))),(8, .b (.c (.ptr 3 0))),(9, .b (U m)),(11, .b (.c (.ptr 1 0))),(13, .b (.c (.own 4 ((bR s.ops i).length)))),(38, .b (.c (.p (kq s.ops)))),(39, .b (I s.ops.length)),(40, .b (I i)),(14, .b (I i)),(15, .b (.c (.ptr 5 0)))] [(0, .fix ((aM s).map CV.p)),(1, .fix [.p (PU m), .own 2 ((bR s.ops i).length+1+1)]),(2, .arr 201 23 ((bR s.ops i).length+2) F),(3, .fix ((aH aG).map CV.p)),(4, .arr 29 12 (NO) g),(5, .fix ((dJ (s.ops.getD i default)).map CV.p))] 6) ?_ ?_
   ·refine ay [(1,some 1),(2,some 11),(3,some 3),(4,some 4),(5,some 5)] ?_ ?_
    and_intros
    all_goals first|exact ao|skip
   clear hW
   repeat' (first|refine ak ?_|((first|refine ai (fun K hK => ?_)|refine ed (k:=2) (e:=201) (Nat.le_refl _) hbk (ig _) ?_|refine ae (lu _ _ _ _ _ _ _ _ _ _ _ _ _ _ _ _ _ _) ?_);and_intros;all_goals first|(refine hK _ ?_;clear hK K)|try exact aa))
   rw [ah]
   refine au (i+1,(bR s.ops i).length+2,F,(bR s.ops i).length+1,yu (bR s.ops i).length (s.ops.getD i default) g) ?_ ⟨by dsimp only;omega,by dsimp only;rw [fi hk];exact Nat.le_refl _, ?_,by dsimp only;rw [fi hk];exact Nat.le_refl _,by dsimp only;rw [fi hk];exact qk hop⟩ (by dsimp only;omega)
   ·dsimp only
    rw [fi hk,List.length_cons]
    refine ay [(1,some 1),(2,some 2),(3,some 3),(4,some 7)] ?_ ?_
    and_intros
    all_goals first|exact ao|skip
    exact .inr fun a ha j hj=>wK (fun j hj=>by (have hivl:j=0∨j=1∨j=2∨j=3∨j=4∨j=5∨j=6∨j=7∨j=8∨j=9∨j=10∨j=11:=by omega);rcases hivl with rfl|rfl|rfl|rfl|rfl|rfl|rfl|rfl|rfl|rfl|rfl|rfl <;> rfl) a ha j hj
   ·dsimp only
    rw [hnx]
    refine ⟨by rw [hlen] at hF1;exact hF1,dL (fun a ha j=>hF2 a (by rw [hlen];exact ha) j) hh⟩
  ·have hk2:(s.ops.getD i default).kind=3:=hk
   have hnx:=eN (m:=m) (z:=bI s x y) hlt
   have himg:=hs.images
   obtain ⟨a,sk,hsk⟩:∃ a sk,bR s.ops i=a :: sk:=by
    cases hq:bR s.ops i with
    | nil=>exact absurd hq (W.pops i hlt hk)
    | cons a sk=>exact ⟨a,sk,rfl⟩
   cases r with
   | nil=>rw [hsk] at hlen;cases hlen
   | cons u r =>
   rw [e,lF hk] at hnx
   obtain ⟨vt,vf,vs⟩:=ha.v
   have ho:=ha.o
   rw [hsk] at ho
   have eg:t.op=aO s.ops a:=(List.cons.inj ho).1
   have hgl:a<i:=rX (ops:=s.ops) (by rw [hsk];exact List.mem_cons_self ..)
   have hgk:(aO s.ops a).kind=2:=gX (i:=i) (by rw [hsk];exact List.mem_cons_self ..)
   obtain ⟨b0,b1,b2,⟨b3,b3'⟩,⟨b4,b4'⟩,⟨b5,b5'⟩,b6,b6'⟩:=nN C (show a<s.ops.length by omega) (by omega)
   obtain ⟨_,_,_,q4⟩:=cK.1 (V.ok a (by omega))
   obtain ⟨_,_,_,q5,q6,_⟩:=q4 (by omega)
   rw [← eg] at b0 b1 b2 b3 b3' b4 b4' b5 b5' b6 b6' q5 q6
   simp only [jh,decide_eq_true_eq] at q5 q6
   have hlk:(bR s.ops i).length=r.length+1:=by rw [hlen];rfl
   have hls:(bR s.ops (i+1)).length=r.length:=by rw [nJ hk,List.length_tail,hlk];rfl
   have hu:eI (f r.length) u:=hh.2.1
   have hskl:sk.length=r.length:=by rw [hsk] at hlk;simpa using hlk
   rw [hsk] at hop
   have hrow:∀ c,g r.length c=(dJ t.op).getD c .any:=fun c=>by rw [← hskl,eg];exact hop.1 c
   rw [hlk] at hf hst hN hNO ⊢
   have hz:=C.z
   have hsm:=fB s t.op x y hs hx hy ⟨by omega,by omega⟩ ⟨by omega,by omega⟩ ⟨by omega,by omega⟩ ⟨by omega,by omega⟩ ⟨by omega,by omega⟩
   have hk0:=hz.k0 t.op
   have hkm:=hz.km t.op
   have hacT:=jP m (r.length+1) f t (by omega) hf
   have hbkT:=mS m (r.length+1) f t (by omega) hf
   have hre:=ka t.acc t.back m hm vt.v
   have hrv:=kz hm vt.v
   have hko:u.op.knockout=true→t.op.operator=4:=fun h=>vf.ctx.elim id fun q=>by rw [h] at q;cases q.2
   generalize hz1:bI s x y t.op=zz at *
   obtain ⟨p,ms⟩:=zz
   dsimp only at hsm hk0 hkm hnx
   have hbl:=qA m r.length f u (s.ops.getD i default) (by omega) hu hk2
   have hsc:=oO t.op ⟨(i:Int),6,aG,aG,0,bl t.acc t.back m⟩ ms m hm hrv hk0 hkm vf.op0 vf.opm
   have er:ag [g r.length 0,g r.length 1,g r.length 2,g r.length 3,g r.length 4,g r.length 5,g r.length 6,g r.length 7,g r.length 8,g r.length 9,g r.length 10,g r.length 11]=ag (dJ t.op):=by rw [hrow 0,hrow 1,hrow 2,hrow 3,hrow 4,hrow 5,hrow 6,hrow 7,hrow 8,hrow 9,hrow 10,hrow 11];rfl
   rw [← er] at hsm
   generalize hres:bl t.acc t.back m=res at *
   repeat' (first|refine ak ?_|((with_reducible refine aT (id:=7) (fun K hW => ?_));(try simp (maxSteps:=999999)(disch:=omega) only [go_sem]);and_intros;all_goals first|(refine hK _ ?_;clear hK K)|try exact aa)|(refine ai (fun K hK => ?_);and_intros;all_goals first|(refine hK _ ?_;clear hK K)|try exact aa)|(refine bc (fun hb => ?_) (fun hb => ?_);all_goals try exact aJ))
   refine hW _ (aZ [(1, .b (I x)),(2, .b (I y)),(3, .b fM),(4, .b (.c (.ptr 0 0))),(8, .b (.c (.ptr 3 0))),(9, .b (U m)),(11, .b (.c (.ptr 1 0))),(13, .b (.c (.own 4 (r.length+1)))),(38, .b (.c (.p (kq s.ops)))),(39, .b (I s.ops.length)),(40, .b (I i)),(14, .b (I i)),(15, .b (.c (.ptr 5 0))),(16, .b (.c (.ptr 6 0)))] [(0, .fix ((aM s).map CV.p)),(1, .fix [.p (PU m), .own 2 (r.length+1+1)]),(2, .arr 201 23 (N) f),(3, .fix ((aH aG).map CV.p)),(4, .arr 29 12 (NO) g),(5, .fix ((dJ (s.ops.getD i default)).map CV.p)),(6, .fix ((dJ (s.ops.getD i default)).map CV.p))] 7) ?_ ?_
   ·refine ay [(1,some 1),(2,some 2),(3,some 3),(4,some 4),(5,some 5),(6,some 6)] ?_ ?_
    and_intros
    all_goals first|exact ao|skip
   clear hW
   repeat' (first|refine aj hk2 ?_|refine ak ?_|((with_reducible refine aT (id:=11) (fun K hW => ?_));(try simp (maxSteps:=999999)(disch:=omega) only [go_sem]);and_intros;all_goals first|(refine hK _ ?_;clear hK K)|try exact aa)|((first|refine ai (fun K hK => ?_)|refine ae (hsm) ?_);and_intros;all_goals first|(refine hK _ ?_;clear hK K)|try exact aa))
   refine hW _ (aZ [(1, .b (I x)),(2, .b (I y)),(3, .b fM),(4, .b (.c (.ptr 0 0))),(8, .b (.c (.ptr 3 0))),(9, .b (U m)),(11, .b (.c (.ptr 1 0))),(13, .b (.c (.own 4 (r.length)))),(38, .b (.c (.p (kq s.ops)))),(39, .b (I s.ops.length)),(40, .b (I i)),(14, .b (I i)),(15, .b (.c (.ptr 5 0))),(16, .b (.c (.ptr 6 0))),(18, .b (U ms)),(19, .b (.c (.ptr 7 0)))] [(0, .fix ((aM s).map CV.p)),(1, .fix [.p (PU m), .own 2 (r.length+1+1)]),(2, .arr 201 23 (N) f),(3, .fix ((aH aG).map CV.p)),(4, .arr 29 12 (NO) g),(5, .fix ((dJ (s.ops.getD i default)).map CV.p)),(6, .fix ((dJ t.op).map CV.p)),(7, .fix ((cB ⟨(i:Int),1,aG,aG,0,p⟩).map CV.p))] 8) ?_ ?_
   ·refine ay [(1,some 1),(2,some 2),(3,some 3),(4,some 4),(5,some 5),(6,some 6),(7,some 8)] ?_ ?_
    and_intros
    all_goals first|exact ao|skip
    all_goals exact .inl (hrow _)
   clear hW
   repeat' (first|refine aj hk2 ?_|refine ak ?_|((with_reducible refine aT (id:=20) (fun K hW => ?_));(try simp (maxSteps:=999999)(disch:=omega) only [go_sem]);and_intros;all_goals first|(refine hK _ ?_;clear hK K)|try exact aa)|((first|refine ai (fun K hK => ?_)|refine ed (k:=2) (e:=201) hN hacT (jA _) ?_|refine ed (k:=2) (e:=201) hN hbkT (ig _) ?_|refine ae (hre) ?_|refine ae (hsc) ?_);and_intros;all_goals first|(refine hK _ ?_;clear hK K)|try exact aa))
   refine hW _ (aZ [(1, .b (I x)),(2, .b (I y)),(3, .b fM),(4, .b (.c (.ptr 0 0))),(8, .b (.c (.ptr 3 0))),(9, .b (U m)),(11, .b (.c (.ptr 1 0))),(13, .b (.c (.own 4 (r.length)))),(38, .b (.c (.p (kq s.ops)))),(39, .b (I s.ops.length)),(40, .b (I i)),(14, .b (I i)),(15, .b (.c (.ptr 5 0))),(18, .b (U ms)),(22, .b (.c (.ptr 6 0)))] [(0, .fix ((aM s).map CV.p)),(1, .fix [.p (PU m), .own 2 (r.length+1+1)]),(2, .arr 201 23 (N) f),(3, .fix ((aH aG).map CV.p)),(4, .arr 29 12 (NO) g),(5, .fix ((dJ (s.ops.getD i default)).map CV.p)),(6, .fix ((aH (az m t.op res ms)).map CV.p))] 7) ?_ ?_
   ·refine ay [(1,some 1),(2,some 2),(3,some 3),(4,some 4),(5,some 5),(6,some 9)] ?_ ?_
    and_intros
    all_goals first|exact ao|skip
   clear hW
   repeat' (refine ai (fun K hK => ?_);and_intros;all_goals first|(refine hK _ ?_;clear hK K)|try exact aa)
   refine iJ 1 2 (r.length+1+1) N f m (s.ops.getD i default) hN hbl ?_ ?_ ?_
   ·simp (maxSteps:=999999)(disch:=omega) only [go_sem]
   ·simp (maxSteps:=999999)(disch:=omega) only [go_sem]
   simp (maxSteps:=999999)(disch:=omega) only [go_sem]
   refine hK _ ?_
   clear hK
   repeat' (first|refine aj hk2 ?_|refine ak ?_|((with_reducible refine aT (id:=23) (fun K hW => ?_));(try simp (maxSteps:=999999)(disch:=omega) only [go_sem]);and_intros;all_goals first|(refine hK _ ?_;clear hK K)|try exact aa)|(refine ai (fun K hK => ?_);and_intros;all_goals first|(refine hK _ ?_;clear hK K)|try exact aa))
   refine te 1 2 r.length N hN f m ms t u ?_ ?_ ?_ ?_ (by decide) (by omega) hf hu hm q5 q6 ⟨vf.op0,vf.opm⟩ ⟨hk0,hkm⟩ vt.v vs.head.v hko ?_ (fun F hF1 hF2 => ?_)
   ·simp (maxSteps:=999999)(disch:=omega) only [go_sem]
   ·simp (maxSteps:=999999)(disch:=omega) only [go_sem]
   ·simp (maxSteps:=999999)(disch:=omega) only [go_sem]
   ·simp (maxSteps:=999999)(disch:=omega) only [go_sem]
   ·refine (?_:dB 0 _).1
    repeat' (first|exact xn rfl|refine dB.set ?_ _ _|refine dB.newBox ?_ _|refine mO (by (first|(simp (maxSteps:=999999)(disch:=omega) only [go_sem];done)|(simp (maxSteps:=999999)(disch:=omega) only [go_sem];omega))) ?_)
   rw [hres] at hF1 ⊢
   have hac2:=jP m r.length F _ (by omega) hF1
   have hco2:=eM (bT m t.op (az m t.op res ms) u).acc
   simp (maxSteps:=999999)(disch:=omega) only [go_sem]
   refine hW _ (aZ [(1, .b (I x)),(2, .b (I y)),(3, .b fM),(4, .b (.c (.ptr 0 0))),(8, .b (.c (.ptr 3 0))),(9, .b (U m)),(11, .b (.c (.ptr 1 0))),(13, .b (.c (.own 4 (r.length)))),(38, .b (.c (.p (kq s.ops)))),(39, .b (I s.ops.length)),(40, .b (I i)),(14, .b (I i)),(22, .b (.c (.ptr 5 0))),(23, .b (.c (.ptr 6 0)))] [(0, .fix ((aM s).map CV.p)),(1, .fix [.p (PU m), .own 2 (r.length+1)]),(2, .arr 201 23 (N) F),(3, .fix ((aH aG).map CV.p)),(4, .arr 29 12 (NO) g),(5, .fix ((aH (az m t.op res ms)).map CV.p)),(6, .fix ((aH (dU u.acc)).map CV.p))] 7) ?_ ?_
   ·refine ay [(1,some 1),(2,some 2),(3,some 3),(4,some 4),(5,some 6),(6,some 7)] ?_ ?_
    and_intros
    all_goals first|exact ao|skip
   clear hW
   refine nd (id:=25) (.br 0 (.br 1 (.br 2 (.br 3 (.br 4 (.br 5 (.br 6 (.br 7 (.br 8 .leaf .nil) .nil) .nil) .nil) .nil) .nil) .nil) .nil) .nil) (by decide +kernel) ?_ (fun K0 hW => ?_)
   ·refine ⟨?_,Nat.zero_le _⟩
    refine (?_:dB 0 _).1
    repeat' (exact xn rfl)
   replace hW:=kD hW
   repeat' (first|exact cz|(refine cZ (fun K' hK' => ?_) ?_)|(refine cj (hW _ ?_);clear hW)|((first|refine ed (k:=2) (e:=201) (show r.length+1≤N by omega) hac2 (jA _) ?_|refine ae (hco2) ?_|refine ae (lu _ _ _ _ _ _ _ _ _ _ _ _ _ _ _ _ _ _) ?_);(try simp (maxSteps:=999999)(disch:=omega) only [go_sem]);and_intros;(all_goals first|(refine hK' _ ?_;clear hK' K')|trivial|omega|exact Nat.le_of_ble_eq_true rfl|exact aa|skip))|(simp (maxSteps:=999999)(disch:=omega) only [go_sem];and_intros;(all_goals first|(refine hK' _ ?_;clear hK' K')|trivial|omega|exact Nat.le_of_ble_eq_true rfl|exact aa|skip)))
   all_goals
    refine iT ?_
    refine .inl ⟨aZ [(1, .b (I x)),(2, .b (I y)),(3, .b fM),(4, .b (.c (.ptr 0 0))),(8, .b (.c (.ptr 3 0))),(9, .b (U m)),(11, .b (.c (.ptr 1 0))),(13, .b (.c (.own 4 (r.length)))),(38, .b (.c (.p (kq s.ops)))),(39, .b (I s.ops.length)),(40, .b (I i))] [(0, .fix ((aM s).map CV.p)),(1, .fix [.p (PU m), .own 2 (r.length+1)]),(2, .arr 201 23 (N) F),(3, .fix ((aH aG).map CV.p)),(4, .arr 29 12 (NO) g)] 5, ?_, ?_⟩
    ·refine ay [(1,some 1),(2,some 2),(3,some 3),(4,some 4)] ?_ ?_
     and_intros
     all_goals first|exact ao|skip
    repeat' (refine ai (fun K hK => ?_);and_intros;all_goals first|(refine hK _ ?_;clear hK K)|try exact aa)
    rw [ah]
    refine au (i+1,N,F,NO,g) ?_ ⟨by dsimp only;omega,by dsimp only;rw [hls];omega, ?_,by dsimp only;rw [hls];omega,by dsimp only;rw [nJ hk,hsk];exact hop.2⟩ (by dsimp only;omega)
    ·dsimp only
     rw [hls]
     refine ay [(1,some 1),(2,some 2),(3,some 3),(4,some 4)] ?_ ?_
     and_intros
     all_goals first|exact ao|skip
    ·dsimp only
     rw [hnx]
     exact ⟨hF1,dL (fun a ha j=>hF2 a ha j) hh.2.2⟩
 ·have hi2:i=s.ops.length:=by omega
  subst hi2
  have hg:decide (((s.ops.length:Nat):Int)<s.ops.length)=false:=decide_eq_false (by omega)
  have hl0:(bR s.ops s.ops.length).length=0:=by rw [W.fin];rfl
  rw [hl0] at hf hN ⊢
  have hre:=oQ m f t hf hm ha.v.head.v
  rw [hv t r e]
  generalize bl t.acc t.back m=q at *
  repeat' (first|refine aj hg ?_|refine ak ?_|((first|refine ai (fun K hK => ?_)|refine ed (k:=2) (e:=201) hN hre (tE) ?_);and_intros;all_goals first|(refine hK _ ?_;clear hK K)|try exact aa)|(refine an ?_;(try clear hB KB);(try clear hK K)))
  try rfl
end Go.Proofs.YtmfblbbemekkoaaGreatDoor
set_option maxHeartbeats 8000000
set_option maxRecDepth 16000
namespace Go.Proofs.YtmfblbbemekkoaaGreatDoor
open Go Go.SL
open Go.RowKit (wrap64)
attribute [local go_sem] dI Int.toNat_natCast cB cU qm Jn
theorem sK {a c d k nx:Nat} {A C D:Bx} {bx b:Nat→Option Bx} (hw:∀ i,nx≤i→bx i=none) (h1:b a=some A) (h2:b c=some C) (h4:b d=some D) (h3:∀ i,i<nx→i≠a→i≠c→i≠d→i≠k→b i=bx i):Jo (aA a A (aA c C (aA d D (dY k bx)))) b:=fun i y hi=>by
 unfold aA at hi
 split at hi
 ·rename_i e;rw [e,h1];exact hi
 rename_i e
 split at hi
 ·rename_i e2;rw [e2,h2];exact hi
 rename_i e2
 split at hi
 ·rename_i e4;rw [e4,h4];exact hi
 rename_i e4
 unfold dY at hi
 split at hi
 ·cases hi
 ·rename_i e3
  rcases Nat.lt_or_ge i nx with q|q
  ·rw [h3 i q e e2 e4 e3];exact hi
  ·rw [hw i q] at hi;cases hi
theorem uR (n : Nat) (g : Nat → Nat → PV) (v : Mic) (hn : n ≤ 100000) : ∃ G : Nat → Nat → PV, (∀ L : List Mic, L.length = n → gV g L → gV G (L ++ [v])) ∧ ∀ (bx : Nat → Option Bx) (nx T k : Nat), bx T = some (.fix [.own k n]) → bx k = some (.arr 120 18 n g) → T < nx → k < nx → T ≠ k → (∀ i, nx ≤ i → bx i = none) →
  kR Sg bx nx 66 [ag (cB v), .c (.ptr T 0)] (.tup []) (aA T (.fix [.own (nx+2) (n+1)]) (aA (nx+2) (.arr 120 18 (n+1) G) (dY k bx))) (nx+3):=by
 have ht:True:=trivial
 refine ⟨?G, ?hG, ?hI⟩
 case hI =>
  intro bx nx T k hT hk nT nk dT hw
  have e:bx=aA T (.fix [.own k n]) (aA k (.arr 120 18 n g) bx):=by rw [← bt hk];exact bt hT
  refine gw Tryz.func66 rfl (rs:=[]) rfl rfl dZ (by decide +kernel) (Nat.le_of_ble_eq_true rfl) ?_ (fun kf => ?_)
  ·intro v hv
   simp only [List.mem_cons,List.not_mem_nil,or_false] at hv
   rcases hv with rfl|rfl
   ·exact fun c hc=>by (obtain ⟨x,_,rfl⟩:=List.mem_map.1 hc;trivial)
   ·exact nT
  rw [e]
  repeat' (refine ai (fun K hK => ?_);and_intros;all_goals first|(refine hK _ ?_;clear hK K)|try exact aa)
  refine ⟨trivial,rfl,iD (bx:=aA T (.fix [.own k n]) (aA k (.arr 120 18 n g) bx)) (nx:=nx) ?_ ?_ ?_ (fun i hi h1 h2 h3 => ?_), ?_, ?_, ?_⟩
  ·rw [← e];exact hw
  ·simp (maxSteps:=999999)(disch:=omega) only [go_sem]
  ·(first|(simp (maxSteps:=999999)(disch:=omega) only [go_sem];done)|(simp (maxSteps:=999999)(disch:=omega) only [go_sem];rfl))
  ·simp (maxSteps:=999999)(disch:=omega) only [go_sem]
  ·simp (maxSteps:=999999)(disch:=omega) only [go_sem]
  ·rfl
  ·exact fun v hv=>(by cases hv)
 ·intro L hL hg
  show gV (ix n g _) _
  refine Fe hL hg fun j hj => ?_
  have hivl:j=0∨j=1∨j=2∨j=3∨j=4∨j=5∨j=6∨j=7∨j=8∨j=9∨j=10∨j=11∨j=12∨j=13∨j=14∨j=15∨j=16∨j=17:=by omega
  rcases hivl with rfl|rfl|rfl|rfl|rfl|rfl|rfl|rfl|rfl|rfl|rfl|rfl|rfl|rfl|rfl|rfl|rfl|rfl <;> rfl
noncomputable def fU (n:Nat) (g:Nat→Nat→PV) (v:Mic):Nat→Nat→PV:=if h:n≤100000 then Classical.choose (uR n g v h) else g
theorem iU {n:Nat} {g:Nat→Nat→PV} {v:Mic} {L:List Mic} (hn:n≤100000) (hL:L.length=n) (hg:gV g L):gV (fU n g v) (L ++ [v]):=by
 unfold fU
 rw [dif_pos hn]
 exact (Classical.choose_spec (uR n g v hn)).1 L hL hg
theorem Cu (bx : Nat → Option Bx) (nx T k n : Nat) (g : Nat → Nat → PV) (v : Mic) (hT : bx T = some (.fix [.own k n])) (hk : bx k = some (.arr 120 18 n g)) (nT : T < nx) (nk : k < nx) (dT : T ≠ k) (hn : n ≤ 100000) (hw : ∀ i, nx ≤ i → bx i = none) :
  kR Sg bx nx 66 [ag (cB v), .c (.ptr T 0)] (.tup []) (aA T (.fix [.own (nx+2) (n+1)]) (aA (nx+2) (.arr 120 18 (n+1) (fU n g v)) (dY k bx))) (nx+3):=by
 unfold fU
 rw [dif_pos hn]
 exact (Classical.choose_spec (uR n g v hn)).2 bx nx T k hT hk nT nk dT hw
theorem gI {st : St} {K : SV → St → Prop} (T k n : Nat) (g : Nat → Nat → PV) (v : Mic) (hT : st.bx T = some (.fix [.own k n])) (hk : st.bx k = some (.arr 120 18 n g)) (nT : T < st.nx) (nk : k < st.nx) (dT : T ≠ k) (hn : n ≤ 100000) (hw : ∀ i, st.nx ≤ i → st.bx i = none)
  (hK:K (.tup []) (st.turn (aA T (.fix [.own (st.nx+2) (n+1)]) (aA (st.nx+2) (.arr 120 18 (n+1) (fU n g v)) (dY k st.bx))) (st.nx+3))) :
  dj Sg st 66 [ag (cB v), .c (.ptr T 0)] (Sl.of K):=by
 refine dd (Cu st.bx st.nx T k n g v hT hk nT nk dT hn hw) rfl (fun i hi => ?_) (by omega) hK
 unfold aA dY
 rw [if_neg (by omega),if_neg (by omega),if_neg (by omega)]
 exact hw i (by omega)
theorem xe (bx : Nat → Option Bx) (nx b5 b2 b3 b1 T k n : Nat) (g : Nat → Nat → PV) (kd q m : Int) (p : Pixel) (v : Mic)
  (h5:bx b5=some (.fix ((aH p).map CV.p))) (h2:bx b2=some (.fix [.p (PU m)])) (h3:bx b3=some (.fix [.clo 66 [(T,0)]])) (h1:bx b1=some (.fix ((cB v).map CV.p))) (hT:bx T=some (.fix [.own k n])) (hk:bx k=some (.arr 120 18 n g))
  (nb5:b5<nx) (nb2:b2<nx) (nb3:b3<nx) (nb1:b1<nx) (nT:T<nx) (nk:k<nx) (db5b2:b5≠b2) (db5b3:b5≠b3) (db5b1:b5≠b1) (db5T:b5≠T) (db5k:b5≠k) (db2b3:b2≠b3) (db2b1:b2≠b1) (db2T:b2≠T) (db2k:b2≠k) (db3b1:b3≠b1) (db3T:b3≠T) (db3k:b3≠k) (db1T:b1≠T) (db1k:b1≠k) (dTk:T≠k) (hn:n≤100000)
  (hm:Full m) (hp:PixV p m) (hq:0≤q) (hqm:q≤m) (hw:∀ i,nx≤i→bx i=none) :
  kR Sg bx nx 151 [I kd,U q, .c (.ptr b5 0), .c (.ptr b2 0), .c (.ptr b3 0), .c (.ptr b1 0)] (.tup [])
   (aA b5 (.fix ((aH (aX p q m)).map CV.p)) (aA T (.fix [.own (nx+3) (n+1)]) (aA (nx+3) (.arr 120 18 (n+1) (fU n g ⟨v.op,kd,p,aG,q,aX p q m⟩)) (dY k bx)))) (nx+4):=by
 have hs:=gO p q m hm hp hq hqm
 have e:bx=aA b5 (.fix ((aH p).map CV.p)) (aA b2 (.fix [.p (PU m)]) (aA b3 (.fix [.clo 66 [(T,0)]]) (aA b1 (.fix ((cB v).map CV.p)) (aA T (.fix [.own k n]) (aA k (.arr 120 18 n g) bx))))):=by
  rw [← bt hk,← bt hT,← bt h1,← bt h3,← bt h2];exact bt h5
 have ht:True:=trivial
 generalize aX p q m=r at *
 refine gw Tryz.func151 rfl (rs:=[]) rfl rfl dZ (by decide +kernel) (Nat.le_of_ble_eq_true rfl) ?_ (fun kf => ?_)
 ·intro v hv
  simp only [List.mem_cons,List.not_mem_nil,or_false] at hv
  rcases hv with rfl|rfl|rfl|rfl|rfl|rfl
  ·trivial
  ·trivial
  ·exact nb5
  ·exact nb2
  ·exact nb3
  ·exact nb1
 rw [e]
 repeat' ((first|refine ai (fun K hK => ?_)|refine ae (hs) ?_);and_intros;all_goals first|(refine hK _ ?_;clear hK K)|try exact aa)
 refine gI T k n g ⟨v.op,kd,p,aG,q,r⟩ ?_ ?_ ?_ ?_ dTk hn ?_ ?_
 ·simp (maxSteps:=999999)(disch:=omega) only [go_sem]
 ·simp (maxSteps:=999999)(disch:=omega) only [go_sem]
 ·(first|(simp (maxSteps:=999999)(disch:=omega) only [go_sem];done)|(simp (maxSteps:=999999)(disch:=omega) only [go_sem];omega))
 ·(first|(simp (maxSteps:=999999)(disch:=omega) only [go_sem];done)|(simp (maxSteps:=999999)(disch:=omega) only [go_sem];omega))
 ·intro iw hiw
  (try simp (maxSteps:=999999)(disch:=omega) only [go_sem] at hiw ⊢)
  (repeat (refine Eq.trans (if_neg ?_) ?_;(focus omega)))
  exact hw iw (by omega)
 simp (maxSteps:=999999)(disch:=omega) only [go_sem]
 refine hK _ ?_
 clear hK
 repeat' (refine ai (fun K hK => ?_);and_intros;all_goals first|(refine hK _ ?_;clear hK K)|try exact aa)
 refine ⟨trivial,rfl,sK (bx:=aA b5 (.fix ((aH p).map CV.p)) (aA b2 (.fix [.p (PU m)]) (aA b3 (.fix [.clo 66 [(T,0)]]) (aA b1 (.fix ((cB v).map CV.p)) (aA T (.fix [.own k n]) (aA k (.arr 120 18 n g) bx)))))) (nx:=nx) ?_ ?_ ?_ ?_ (fun i hi q1 q2 q3 q4 => ?_), ?_, ?_, ?_⟩
 ·rw [← e];exact hw
 ·(first|(simp (maxSteps:=999999)(disch:=omega) only [go_sem];done)|(simp (maxSteps:=999999)(disch:=omega) only [go_sem];rfl))
 ·simp (maxSteps:=999999)(disch:=omega) only [go_sem]
 ·(first|(simp (maxSteps:=999999)(disch:=omega) only [go_sem];done)|(simp (maxSteps:=999999)(disch:=omega) only [go_sem];rfl))
 ·simp (maxSteps:=999999)(disch:=omega) only [go_sem]
 ·simp (maxSteps:=999999)(disch:=omega) only [go_sem]
 ·rfl
 ·exact fun v hv=>(by cases hv)
theorem jU {st : St} {K : SV → St → Prop} (b5 b2 b3 b1 T k n : Nat) (g : Nat → Nat → PV) (kd q m : Int) (p : Pixel) (v : Mic)
  (h5:st.bx b5=some (.fix ((aH p).map CV.p))) (h2:st.bx b2=some (.fix [.p (PU m)])) (h3:st.bx b3=some (.fix [.clo 66 [(T,0)]])) (h1:st.bx b1=some (.fix ((cB v).map CV.p))) (hT:st.bx T=some (.fix [.own k n])) (hk:st.bx k=some (.arr 120 18 n g))
  (hl:b5<st.nx∧b2<st.nx∧b3<st.nx∧b1<st.nx∧T<st.nx∧k<st.nx) (db5b2:b5≠b2) (db5b3:b5≠b3) (db5b1:b5≠b1) (db5T:b5≠T) (db5k:b5≠k) (db2b3:b2≠b3) (db2b1:b2≠b1) (db2T:b2≠T) (db2k:b2≠k) (db3b1:b3≠b1) (db3T:b3≠T) (db3k:b3≠k) (db1T:b1≠T) (db1k:b1≠k) (dTk:T≠k) (hn:n≤100000)
  (hm:Full m) (hp:PixV p m) (hq:0≤q) (hqm:q≤m) (hw:∀ i,st.nx≤i→st.bx i=none)
  (hK:K (.tup []) (st.turn (aA b5 (.fix ((aH (aX p q m)).map CV.p)) (aA T (.fix [.own (st.nx+3) (n+1)]) (aA (st.nx+3) (.arr 120 18 (n+1) (fU n g ⟨v.op,kd,p,aG,q,aX p q m⟩)) (dY k st.bx)))) (st.nx+4))) :
  dj Sg st 151 [I kd,U q, .c (.ptr b5 0), .c (.ptr b2 0), .c (.ptr b3 0), .c (.ptr b1 0)] (Sl.of K):=by
 obtain ⟨l1,l2,l3,l4,l5,l6⟩:=hl
 refine dd (xe st.bx st.nx b5 b2 b3 b1 T k n g kd q m p v h5 h2 h3 h1 hT hk l1 l2 l3 l4 l5 l6 db5b2 db5b3 db5b1 db5T db5k db2b3 db2b1 db2T db2k db3b1 db3T db3k db1T db1k dTk hn hm hp hq hqm hw) rfl (fun i hi => ?_) (by omega) hK
 unfold aA dY
 rw [if_neg (by omega),if_neg (by omega),if_neg (by omega),if_neg (by omega)]
 exact hw i (by omega)
theorem Cx {st:St} {d:Option Nat} {v:SV} {B:Nat→Option Bx} {n:Nat}:(st.set d v).turn B n=(st.turn B n).set d v:=by cases d <;> rfl
theorem FI {st:St} {x:Bx} {B:Nat→Option Bx} {n:Nat}:(st.newBox x).turn B n=st.turn B n:=rfl
theorem Bb {st:St} {i:Nat} {x:Bx} {B:Nat→Option Bx} {n:Nat}:(st.setBox i x).turn B n=st.turn B n:=rfl
theorem Fy {st:St} {i:Nat} {B:Nat→Option Bx} {n:Nat}:(st.delBox i).turn B n=st.turn B n:=rfl
theorem AD {st:St} {B C:Nat→Option Bx} {n k:Nat}:(st.turn C k).turn B n=st.turn B n:=rfl
attribute [local go_sem] Cx FI Bb Fy AD gE dr dt du
theorem sO (bx : Nat → Option Bx) (n : Nat) (g : Nat → Nat → PV) (o : Op) (v : Mic) (ms m : Int) (hT : bx 1 = some (.fix [.own 2 n])) (hk : bx 2 = some (.arr 120 18 n g)) (hn : n ≤ 90000) (hm : Full m) (hp : PixV v.out m) (hms : 0 ≤ ms) (hmm : ms ≤ m) (ho : 0 ≤ o.opacity) (hom : o.opacity ≤ m) (hw : ∀ i, 12 ≤ i → bx i = none) (h : o.mask = 0) :
  kR Sg bx 12 109 [ag (dJ o),ag (cB v),U ms,U m, .c (.clo 66 [(1,0)])] (.b (ag (aH (az m o v.out ms))))
   (aA 1 (.fix [.own 24 (n+2)]) (aA 24 (.arr 120 18 (n+2) (fU (n+1) (fU n g v) ⟨v.op,3,v.out,aG,o.opacity,aX v.out o.opacity m⟩)) (dY 2 bx))) 25:=by
 have e:bx=aA 1 (.fix [.own 2 n]) (aA 2 (.arr 120 18 n g) bx):=by rw [← bt hk];exact bt hT
 have gg:(o.mask != 0)=false:=bne_eq_false_iff_eq.2 h
 unfold az
 rw [if_pos h,hZ hm]
 have hclo:BV.lt 12 (.c (.clo 66 [(1,0)])):=fun p hp=>by rw [List.mem_singleton.1 hp];decide
 refine gw Tryz.func109 rfl (rs:=[.cell 10 41]) rfl rfl dZ (by decide +kernel) (Nat.le_of_ble_eq_true rfl) ?_ (fun kf => ?_)
 ·intro v hv
  simp only [List.mem_cons,List.not_mem_nil,or_false] at hv
  rcases hv with rfl|rfl|rfl|rfl|rfl
  ·exact fun c hc=>by (obtain ⟨x,_,rfl⟩:=List.mem_map.1 hc;trivial)
  ·exact fun c hc=>by (obtain ⟨x,_,rfl⟩:=List.mem_map.1 hc;trivial)
  ·trivial
  ·trivial
  ·exact hclo
 rw [e]
 repeat' (refine ai (fun K hK => ?_);and_intros;all_goals first|(refine hK _ ?_;clear hK K)|try exact aa)
 refine gI 1 2 n g v ?_ ?_ ?_ ?_ (by decide) (by omega) ?_ ?_
 ·simp (maxSteps:=999999)(disch:=omega) only [go_sem]
 ·(first|(simp (maxSteps:=999999)(disch:=omega) only [go_sem];done)|(simp (maxSteps:=999999)(disch:=omega) only [go_sem];rfl))
 ·(first|(simp (maxSteps:=999999)(disch:=omega) only [go_sem];done)|(simp (maxSteps:=999999)(disch:=omega) only [go_sem];omega))
 ·(first|(simp (maxSteps:=999999)(disch:=omega) only [go_sem];done)|(simp (maxSteps:=999999)(disch:=omega) only [go_sem];omega))
 ·intro iw hiw
  have hiw:17≤iw:=hiw
  simp only [gE,dr,dt,du,gD,jN,ee,dS,dW,dV,gB,jJ,jW,jX]
  repeat (refine Eq.trans (if_neg ?_) ?_;(focus omega))
  exact hw iw (by omega)
 simp (maxSteps:=999999)(disch:=omega) only [go_sem]
 refine hK _ ?_
 clear hK
 repeat' (first|refine aj gg ?_|refine ak ?_|(refine ai (fun K hK => ?_);and_intros;all_goals first|(refine hK _ ?_;clear hK K)|try exact aa))
 refine jU 20 14 15 13 1 19 (n+1) (fU n g v) 3 o.opacity m v.out v ?_ ?_ ?_ ?_ ?_ ?_ ?_ (by decide) (by decide) (by decide) (by decide) (by decide) (by decide) (by decide) (by decide) (by decide) (by decide) (by decide) (by decide) (by decide) (by decide) (by decide) (by omega) hm hp ho hom ?_ ?_
 ·(first|(simp (maxSteps:=999999)(disch:=omega) only [go_sem];done)|(simp (maxSteps:=999999)(disch:=omega) only [go_sem];rfl))
 ·(first|(simp (maxSteps:=999999)(disch:=omega) only [go_sem];done)|(simp (maxSteps:=999999)(disch:=omega) only [go_sem];rfl))
 ·(first|(simp (maxSteps:=999999)(disch:=omega) only [go_sem];done)|(simp (maxSteps:=999999)(disch:=omega) only [go_sem];rfl))
 ·(first|(simp (maxSteps:=999999)(disch:=omega) only [go_sem];done)|(simp (maxSteps:=999999)(disch:=omega) only [go_sem];rfl))
 ·(first|(simp (maxSteps:=999999)(disch:=omega) only [go_sem];done)|(simp (maxSteps:=999999)(disch:=omega) only [go_sem];rfl))
 ·(first|(simp (maxSteps:=999999)(disch:=omega) only [go_sem];done)|(simp (maxSteps:=999999)(disch:=omega) only [go_sem];rfl))
 ·refine ⟨?_, ?_, ?_, ?_, ?_, ?_⟩ <;> (first|(simp (maxSteps:=999999)(disch:=omega) only [go_sem];done)|(simp (maxSteps:=999999)(disch:=omega) only [go_sem];omega))
 ·intro iw hiw
  have hiw:21≤iw:=hiw
  simp only [gE,dr,dt,du,gD,jN,ee,dS,dW,dV,gB,jJ,jW,jX]
  repeat (refine Eq.trans (if_neg ?_) ?_;(focus omega))
  exact hw iw (by omega)
 simp (maxSteps:=999999)(disch:=omega) only [go_sem]
 refine hK _ ?_
 clear hK
 repeat' (first|(refine ai (fun K hK => ?_);and_intros;all_goals first|(refine hK _ ?_;clear hK K)|try exact aa)|(refine an ?_;(try clear hB KB);(try clear hK K)))
 refine ⟨rfl,iD (bx:=aA 1 (.fix [.own 2 n]) (aA 2 (.arr 120 18 n g) bx)) (nx:=12) ?_ ?_ ?_ (fun i hi h1 h2 h3 => ?_)⟩
 ·rw [← e];exact hw
 ·simp (maxSteps:=999999)(disch:=omega) only [go_sem]
 ·(first|(simp (maxSteps:=999999)(disch:=omega) only [go_sem];done)|(simp (maxSteps:=999999)(disch:=omega) only [go_sem];rfl))
 ·simp only [gE,dr,dt,du,gD,jN,ee,dS,dW,dV,gB,jJ,jW,jX]
  repeat (refine Eq.trans (if_neg ?_) ?_;(focus omega))
  (repeat (refine Eq.trans ?_ (if_neg ?_).symm;rotate_left;(focus omega)))
  rfl
theorem sN (bx : Nat → Option Bx) (n : Nat) (g : Nat → Nat → PV) (o : Op) (v : Mic) (ms m : Int) (hT : bx 1 = some (.fix [.own 2 n])) (hk : bx 2 = some (.arr 120 18 n g)) (hn : n ≤ 90000) (hm : Full m) (hp : PixV v.out m) (hms : 0 ≤ ms) (hmm : ms ≤ m) (ho : 0 ≤ o.opacity) (hom : o.opacity ≤ m) (hw : ∀ i, 12 ≤ i → bx i = none) (h : o.mask ≠ 0) :
  kR Sg bx 12 109 [ag (dJ o),ag (cB v),U ms,U m, .c (.clo 66 [(1,0)])] (.b (ag (aH (az m o v.out ms))))
   (aA 1 (.fix [.own 28 (n+3)]) (aA 28 (.arr 120 18 (n+3) (fU (n+2) (fU (n+1) (fU n g v) ⟨v.op,2,v.out,aG,ms,aX v.out ms m⟩) ⟨v.op,3,aX v.out ms m,aG,o.opacity,aX (aX v.out ms m) o.opacity m⟩)) (dY 2 bx))) 29:=by
 have e:bx=aA 1 (.fix [.own 2 n]) (aA 2 (.arr 120 18 n g) bx):=by rw [← bt hk];exact bt hT
 have gg:(o.mask != 0)=true:=bne_iff_ne.2 h
 have hp2:=jD hm hp hms hmm
 unfold az
 rw [if_neg h]
 have hclo:BV.lt 12 (.c (.clo 66 [(1,0)])):=fun p hp=>by rw [List.mem_singleton.1 hp];decide
 refine gw Tryz.func109 rfl (rs:=[.cell 10 41]) rfl rfl dZ (by decide +kernel) (Nat.le_of_ble_eq_true rfl) ?_ (fun kf => ?_)
 ·intro v hv
  simp only [List.mem_cons,List.not_mem_nil,or_false] at hv
  rcases hv with rfl|rfl|rfl|rfl|rfl
  ·exact fun c hc=>by (obtain ⟨x,_,rfl⟩:=List.mem_map.1 hc;trivial)
  ·exact fun c hc=>by (obtain ⟨x,_,rfl⟩:=List.mem_map.1 hc;trivial)
  ·trivial
  ·trivial
  ·exact hclo
 rw [e]
 repeat' (refine ai (fun K hK => ?_);and_intros;all_goals first|(refine hK _ ?_;clear hK K)|try exact aa)
 refine gI 1 2 n g v ?_ ?_ ?_ ?_ (by decide) (by omega) ?_ ?_
 ·simp (maxSteps:=999999)(disch:=omega) only [go_sem]
 ·(first|(simp (maxSteps:=999999)(disch:=omega) only [go_sem];done)|(simp (maxSteps:=999999)(disch:=omega) only [go_sem];rfl))
 ·(first|(simp (maxSteps:=999999)(disch:=omega) only [go_sem];done)|(simp (maxSteps:=999999)(disch:=omega) only [go_sem];omega))
 ·(first|(simp (maxSteps:=999999)(disch:=omega) only [go_sem];done)|(simp (maxSteps:=999999)(disch:=omega) only [go_sem];omega))
 ·intro iw hiw
  have hiw:17≤iw:=hiw
  simp only [gE,dr,dt,du,gD,jN,ee,dS,dW,dV,gB,jJ,jW,jX]
  repeat (refine Eq.trans (if_neg ?_) ?_;(focus omega))
  exact hw iw (by omega)
 simp (maxSteps:=999999)(disch:=omega) only [go_sem]
 refine hK _ ?_
 clear hK
 repeat' (first|refine aj gg ?_|refine ak ?_|(refine ai (fun K hK => ?_);and_intros;all_goals first|(refine hK _ ?_;clear hK K)|try exact aa))
 refine jU 20 14 15 13 1 19 (n+1) (fU n g v) 2 ms m v.out v ?_ ?_ ?_ ?_ ?_ ?_ ?_ (by decide) (by decide) (by decide) (by decide) (by decide) (by decide) (by decide) (by decide) (by decide) (by decide) (by decide) (by decide) (by decide) (by decide) (by decide) (by omega) hm hp hms hmm ?_ ?_
 ·(first|(simp (maxSteps:=999999)(disch:=omega) only [go_sem];done)|(simp (maxSteps:=999999)(disch:=omega) only [go_sem];rfl))
 ·(first|(simp (maxSteps:=999999)(disch:=omega) only [go_sem];done)|(simp (maxSteps:=999999)(disch:=omega) only [go_sem];rfl))
 ·(first|(simp (maxSteps:=999999)(disch:=omega) only [go_sem];done)|(simp (maxSteps:=999999)(disch:=omega) only [go_sem];rfl))
 ·(first|(simp (maxSteps:=999999)(disch:=omega) only [go_sem];done)|(simp (maxSteps:=999999)(disch:=omega) only [go_sem];rfl))
 ·(first|(simp (maxSteps:=999999)(disch:=omega) only [go_sem];done)|(simp (maxSteps:=999999)(disch:=omega) only [go_sem];rfl))
 ·(first|(simp (maxSteps:=999999)(disch:=omega) only [go_sem];done)|(simp (maxSteps:=999999)(disch:=omega) only [go_sem];rfl))
 ·refine ⟨?_, ?_, ?_, ?_, ?_, ?_⟩ <;> (first|(simp (maxSteps:=999999)(disch:=omega) only [go_sem];done)|(simp (maxSteps:=999999)(disch:=omega) only [go_sem];omega))
 ·intro iw hiw
  have hiw:21≤iw:=hiw
  simp only [gE,dr,dt,du,gD,jN,ee,dS,dW,dV,gB,jJ,jW,jX]
  repeat (refine Eq.trans (if_neg ?_) ?_;(focus omega))
  exact hw iw (by omega)
 simp (maxSteps:=999999)(disch:=omega) only [go_sem]
 refine hK _ ?_
 clear hK
 repeat' (refine ai (fun K hK => ?_);and_intros;all_goals first|(refine hK _ ?_;clear hK K)|try exact aa)
 refine jU 20 14 15 13 1 24 (n+2) (fU (n+1) (fU n g v) ⟨v.op,2,v.out,aG,ms,aX v.out ms m⟩) 3 o.opacity m (aX v.out ms m) v ?_ ?_ ?_ ?_ ?_ ?_ ?_ (by decide) (by decide) (by decide) (by decide) (by decide) (by decide) (by decide) (by decide) (by decide) (by decide) (by decide) (by decide) (by decide) (by decide) (by decide) (by omega) hm hp2 ho hom ?_ ?_
 ·(first|(simp (maxSteps:=999999)(disch:=omega) only [go_sem];done)|(simp (maxSteps:=999999)(disch:=omega) only [go_sem];rfl))
 ·(first|(simp (maxSteps:=999999)(disch:=omega) only [go_sem];done)|(simp (maxSteps:=999999)(disch:=omega) only [go_sem];rfl))
 ·(first|(simp (maxSteps:=999999)(disch:=omega) only [go_sem];done)|(simp (maxSteps:=999999)(disch:=omega) only [go_sem];rfl))
 ·(first|(simp (maxSteps:=999999)(disch:=omega) only [go_sem];done)|(simp (maxSteps:=999999)(disch:=omega) only [go_sem];rfl))
 ·(first|(simp (maxSteps:=999999)(disch:=omega) only [go_sem];done)|(simp (maxSteps:=999999)(disch:=omega) only [go_sem];rfl))
 ·(first|(simp (maxSteps:=999999)(disch:=omega) only [go_sem];done)|(simp (maxSteps:=999999)(disch:=omega) only [go_sem];rfl))
 ·refine ⟨?_, ?_, ?_, ?_, ?_, ?_⟩ <;> (first|(simp (maxSteps:=999999)(disch:=omega) only [go_sem];done)|(simp (maxSteps:=999999)(disch:=omega) only [go_sem];omega))
 ·intro iw hiw
  have hiw:25≤iw:=hiw
  simp only [gE,dr,dt,du,gD,jN,ee,dS,dW,dV,gB,jJ,jW,jX]
  repeat (refine Eq.trans (if_neg ?_) ?_;(focus omega))
  exact hw iw (by omega)
 simp (maxSteps:=999999)(disch:=omega) only [go_sem]
 refine hK _ ?_
 clear hK
 repeat' (first|(refine ai (fun K hK => ?_);and_intros;all_goals first|(refine hK _ ?_;clear hK K)|try exact aa)|(refine an ?_;(try clear hB KB);(try clear hK K)))
 refine ⟨rfl,iD (bx:=aA 1 (.fix [.own 2 n]) (aA 2 (.arr 120 18 n g) bx)) (nx:=12) ?_ ?_ ?_ (fun i hi h1 h2 h3 => ?_)⟩
 ·rw [← e];exact hw
 ·simp (maxSteps:=999999)(disch:=omega) only [go_sem]
 ·(first|(simp (maxSteps:=999999)(disch:=omega) only [go_sem];done)|(simp (maxSteps:=999999)(disch:=omega) only [go_sem];rfl))
 ·simp only [gE,dr,dt,du,gD,jN,ee,dS,dW,dV,gB,jJ,jW,jX]
  repeat (refine Eq.trans (if_neg ?_) ?_;(focus omega))
  (repeat (refine Eq.trans ?_ (if_neg ?_).symm;rotate_left;(focus omega)))
  rfl
end Go.Proofs.YtmfblbbemekkoaaGreatDoor
set_option maxRecDepth 8000
set_option maxHeartbeats 2000000
namespace Go.Proofs.YtmfblbbemekkoaaGreatDoor
open Go Go.SL
open Go.RowKit (wrap64)
theorem Hi {t:Script} (hf:bS t=0) (hk:iS t.bits t.images.length t.ops []) (ho:bZ t.ops []=[]):lU t=(0,0):=by
 rw [lU,if_pos hf]
 exact qL hk ho
theorem FG (n:N5) {m:Int} (h:0≤m):PixV (qF n m) m:=by
 have f1:=dk n.e m h
 have a1:=dk (n.d.tdiv 3) (bY n.e m) f1.1
 have key:∀ a,0≤a→a≤bY n.e m→PixV ⟨bY n.a a,bY n.b a,bY n.c a,a,bY n.e m⟩ m:=fun a h1 h2=>by
  have c0:=dk n.a a h1
  have c1:=dk n.b a h1
  have c2:=dk n.c a h1
  exact ⟨c0.1,c1.1,c2.1,c0.2,c1.2,c2.2,h2,f1.2⟩
 unfold qF
 dsimp only
 split
 ·exact key _ a1.1 a1.2
 ·exact key _ f1.1 (Int.le_refl _)
theorem yQ (r:Row) (i:Nat) {m:Int} (h:0≤m):PixV (jr r m i) m:=by
 have hb:∀ i,PixV (jj r m i) m:=fun i=>by unfold jj;exact FG _ h
 unfold jr
 split
 ·exact ⟨Int.le_refl _,Int.le_refl _,Int.le_refl _,Int.le_refl _,Int.le_refl _,Int.le_refl _,Int.le_refl _,h⟩
 split
 ·obtain ⟨a,b,c,d,e,f,g,k⟩:=hb i
  exact ⟨a,b,c,by dsimp only;omega,by dsimp only;omega,by dsimp only;omega,Int.le_refl _,Int.le_refl _⟩
 split
 ·exact hb 0
 ·exact hb i
theorem uK {w h:Int} {p:Pixel} (hf:bU w h=true):aW (iN w h p)=true:=by
 unfold aW
 rw [show (iN w h p).w=w from rfl,show (iN w h p).h=h from rfl,hf]
 rfl
theorem qi {w h m:Int} {p:Pixel} (hf:bU w h=true) (hp:PixV p m):ImgV (iN w h p) m:=⟨uK hf,fun x y _ _ _ _=>hp⟩
theorem ta {w h:Int} {l:List Pixel} (hf:bU w h=true) (hl:(l.length:Int)=w * h):aW (cY w h l)=true:=by
 obtain ⟨b1,b2,b3,b4,b5,b6⟩:=cS hf
 have e:(h - 1) * w+w=w * h:=by rw [Int.sub_mul,Int.one_mul,Int.mul_comm h w];omega
 have hk:∀ k,aB (cY w h l) (bE w h l k)=true:=fun k=>by
  unfold aB cq
  rw [show (cY w h l).solid=false from rfl,if_neg (by decide)]
  have:(bE w h l k).s.length=l.length:=by simp [bE]
  rw [this]
  show (bU w h && decide (w≤w) && decide (w≤16777216) && decide ((h - 1) * w+w≤(l.length:Int)) && decide (w=w) && decide (h=h))=true
  rw [hf,e,hl]
  simp
  omega
 unfold aW
 rw [show (cY w h l).w=w from rfl,show (cY w h l).h=h from rfl,hf]
 show (true && (aB _ (bE w h l 0) && aB _ (bE w h l 1) && aB _ (bE w h l 2) && aB _ (bE w h l 3) && aB _ (bE w h l 4) && (false || decide (aG=aG))))=true
 rw [hk,hk,hk,hk,hk]
 simp
theorem Ej {w h:Int} {l:List Pixel} {x y:Int} (hl:(l.length:Int)=w * h) (hx:0≤x) (hxw:x<w) (hy:0≤y) (hyh:y<h):(y * w+x).toNat<l.length∧eG (cY w h l) x y=l.getD (y * w+x).toNat default:=by
 have e1:0≤y * w:=aq hy (by omega)
 have e2:y * w≤(h - 1) * w:=aw (by omega) (Int.le_refl _) (by omega) (by omega)
 have e:(h - 1) * w+w=w * h:=by rw [Int.sub_mul,Int.one_mul,Int.mul_comm h w];omega
 have hi:(y * w+x).toNat<l.length:=by omega
 refine ⟨hi, ?_⟩
 unfold eG
 rw [if_neg (by show ¬ false=true;decide)]
 have key:∀ k,(bE w h l k).s.getD (y * w+x).toNat 0=BK k (l.getD (y * w+x).toNat default):=fun k=>by
  simp only [bE,List.getD_eq_getElem?_getD,List.getElem?_map,List.getElem?_eq_getElem hi,Option.map_some,Option.getD_some]
 show (⟨(bE w h l 0).s.getD (y * w+x).toNat 0,(bE w h l 1).s.getD (y * w+x).toNat 0,(bE w h l 2).s.getD (y * w+x).toNat 0,(bE w h l 3).s.getD (y * w+x).toNat 0,(bE w h l 4).s.getD (y * w+x).toNat 0⟩:Pixel)=_
 rw [key,key,key,key,key]
 rfl
theorem zQ {w h m:Int} {l:List Pixel} (hf:bU w h=true) (hl:(l.length:Int)=w * h) (hp:∀ p ∈ l,PixV p m):ImgV (cY w h l) m:=by
 refine ⟨ta hf hl,fun x y h1 h2 h3 h4 => ?_⟩
 obtain ⟨hi,e⟩:=Ej hl h1 h2 h3 h4
 rw [e,List.getD_eq_getElem?_getD,List.getElem?_eq_getElem hi]
 exact hp _ (List.getElem_mem _)
theorem Lb {p:Pic} {c:Rect} {m:Int} (hc:Small c) (hm:0≤m):ImgV (il p c m) m:=by
 have hl:=Et (p:=p) hc
 have hlen:(aL p.row (gW p c * gH p c).toNat m).length=(gW p c * gH p c).toNat:=by simp [aL]
 have hok:=ob (w:=gW p c) (h:=gH p c) ⟨hl.1,hl.2.1⟩ ⟨hl.2.2.1,hl.2.2.2.1⟩ hlen
 have hf:bU (gW p c) (gH p c)=true:=by
  unfold dO at hok
  rw [Bool.and_eq_true] at hok;exact hok.1
 unfold il
 split
 ·exact qi hf (yQ _ _ hm)
 ·refine zQ hf (by rw [hlen];omega) fun q hq => ?_
  unfold aL at hq
  obtain ⟨i,_,rfl⟩:=List.mem_map.1 hq
  exact yQ _ _ hm
structure Of (c:Scene) (s:Script):Prop where
 b:s.bits=(ax c).bits
 cv:s.canvas=ar c
 w:s.tileW=cc c
 h:s.tileH=cd c
 o:s.order=(ax c).order
 n1:1≤s.images.length
 n2:s.images.length≤6
 im:oE s
 V:VOps s
 op:∀ o ∈ s.ops,0≤o.opacity
theorem Of.mx {c:Scene} {s:Script} (h:Of c s):bz s.bits=ck c.bits:=by rw [h.b];exact uW c
theorem Mp (c:Scene):Full (ck c.bits):=⟨by have:=jY c.bits;omega⟩
theorem Of.pt {c:Scene} {s:Script} (h:Of c s) {x y:Int} (hx:MM (ar c) x y):Pt s (ck c.bits) x y :=
 ⟨h.V,Mp c,h.mx,h.im,h.op,by rw [h.cv];exact kI (cm c),by rw [h.cv];exact hx⟩
theorem MJ (c:Scene):oE (ax c):=by
 intro i h0 h1
 rw [uW]
 have hm:0≤ck c.bits:=by have:=jY c.bits;omega
 have hmem:fS (ax c) i ∈ aQ c:=by
  have hi:i.toNat<(aQ c).length:=by
   have h1:i<((aQ c).length:Int):=h1
   omega
  show (aQ c).getD i.toNat default ∈ aQ c
  rw [List.getD_eq_getElem?_getD,List.getElem?_eq_getElem hi]
  exact List.getElem_mem _
 generalize fS (ax c) i=q at hmem
 have hs:=cm c
 unfold aQ at hmem
 split at hmem
 ·rw [List.mem_singleton.1 hmem]
  refine qi ?_ ⟨hm,Int.le_refl _,Int.le_refl _,Int.le_refl _,hm,hm,Int.le_refl _,Int.le_refl _⟩
  have:=ob (w:=1+c.w % 5) (h:=1+c.h % 4) (n:=((1+c.w % 5) * (1+c.h % 4)).toNat) (by omega) (by omega) rfl
  unfold dO at this
  rw [Bool.and_eq_true] at this;exact this.1
 ·unfold bp at hmem
  obtain ⟨p,_,rfl⟩:=List.mem_map.1 hmem
  exact Lb hs hm
theorem Dv {c:Scene} {s:Script} (b:s.bits=(ax c).bits) (c':s.canvas=ar c) (w:s.tileW=cc c) (h:s.tileH=cd c) (o:s.order=(ax c).order) (n2:s.images.length≤64) (n3:s.ops.length≤4096):bS s=0:=CB b c' w h o n2 n3
theorem PN (c:Scene):Of c (ax c):=by
 have hi:=me c
 have hg:=jH c
 refine ⟨rfl,rfl,rfl,rfl,rfl,hi.1,Nat.le_trans hi.2 (by decide),MJ c,Ao ?_,fun o ho=>(hg.tame o ho).op.1⟩
 rw [Hi (CB rfl rfl rfl rfl rfl (oP c) (Nat.le_trans (wu c) (by decide))) hg.ok hg.op]
end Go.Proofs.YtmfblbbemekkoaaGreatDoor
namespace Go.Proofs.YtmfblbbemekkoaaGreatDoor
def Fx (m:Image) (mx:Int):Prop:=ImgV m mx∨aW m=false∨m.solid=true
def dE (m:Image) (mx:Int):Int:=if bU m.w m.h=false then 6 else if aW m=false then 7 else if m.solid=true∧kP m.color mx=false then 8 else 0
theorem wT {m:Image} {mx:Int} (h:ImgV m mx):dE m mx=0:=by
 have hf:=h.f
 have hff:=hf
 unfold aW at hff
 rw [Bool.and_eq_true] at hff
 unfold dE
 rw [hff.1,hf,if_neg (by decide),if_neg (by decide),if_neg]
 rintro ⟨hs,hp⟩
 rw [lx (tz h hs)] at hp
 cases hp
theorem Cj {p:Pixel} {m:Int} (h:kP p m=true) (h0:0≤p.c0) (h1:0≤p.c1) (h2:0≤p.c2):PixV p m:=by
 unfold kP at h
 rw [decide_eq_true_eq] at h
 exact ⟨h0,h1,h2,h.1,h.2.1,h.2.2.1,h.2.2.2.1,h.2.2.2.2⟩
def EB (m:Image):Prop:=0≤m.color.c0∧0≤m.color.c1∧0≤m.color.c2
theorem xF {m:Image} {mx:Int} (h:Fx m mx) (hc:EB m) (h0:dE m mx=0):ImgV m mx:=by
 unfold dE at h0
 split at h0
 ·cases h0
 split at h0
 ·cases h0
 split at h0
 ·cases h0
 rename_i q1 q2 q3
 rcases h with h|h|h
 ·exact h
 ·exact absurd h q2
 ·refine ⟨by simpa using q2,fun x y _ _ _ _ => ?_⟩
  rw [eG,if_pos h]
  refine Cj ?_ hc.1 hc.2.1 hc.2.2
  cases hp:kP m.color mx with
  | true=>rfl
  | false=>exact absurd ⟨h,hp⟩ q3
def ec (mx:Int):Nat→List Image→Int × Int
 | _,[]=>(0,0)
 | i,m :: l=>if dE m mx=0 then ec mx (i+1) l else (dE m mx,i)
def gi (s:Script):Int × Int:=if bS s≠0 then (bS s,0) else if (ec (bz s.bits) 0 s.images).1≠0 then ec (bz s.bits) 0 s.images else lU s
theorem oG {mx:Int}:∀ {l:List Image} {i:Nat},(∀ m ∈ l,dE m mx=0)→ec mx i l=(0,0)
 | [],_,_=>rfl
 | m :: l,i,h=>by rw [ec,if_pos (h m (List.mem_cons_self ..)),oG fun k hk=>h k (List.mem_cons_of_mem _ hk)]
theorem oD {mx:Int}:∀ {l:List Image} {i:Nat},(ec mx i l).1=0→∀ m ∈ l,dE m mx=0
 | [],_,_,_,hk=>by cases hk
 | m :: l,i,h,k,hk=>by
  rw [ec] at h
  split at h
  ·rename_i q
   rcases List.mem_cons.1 hk with e|e
   ·rw [e];exact q
   ·exact oD h k e
  ·rename_i q;exact absurd h q
theorem xQ {mx:Int} {l:List Image} {i:Nat} (hi:i<l.length):ec mx i (l.drop i)=if dE (l.getD i default) mx=0 then ec mx (i+1) (l.drop (i+1)) else (dE (l.getD i default) mx,i):=by
 rw [List.drop_eq_getElem_cons hi,ec,List.getD_eq_getElem?_getD,List.getElem?_eq_getElem hi];rfl
theorem GT {s:Script} (h:∀ i:Nat,i<s.images.length→ImgV (s.images.getD i default) (bz s.bits)):oE s:=fun i h0 h1=>by
 obtain ⟨n,rfl⟩:=Int.eq_ofNat_of_zero_le h0
 unfold fS
 rw [Int.toNat_natCast]
 exact h n (by omega)
theorem xR {s:Script} (hT:∀ m ∈ s.images,Fx m (bz s.bits)∧EB m) (h:(gi s).1=0):bS s=0∧VOps s∧oE s∧lU s=(0,0):=by
 unfold gi at h
 split at h
 ·rename_i q;exact absurd h q
 split at h
 ·rename_i q;exact absurd h q
 rename_i q1 q2
 rw [Decidable.not_not] at q1 q2
 have V:=Ao h
 refine ⟨q1,V,GT fun i hi => ?_,Jl V⟩
 have hm:s.images.getD i default ∈ s.images:=by
  rw [List.getD_eq_getElem?_getD,List.getElem?_eq_getElem hi]
  exact List.getElem_mem _
 exact xF (hT _ hm).1 (hT _ hm).2 (oD q2 _ hm)
theorem AB {s:Script} (V:VOps s) (h:oE s):gi s=(0,0):=by
 have e:ec (bz s.bits) 0 s.images=(0,0):=oG fun m hm=>by
  obtain ⟨i,hi,rfl⟩:=List.mem_iff_getElem.1 hm
  have:=h i (by omega) (by omega)
  unfold fS at this
  rw [Int.toNat_natCast,List.getD_eq_getElem?_getD,List.getElem?_eq_getElem hi] at this
  exact wT this
 unfold gi
 rw [V.frame,if_neg (by decide),e,if_neg (by decide)]
 exact Jl V
end Go.Proofs.YtmfblbbemekkoaaGreatDoor
set_option maxHeartbeats 4000000
set_option maxRecDepth 16000
namespace Go.Proofs.YtmfblbbemekkoaaGreatDoor
open Go Go.SL Go.RowKit Go.Shelf
open Go.RowKit (wrap64)
attribute [local go_sem] Oper.semAt_some
theorem KF {g n:Nat} {sz sz':Nat→Nat} {f f':Nat→Nat→PV} (h:∀ i,i<n→sz i=sz' i∧∀ j,j<sz i→PV.le (f i j) (f' i j)):PV.le (.fn g n sz f) (.fn g n sz' f'):=fun _ _ u ⟨vs,e,hs,hb⟩=>by
 refine ⟨vs,e,hs,fun i hi => ?_⟩
 obtain ⟨b,o,h1,h2,h3⟩:=hb i hi
 obtain ⟨q1,q2⟩:=h i hi
 refine ⟨b,o,h1,h2,fun j hj => ?_⟩
 rw [← q1] at hj
 obtain ⟨x,x1,x2,x3⟩:=h3 j hj
 exact ⟨x,x1,x2,q2 j hj _ _ _ x3⟩
def JK (w h:Int):PV := .fn 184 2 (fun _=>1) (fun i _=>if i=0 then PI h else PI w)
theorem zh (w h:Int):aD Sg 162 [I w,I h] (fun x=>x = .b (.c (.p (JK w h)))):=by
 refine lv ?_
 refine xJ Tryz.func162 rfl (rs:=[.tmp 4]) rfl rfl dZ (by decide +kernel) (Nat.le_of_ble_eq_true rfl) (bL (by simp (maxSteps:=999999)(disch:=omega) only [go_sem])) ?_
 repeat' (first|(refine ai (fun K hK => ?_);and_intros;all_goals first|(refine hK _ ?_;clear hK K)|try exact aa)|(refine an ?_;(try clear hB KB);(try clear hK K)))
 simp only [Option.isSome_some,if_true,CV.lt,true_and]
 refine Ai (oW (KF fun i hi => ?_))
 have h0:i=0∨i=1:=by omega
 rcases h0 with rfl|rfl
 ·refine ⟨rfl,fun j hj => ?_⟩
  have h0:j=0:=by have:j<1:=hj;omega
  subst h0
  exact fun _ _ _ h=>h
 ·refine ⟨rfl,fun j hj => ?_⟩
  have h0:j=0:=by have:j<1:=hj;omega
  subst h0
  exact fun _ _ _ h=>h
theorem vM (m:Image) (mx:Int) (hs:m.solid=true) (hf:aW m=true):aD Sg 122 [ag (aY m),U mx] (fun r=>r = .b (I (dE m mx))):=by
 have h1:=mz m
 have h2:=gG m.color mx
 have hfit:bU m.w m.h=true:=by
  have:=hf
  unfold aW at this
  rw [Bool.and_eq_true] at this
  exact this.1
 unfold dE
 rw [hfit,hf,if_neg (by decide),if_neg (by decide)] at h1
 rw [hfit,hf,if_neg (by decide),if_neg (by decide)]
 cases hp:kP m.color mx
 ·rw [if_pos ⟨hs,rfl⟩]
  rw [hp] at h2
  refine aC Tryz.func122 [.cell 4 58] ?_
  repeat' (first|with_reducible exact cn|refine aj hs ?_|refine ak ?_|((first|refine ai (fun K hK => ?_)|refine ae (h1) ?_|refine ae (h2) ?_);and_intros;all_goals first|(refine hK _ ?_;clear hK K)|try exact aa)|(refine an ?_;(try clear hB KB);(try clear hK K)))
 ·rw [if_neg (by rintro ⟨_,q⟩;cases q)]
  rw [hp] at h2
  refine aC Tryz.func122 [.cell 4 58] ?_
  repeat' (first|with_reducible exact cn|refine aj hs ?_|refine ak ?_|((first|refine ai (fun K hK => ?_)|refine ae (h1) ?_|refine ae (h2) ?_);and_intros;all_goals first|(refine hK _ ?_;clear hK K)|try exact aa)|(refine an ?_;(try clear hB KB);(try clear hK K)))
theorem yF (m:Image) (mx:Int) (hf:aW m=false):aD Sg 122 [ag (aY m),U mx] (fun r=>r = .b (I (dE m mx))):=by
 have h1:=mz m
 unfold dE
 cases hfit:bU m.w m.h
 ·rw [hfit,if_pos rfl] at h1
  rw [if_pos rfl]
  have ht:True:=trivial
  refine aC Tryz.func122 [.cell 4 58] ?_
  repeat' (first|with_reducible exact cn|refine aj ht ?_|refine ak ?_|((first|refine ai (fun K hK => ?_)|refine ae (h1) ?_);and_intros;all_goals first|(refine hK _ ?_;clear hK K)|try exact aa)|(refine an ?_;(try clear hB KB);(try clear hK K)))
 ·rw [hfit,hf,if_neg (by decide),if_pos rfl] at h1
  rw [hf,if_neg (by decide),if_pos rfl]
  have ht:True:=trivial
  refine aC Tryz.func122 [.cell 4 58] ?_
  repeat' (first|with_reducible exact cn|refine aj ht ?_|refine ak ?_|((first|refine ai (fun K hK => ?_)|refine ae (h1) ?_);and_intros;all_goals first|(refine hK _ ?_;clear hK K)|try exact aa)|(refine an ?_;(try clear hB KB);(try clear hK K)))
theorem NL (t:Array Value) (h:t.size=34):∃ t0 t1 t2 t3 t4 t5 t6 t7 t8 t9 t10 t11 t12 t13 t14 t15 t16 t17 t18 t19 t20 t21 t22 t23 t24 t25 t26 t27 t28 t29 t30 t31 t32 t33,t = #[t0,t1,t2,t3,t4,t5,t6,t7,t8,t9,t10,t11,t12,t13,t14,t15,t16,t17,t18,t19,t20,t21,t22,t23,t24,t25,t26,t27,t28,t29,t30,t31,t32,t33]:=by
 obtain ⟨l⟩:=t
 have step:∀ {n:Nat} {l:List Value},l.length=n+1→∃ a r,l=a :: r∧r.length=n:=fun {n l} h=>by
  cases l with
  | nil=>cases h
  | cons a r=>exact ⟨a,r,rfl,by simpa using h⟩
 have h:l.length=34:=h
 obtain ⟨t0,r1,rfl,h1⟩:=step h
 obtain ⟨t1,r2,rfl,h2⟩:=step h1
 obtain ⟨t2,r3,rfl,h3⟩:=step h2
 obtain ⟨t3,r4,rfl,h4⟩:=step h3
 obtain ⟨t4,r5,rfl,h5⟩:=step h4
 obtain ⟨t5,r6,rfl,h6⟩:=step h5
 obtain ⟨t6,r7,rfl,h7⟩:=step h6
 obtain ⟨t7,r8,rfl,h8⟩:=step h7
 obtain ⟨t8,r9,rfl,h9⟩:=step h8
 obtain ⟨t9,r10,rfl,h10⟩:=step h9
 obtain ⟨t10,r11,rfl,h11⟩:=step h10
 obtain ⟨t11,r12,rfl,h12⟩:=step h11
 obtain ⟨t12,r13,rfl,h13⟩:=step h12
 obtain ⟨t13,r14,rfl,h14⟩:=step h13
 obtain ⟨t14,r15,rfl,h15⟩:=step h14
 obtain ⟨t15,r16,rfl,h16⟩:=step h15
 obtain ⟨t16,r17,rfl,h17⟩:=step h16
 obtain ⟨t17,r18,rfl,h18⟩:=step h17
 obtain ⟨t18,r19,rfl,h19⟩:=step h18
 obtain ⟨t19,r20,rfl,h20⟩:=step h19
 obtain ⟨t20,r21,rfl,h21⟩:=step h20
 obtain ⟨t21,r22,rfl,h22⟩:=step h21
 obtain ⟨t22,r23,rfl,h23⟩:=step h22
 obtain ⟨t23,r24,rfl,h24⟩:=step h23
 obtain ⟨t24,r25,rfl,h25⟩:=step h24
 obtain ⟨t25,r26,rfl,h26⟩:=step h25
 obtain ⟨t26,r27,rfl,h27⟩:=step h26
 obtain ⟨t27,r28,rfl,h28⟩:=step h27
 obtain ⟨t28,r29,rfl,h29⟩:=step h28
 obtain ⟨t29,r30,rfl,h30⟩:=step h29
 obtain ⟨t30,r31,rfl,h31⟩:=step h30
 obtain ⟨t31,r32,rfl,h32⟩:=step h31
 obtain ⟨t32,r33,rfl,h33⟩:=step h32
 obtain ⟨t33,r34,rfl,h34⟩:=step h33
 have hr34:r34=[]:=List.eq_nil_of_length_eq_zero h34
 subst hr34
 exact ⟨_,_,_,_,_,_,_,_,_,_,_,_,_,_,_,_,_,_,_,_,_,_,_,_,_,_,_,_,_,_,_,_,_,_,rfl⟩
theorem wB {bx:Nat→Option Bx} {b:Nat} {l:List PV} (hb:bx b=some (.fix (l.map CV.p))):dg bx (.c (.ptr b 0)) = .c (.ipt l.length (fun j=>l.getD j .any) 0):=by
 have hf:(fun j=>(dH bx ((l.map CV.p).getD (0+j) .any)).toP)=fun j=>l.getD j .any:=by
  funext j
  rw [Nat.zero_add,List.getD_eq_getElem?_getD,List.getD_eq_getElem?_getD,List.getElem?_map]
  cases l[j]? with
  | none=>rfl
  | some x=>rfl
 simp only [dg,ir,hb]
 rw [if_pos (Nat.zero_le _),List.length_map,Nat.sub_zero]
 exact congrArg (fun g=>BV.c (.ipt l.length g 0)) hf
theorem yU (m:Image) (mx:Int) (hm:Full mx) (hs:m.solid=false) (h:ImgV m mx):aD Sg 122 [ag (aY m),U mx] (fun r=>r = .b (I 0)):=by
 have h1:=mz m
 have hpl:=zh m.w m.h
 have hf:=h.f
 have hfit:bU m.w m.h=true:=by
  have:=hf
  unfold aW at this
  rw [Bool.and_eq_true] at this
  exact this.1
 obtain ⟨b1,b2,_,_,b3,b4⟩:=cS hfit
 obtain ⟨W,hW⟩:∃ W:Nat,m.w=W:=⟨m.w.toNat,by omega⟩
 obtain ⟨H,hH⟩:∃ H:Nat,m.h=H:=⟨m.h.toNat,by omega⟩
 rw [hfit,hf,if_neg (by decide),if_neg (by decide)] at h1
 refine ⟨⟨_,Tryz.func122,rfl,rfl⟩,fun ok w vs hok hgl hsz hden => ?_⟩
 have g0:=Bp (S:=Sg) (N:=34) hok hgl hsz hden (show 2≤34 by decide) (bL (by simp (maxSteps:=999999)(disch:=omega) only [go_sem]))
 refine callsIn_wide.1 (callsIn_of_wp_marks (F:=Fence.wide) (n:=5) Tryz.func122 rfl trivial (wpIn_wide.2 ?_))
 refine pJ dZ (aZ [(2, .b (.c (.ptr 0 0))),(3, .b (.c (.ptr 1 0))),(4, .b (.c (.ptr 2 0)))] [(0, .fix ((aY m).map CV.p)),(1, .fix ([PU mx].map CV.p)),(2, .fix ([PI 0].map CV.p))] 3) ?_ (show cf 34 _=true by decide +kernel) g0 (fun ρ1 a1 w1 g1 => ?_)
 ·repeat' (refine ai (fun K hK => ?_);and_intros;all_goals first|(refine hK _ ?_;clear hK K)|try exact aa)
  refine ⟨_, ?_,rfl⟩
  refine ay [(1,some 1),(2,some 2)] ?_ ?_
  and_intros
  all_goals first|exact ao|skip
 refine pJ dZ (aZ [(2, .b (.c (.ptr 0 0))),(3, .b (.c (.ptr 1 0))),(4, .b (.c (.ptr 2 0)))] [(0, .fix ((aY m).map CV.p)),(1, .fix ([PU mx].map CV.p)),(2, .fix ([PI 0].map CV.p))] 3) ?_ (show cf 34 _=true by decide +kernel) g1 (fun ρ2 a2 w2 g2 => ?_)
 ·have ht:True:=trivial
  repeat' (first|refine aj ht ?_|refine ak ?_|((first|refine ai (fun K hK => ?_)|refine ae (h1) ?_);and_intros;all_goals first|(refine hK _ ?_;clear hK K)|try exact aa))
  refine ⟨_, ?_,rfl⟩
  refine ay [(1,some 1),(2,some 2)] ?_ ?_
  and_intros
  all_goals first|exact ao|skip
 refine pJ dZ (aZ [(2, .b (.c (.ptr 0 0))),(3, .b (.c (.ptr 1 0))),(4, .b (.c (.ptr 2 0)))] [(0, .fix ((aY m).map CV.p)),(1, .fix ([PU mx].map CV.p)),(2, .fix ([PI 0].map CV.p))] 3) ?_ (show cf 34 _=true by decide +kernel) g2 (fun ρ3 a3 w3 g3 => ?_)
 ·repeat' (first|refine aj hs ?_|refine ak ?_|(refine ai (fun K hK => ?_);and_intros;all_goals first|(refine hK _ ?_;clear hK K)|try exact aa))
  refine ⟨_, ?_,rfl⟩
  refine ay [(1,some 1),(2,some 2)] ?_ ?_
  and_intros
  all_goals first|exact ao|skip
 refine wp_seq ?_
 refine pJ dZ (aZ [(2, .b (.c (.ptr 0 0))),(3, .b (.c (.ptr 1 0))),(4, .b (.c (.ptr 2 0))),(24, .b (.c (.p (JK m.w m.h))))] [(0, .fix ((aY m).map CV.p)),(1, .fix ([PU mx].map CV.p)),(2, .fix ([PI 0].map CV.p))] 3) ?_ (show cf 34 _=true by decide +kernel) g3 (fun ρ a w1 g => ?_)
 ·repeat' ((first|refine ai (fun K hK => ?_)|refine ae (hpl) ?_);and_intros;all_goals first|(refine hK _ ?_;clear hK K)|try exact aa)
  refine ⟨_, ?_,rfl⟩
  refine ay [(1,some 1),(2,some 2)] ?_ ?_
  and_intros
  all_goals first|exact ao|skip
 refine wp_block ?_
 clear g0 g1 g2 g3
 have d24:aV (bj { w0:=w,ok0:=ok,rx:=none,N:=34 } _ ρ w1) w1 (JK m.w m.h) (a.tmps.getD 24 undef):=g.slt 24
 obtain ⟨lb,hu,hlb,hcl⟩:=d24
 obtain ⟨Bh,oh,e1,k1,c1⟩:=hcl 0 (by decide)
 obtain ⟨Bw,ow,e2,k2,c2⟩:=hcl 1 (by decide)
 obtain ⟨xh,qh,_,dh⟩:=c1 0 (by decide)
 obtain ⟨xw,qw,_,dw⟩:=c2 0 (by decide)
 have dh:xh = .int .i64 m.h:=dh
 have dw:xw = .int .i64 m.w:=dw
 rw [dh,hH,Nat.add_zero] at qh
 rw [dw,hW,Nat.add_zero] at qw
 have hlb2:lb = #[.pointer (some ⟨Bh,oh,none⟩), .pointer (some ⟨Bw,ow,none⟩)]:=by
  rw [← e1,← e2]
  refine Array.ext hlb (fun i h1 h2 => ?_)
  have hi:i=0∨i=1:=by omega
  rcases hi with rfl|rfl
  ·simp [Array.getD,h1]
  ·simp [Array.getD,h1]
 have f0:=DL g (s:=2) (x := .c (.ptr 0 0)) rfl (wB (l:=aY m) rfl) trivial
 have f1:=DL g (s:=3) (x := .c (.ptr 1 0)) rfl (wB (l:=[PU mx]) rfl) trivial
 have f4:∃ b o,ρ 2 = .pointer (some ⟨b,o,none⟩)∧a.tmps.getD 4 undef = .pointer (some ⟨b,o+0,none⟩):=g.slt 4
 obtain ⟨b,o,r2,f4⟩:=f4
 have q2:hP ρ (bj { w0:=w,ok0:=ok,rx:=none,N:=34 } _ ρ w1) w1 (.fix ([PI 0].map CV.p)) (ρ 2):=g.bxs 2 _ rfl
 obtain ⟨b',o',cells,ty,hv,hh,hsz2,hone,hdd⟩:=q2
 rw [r2] at hv
 obtain ⟨rfl,rfl⟩:b=b'∧o=o':=by simpa using hv
 have hbn:w.heap.size≤b:=by
  have:=(g.new 2 _ b rfl (by rw [r2];rfl)).2
  rcases this with q|⟨_,_,_,_,q⟩
  ·exact q
  ·cases q
 have hgl1:=Od g
 have hB1:Below w.heap.size w w1:=⟨g.frm.os,g.frm.tape,g.frm.output,g.frm.size,fun k hk=>g.frm.block k hk fun _ _ q=>by cases q⟩
 obtain ⟨t0,t1,t2,t3,t4,t5,t6,t7,t8,t9,t10,t11,t12,t13,t14,t15,t16,t17,t18,t19,t20,t21,t22,t23,t24,t25,t26,t27,t28,t29,t30,t31,t32,t33,ha⟩:=NL a.tmps g.sz
 obtain ⟨tm,df⟩:=a
 have hdf:df=[]:=g.dfr
 dsimp only at ha hu f0 f1 f4
 subst hdf
 clear g
 subst ha
 have hu:t24=_:=hu
 have f4:t4 = .pointer (some ⟨b,o,none⟩):=f4
 subst hu f4 hlb2
 refine yc dZ (gf:=184) (N:=34) rfl (enters_of Tryz.func184 (by kernel_rfl) rfl) (vC 3 (by omega) Bh oh Bw ow w1.heap.size W H (by omega) (by omega) w1 (Nat.le_refl _) k1.1 k2.1 qh qw) (fun _=>rfl)
  (fun x => { tmps := #[t0,t1,t2,t3, .pointer (some ⟨b,o,none⟩),t5, .int .i64 x.1.1, .int .i64 x.1.2,t8,t9,t10,t11,t12,t13,t14,t15,t16,t17,t18,t19,t20,t21,t22,t23, .func (.func 184) #[] #[.pointer (some ⟨Bh,oh,none⟩), .pointer (some ⟨Bw,ow,none⟩)], .int .i64 x.1.1, .int .i64 x.1.2,t27,t28,t29,t30,t31,t32,t33],defers:=[] })
  (fun x=>jB [(2, .b (.c (.ipt (aY m).length (fun j=>(aY m).getD j .any) 0))),(3, .b (.c (.ipt [PU mx].length (fun j=>[PU mx].getD j .any) 0))),(6, .b (I x.1.1)),(7, .b (I x.1.2))]) ?assign (fun x=>⟨rfl,rfl,fun s => ?lt,fun s => ?den⟩) hgl1 (by decide +kernel) (by decide +kernel) (fun x => ?cw) ?done
 case assign =>
  intro l x W0 K hK
  gi_wp2
  exact hK
 case lt =>
  simp only [jB]
  repeat' split
  all_goals trivial
 case den =>
  simp only [jB]
  split
  ·rename_i q;subst q;exact f0
  split
  ·rename_i q;subst q;exact f1
  split
  ·rename_i q;subst q;rfl
  split
  ·rename_i q;subst q;rfl
  trivial
 case cw =>
  obtain ⟨⟨px,py⟩,hx,hy⟩:=x
  have hp:=tH m px py hf (by omega) (by dsimp only at hx;omega) (by omega) (by dsimp only at hy;omega)
  have hv:=gG (eG m px py) mx
  rw [lx (h.p px py (by omega) (by dsimp only at hx;omega) (by omega) (by dsimp only at hy;omega))] at hv
  generalize eG m px py=q at *
  have ht:True:=trivial
  dsimp only
  repeat' (first|with_reducible exact cn|refine aj ht ?_|refine ak ?_|((first|refine ai (fun K hK => ?_)|refine ae (hp) ?_|refine ae (hv) ?_);and_intros;all_goals first|(refine hK _ ?_;clear hK K)|try exact aa))
 case done =>
  intro D W0 hD hB hK
  have hbw:b<w1.heap.size:=bq hh
  have hcell:W0.heap[b]?=some (.cells cells ty (0,0)):=(hB.block b hbw).trans hh
  have hco:∃ u,W0.cell? ⟨b,o,none⟩=some u∧W0.frozen? ⟨b,o,none⟩=false:=by
   have hsz3:o<cells.size:=by simp at hsz2;omega
   exact ⟨cells.getD o undef,bn hcell hsz3,by simp [World.frozen?,hcell]⟩
  obtain ⟨u0,hco,hfr⟩:=hco
  refine (wpIn_wide (n:=5)).1 ?_
  simp only [PD]
  gi_wp2
  have hK':=(KeepsOthers.setCell W0 ⟨b,o,none⟩ (.int .i64 0)).same D _ hK rfl
  refine ⟨by simp, .inl ⟨_,_,rfl,run_takeDeferred hK', ?_⟩⟩
  have hc5:=cell_kept (World.cell?_setCell_same' W0 ⟨b,o,none⟩ (.int .i64 0) (by rw [hco];rfl)) (grownBy_putObj' _ D (.deferred none)) (fun r e=>by cases e;exact ⟨_,hK',rfl⟩)
  refine ⟨.int .i64 0, ?_, ?_⟩
  ·simp [results,Tryz.f122,go_sem,hc5]
  ·have hDb:w.heap.size≤D:=Nat.le_trans hB1.size hD
   have hB2:Below w.heap.size w ((W0.setCell ⟨b,o,none⟩ (.int .i64 0)).putObj D (.deferred none)):=by
    have q1:Below w.heap.size w W0:=hB1.trans (hB.mono hB1.size)
    refine (q1.setCell (p:=⟨b,o,none⟩) hbn _).grown (grownBy_putObj' _ D (.deferred none)) ?_ (fun k e=>by cases e;exact hDb)
    have:=q1.size
    have:=(KeepsOthers.setCell W0 ⟨b,o,none⟩ (.int .i64 0)).size
    omega
   exact ⟨_,rfl,hB2,rfl⟩
end Go.Proofs.YtmfblbbemekkoaaGreatDoor
set_option maxRecDepth 8000
set_option maxHeartbeats 4000000
namespace Go.Proofs.YtmfblbbemekkoaaGreatDoor
open Go Go.SL
open Go.RowKit (wrap64)
theorem IF (c:Scene) {k:Nat} (hk:k<(ax c).images.length):((ax c).images.getD k default).w≤5∧((ax c).images.getD k default).h≤4:=by
 have hmem:(ax c).images.getD k default ∈ aQ c:=by
  rw [List.getD_eq_getElem?_getD,List.getElem?_eq_getElem hk]
  exact List.getElem_mem _
 generalize (ax c).images.getD k default=q at hmem
 have hs:=cm c
 unfold aQ at hmem
 split at hmem
 ·rw [List.mem_singleton.1 hmem]
  show 1+c.w % 5≤5∧1+c.h % 4≤4
  omega
 ·unfold bp at hmem
  obtain ⟨p,_,rfl⟩:=List.mem_map.1 hmem
  have:=Et (p:=p) hs
  unfold il
  split
  ·show gW p (ar c)≤5∧gH p (ar c)≤4;omega
  ·show gW p (ar c)≤5∧gH p (ar c)≤4;omega
theorem Em {c:Scene} {s:Script} (h:Of c s) {i:Nat} (hi:i<s.images.length):aW (s.images.getD i default)=true:=by
 have:=(h.im i (by omega) (by omega)).f
 unfold fS at this
 rw [Int.toNat_natCast] at this
 exact this
end Go.Proofs.YtmfblbbemekkoaaGreatDoor
