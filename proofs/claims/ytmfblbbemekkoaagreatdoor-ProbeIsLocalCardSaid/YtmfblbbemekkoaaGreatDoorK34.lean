/- Part of the proof: Z5. -/
import Derived.Test.YtmfblbbemekkoaaGreatDoorK33
set_option linter.unusedSimpArgs false
set_option linter.unusedVariables false
set_option maxHeartbeats 8000000
set_option maxRecDepth 16000
namespace Go.Proofs.YtmfblbbemekkoaaGreatDoor
open Go Go.SL
open Go.RowKit (wrap64)
attribute [local go_sem] dI uB cO Int.toNat_natCast cB cU qm
theorem jb {l:List (Nat × SV)} {b:List (Nat × Bx)} {nx:Nat} {kf:Nat→SV} (h:((b.map (·.1)).all fun i=>Nat.blt i nx)=true):dB 0 (tY l b nx kf):=⟨fun i hi=>by
 have hi:nx≤i:=hi
 show fu b i=none
 cases hx:fu b i with
 | none=>rfl
 | some x =>
  have:=List.all_eq_true.1 h i (List.mem_map.2 ⟨_,fR hx,rfl⟩)
  have:=Nat.le_of_ble_eq_true this
  omega,Nat.zero_le _⟩
theorem lW {st : St} {K : SV → St → Prop} (n : Nat) (L : List Mic) (hL : L.length = n) (o : Op) (v : Mic) (ms m : Int) (hnx : st.nx = 12) (hT : st.bx 1 = some (.fix [.own 2 n])) (hk : st.bx 2 = some (.arr 120 18 n (bd cB L))) (hn : n ≤ 90000) (hm : Full m) (hp : PixV v.out m) (hms : 0 ≤ ms) (hmm : ms ≤ m) (ho : 0 ≤ o.opacity) (hom : o.opacity ≤ m) (hw0 : ∀ i, st.nx ≤ i → st.bx i = none) (i : Nat) (hi : v.op = i)
  (hK0:o.mask=0→∀ G:Nat→Nat→PV,gV G ((L ++ [v]) ++ cN m i o v.out ms)→K (.b (ag (aH (az m o v.out ms)))) (st.turn (aA 1 (.fix [.own 24 (n+2)]) (aA 24 (.arr 120 18 (n+2) G) (dY 2 st.bx))) 25))
  (hK1:o.mask≠0→∀ G:Nat→Nat→PV,gV G ((L ++ [v]) ++ cN m i o v.out ms)→K (.b (ag (aH (az m o v.out ms)))) (st.turn (aA 1 (.fix [.own 28 (n+3)]) (aA 28 (.arr 120 18 (n+3) G) (dY 2 st.bx))) 29)) :
  dj Sg st 109 [ag (dJ o),ag (cB v),U ms,U m, .c (.clo 66 [(1,0)])] (Sl.of K):=by
 have hw:∀ i,12≤i→st.bx i=none:=fun i h=>hw0 i (by omega)
 have hv1:(L ++ [v]).length=n+1:=by rw [List.length_append,hL];rfl
 by_cases h:o.mask=0
 ·have hI:=sO st.bx n (bd cB L) o v ms m hT hk hn hm hp hms hmm ho hom hw h
  have es:cN m i o v.out ms=[⟨v.op,3,v.out,aG,o.opacity,aX v.out o.opacity m⟩]:=by
   have e2:az m o v.out ms=aX v.out o.opacity m:=by unfold az;rw [if_pos h,hZ hm]
   unfold cN sg
   rw [if_pos h,if_pos h,e2,hi];rfl
  rw [← hnx] at hI
  refine dd hI rfl (fun i hi => ?_) (by omega) (hK0 h _ ?_)
  ·unfold aA dY
   rw [if_neg (by omega),if_neg (by omega),if_neg (by omega)]
   exact hw i (by omega)
  ·rw [es]
   exact iU (by omega) hv1 (iU (by omega) hL (ry L))
 ·have hI:=sN st.bx n (bd cB L) o v ms m hT hk hn hm hp hms hmm ho hom hw h
  have es:cN m i o v.out ms=[⟨v.op,2,v.out,aG,ms,aX v.out ms m⟩] ++ [⟨v.op,3,aX v.out ms m,aG,o.opacity,aX (aX v.out ms m) o.opacity m⟩]:=by
   have e2:az m o v.out ms=aX (aX v.out ms m) o.opacity m:=by unfold az;rw [if_neg h]
   unfold cN sg
   rw [if_neg h,if_neg h,e2,hi]
  rw [← hnx] at hI
  refine dd hI rfl (fun i hi => ?_) (by omega) (hK1 h _ ?_)
  ·unfold aA dY
   rw [if_neg (by omega),if_neg (by omega),if_neg (by omega)]
   exact hw i (by omega)
  ·rw [es,← List.append_assoc]
   refine iU (by omega) ?_ (iU (by omega) hv1 (iU (by omega) hL (ry L)))
   rw [List.length_append,hv1];rfl
attribute [local irreducible] fU
theorem Cr (s : Script) (x y m : Int) (C : Pt s m x y) (hs : ScriptLen s) (hx : i64 x) (hy : i64 y) (bx : Nat → Option Bx) (hT : bx 1 = some (.fix [.p (.val (.slice none 0 0))])) (hw : ∀ i, 2 ≤ i → bx i = none) :
  kR Sg bx 2 62 [ag (aM s),I x,I y, .c (.clo 66 [(1,0)])] (.b (ag (aH (dF s x y))))
   (aA 1 (.fix [.own 2 (cW m (bI s x y) s.ops s.ops.length).length]) (aA 2 (.arr 120 18 (cW m (bI s x y) s.ops s.ops.length).length (bd cB (cW m (bI s x y) s.ops s.ops.length))) fun _=>none)) 4:=by
 have V:=C.V
 have W:=V.wf
 have hm:=C.hm
 have hmx:aD Sg 103 [I s.bits] (fun x=>x = .tup [U m,B (decide (s.bits=8∨s.bits=16))]):=by
  have:=dN s.bits
  rw [show (if s.bits=8 then (255:Int) else if s.bits=16 then 65535 else 0)=bz s.bits from rfl,C.mx] at this
  exact this
 have hcnt:=V.cnt
 have ht:True:=trivial
 have hv:∀ t r,ga m (bI s x y) s.ops s.ops.length=t :: r→dF s x y=bl t.acc t.back m:=fun t r e=>by
  have e2:mo m (bI s x y) s.ops [base]=t :: r:=by
   rw [← e];unfold ga;rw [List.take_length]
  unfold dF
  rw [C.mx,e2];rfl
 generalize dF s x y=vv at *
 have eb:bx=aA 1 (.fix [.p (.val (.slice none 0 0))]) bx:=bt hT
 have hclo:BV.lt 2 (.c (.clo 66 [(1,0)])):=fun p hp=>by rw [List.mem_singleton.1 hp];decide
 refine zw Tryz.func62 rfl (rs:=[.cell 8 41]) rfl rfl dZ (by decide +kernel) (Nat.le_of_ble_eq_true rfl) ?_ (fun kf hkf => ?_)
 ·intro v hv
  simp only [List.mem_cons,List.not_mem_nil,or_false] at hv
  rcases hv with rfl|rfl|rfl|rfl
  ·exact fun c hc=>by (obtain ⟨x,_,rfl⟩:=List.mem_map.1 hc;trivial)
  ·trivial
  ·trivial
  ·exact hclo
 rw [eb]
 repeat' ((first|refine ai (fun K hK => ?_)|refine ae (hmx) ?_);and_intros;all_goals first|(refine hK _ ?_;clear hK K)|try exact aa)
 refine tM m hm ?_ (fun F0 hF0 => ?_)
 ·intro iw hiw
  have hiw:4≤iw:=hiw
  simp only [gE,dr,dt,du,gD,jN,ee,dS,dW,dV,gB,jJ,jW,jX]
  repeat (refine Eq.trans (if_neg ?_) ?_;(focus omega))
  exact hw iw (by omega)
 simp (maxSteps:=999999)(disch:=omega) only [go_sem]
 refine hK _ ?_
 clear hK
 repeat' (first|refine ak ?_|(refine ai (fun K hK => ?_);and_intros;all_goals first|(refine hK _ ?_;clear hK K)|try exact aa))
 have e0:ga m (bI s x y) s.ops 0=[base]:=by
  unfold ga mo
  rw [List.take_zero,List.foldl_nil]
 refine aS (X:=Nat × Nat × (Nat→Nat→PV) × Nat × (Nat→Nat→PV)) (fun z=>tY [(1, .b (I x)),(2, .b (I y)),(3, .b (.c (.clo 66 [(1,0)]))),(4, .b (.c (.ptr 3 0))),(8, .b (.c (.ptr 6 0))),(9, .b (U m)),(11, .b (.c (.ptr 4 0))),(13, .b (.c (.own 7 ((bR s.ops z.1).length)))),(38, .b (.c (.p (kq s.ops)))),(39, .b (I s.ops.length)),(40, .b (I z.1))] [(1, .fix [.own 2 ((cW m (bI s x y) s.ops z.1).length)]),(2, .arr 120 18 ((cW m (bI s x y) s.ops z.1).length) (bd cB (cW m (bI s x y) s.ops z.1))),(3, .fix ((aM s).map CV.p)),(4, .fix [.p (PU m), .own 5 ((bR s.ops z.1).length+1)]),(5, .arr 201 23 (z.2.1) z.2.2.1),(6, .fix ((aH aG).map CV.p)),(7, .arr 29 12 (z.2.2.2.1) z.2.2.2.2)] 8 kf)
  (fun z=>z.1≤s.ops.length∧(bR s.ops z.1).length+1≤z.2.1∧xg z.2.2.1 (ga m (bI s x y) s.ops z.1)∧(bR s.ops z.1).length≤z.2.2.2.1∧rA s.ops z.2.2.2.2 (bR s.ops z.1)) (fun z=>s.ops.length - z.1) (0,1,F0,0,fun _ _ => .any) ?_ ?_ ?_
 ·refine ⟨Nat.zero_le _,Nat.le_refl _, ?_,Nat.le_refl _,trivial⟩
  rw [e0]
  exact ⟨hF0,trivial⟩
 ·refine fx 2 [(1,some 1),(2,none),(3,some 2),(4,some 5),(5,some 4),(6,some 3),(7,none)] hkf ?_ ?_
  and_intros
  all_goals first|exact ao|skip
 rintro ⟨i,N,f,NO,g⟩ ⟨hi,hN,hh,hNO,hop⟩
 dsimp only at hi hN hh hNO hop ⊢
 have hnl:=tI (m:=m) (z:=bI s x y) (ops:=s.ops) i
 have htr:cW m (bI s x y) s.ops (i+1)=cW m (bI s x y) s.ops i ++ pB m (bI s x y) i (ga m (bI s x y) s.ops i) (aO s.ops i):=rfl
 obtain ⟨gl,hgl⟩:∃ L,cW m (bI s x y) s.ops i=L:=⟨_,rfl⟩
 obtain ⟨nl,hln⟩:∃ n,gl.length=n:=⟨_,rfl⟩
 have hfin:cW m (bI s x y) s.ops i=gl:=hgl
 rw [hgl] at hnl htr ⊢
 rw [hln] at hnl ⊢
 have ha:=Hn C i hi
 obtain ⟨t,r,e⟩:=ha.ne
 rw [e] at ha hh
 have hlen:(bR s.ops i).length=r.length:=by
  have:=congrArg List.length ha.o
  simp only [List.length_map,List.length_cons,List.length_append,List.length_nil] at this
  omega
 have hf:eI (f (bR s.ops i).length) t:=by rw [hlen];exact hh.1
 have hst:=CY V hi
 rcases Nat.lt_or_ge i s.ops.length with hlt|hge
 ·rcases W.kinds i hlt with hk|hk|hk
  ·have hk2:(s.ops.getD i default).kind=1:=hk
   have hfit:=ha.fit C hlt (by omega)
   obtain ⟨b0,b1,b2,⟨b3,b3'⟩,⟨b4,b4'⟩,⟨b5,b5'⟩,b6,b6'⟩:=nN C hlt (by omega)
   have hz:=C.z
   have himg:=hs.images
   obtain ⟨q1,q2,q3,q4⟩:=cK.1 (V.ok i hlt)
   obtain ⟨_,_,_,q5,q6,_⟩:=q4 (by omega)
   simp only [jh,decide_eq_true_eq] at q5 q6
   have hsm:=fB s (aO s.ops i) x y hs hx hy ⟨by omega,by omega⟩ ⟨by omega,by omega⟩ ⟨by omega,by omega⟩ ⟨by omega,by omega⟩ ⟨by omega,by omega⟩
   have hp:=hz.p (aO s.ops i)
   have hk0:=hz.k0 (aO s.ops i)
   have hkm:=hz.km (aO s.ops i)
   have hko:t.op.knockout=true→(s.ops.getD i default).operator=4:=fun h=>hfit.ctx.elim id fun q=>by rw [h] at q;cases q.2
   have hnx:=eN (m:=m) (z:=bI s x y) hlt
   rw [e,jE hk] at hnx
   rw [e,xA hk] at htr
   generalize hz1:bI s x y (aO s.ops i)=zz at *
   obtain ⟨p,ms⟩:=zz
   dsimp only at *
   unfold aO at *
   have htr2:cW m (bI s x y) s.ops (i+1)=((gl ++ [(⟨(i:Int),1,aG,aG,0,p⟩:Mic)]) ++ cN m i (s.ops.getD i default) p ms) ++ [(⟨(i:Int),4,az m (s.ops.getD i default) p ms,dU t.acc,0,dU (bT m (s.ops.getD i default) (az m (s.ops.getD i default) p ms) t).acc⟩:Mic)]:=by rw [htr];simp
   have hbl:=qs m (bR s.ops i).length f t (s.ops.getD i default) (by omega) hf (by omega)
   repeat' (first|refine aj hk2 ?_|refine ak ?_|((with_reducible refine aT (id:=11) (fun K hW => ?_));(try simp (maxSteps:=999999)(disch:=omega) only [go_sem]);and_intros;all_goals first|(refine hK _ ?_;clear hK K)|try exact aa)|((first|refine ai (fun K hK => ?_)|refine ae (hsm) ?_);and_intros;all_goals first|(refine hK _ ?_;clear hK K)|try exact aa)|(refine bc (fun hb => ?_) (fun hb => ?_);all_goals try exact aJ))
   refine hW _ (tY [(1, .b (I x)),(2, .b (I y)),(3, .b (.c (.clo 66 [(1,0)]))),(4, .b (.c (.ptr 3 0))),(8, .b (.c (.ptr 6 0))),(9, .b (U m)),(11, .b (.c (.ptr 4 0))),(13, .b (.c (.own 7 ((bR s.ops i).length)))),(38, .b (.c (.p (kq s.ops)))),(39, .b (I s.ops.length)),(40, .b (I i)),(14, .b (I i)),(15, .b (.c (.ptr 8 0))),(16, .b (.c (.ptr 9 0))),(17, .b (.c (.ptr 10 0))),(18, .b (U ms)),(19, .b (.c (.ptr 11 0)))] [(1, .fix [.own 2 (nl)]),(2, .arr 120 18 (nl) (bd cB (gl))),(3, .fix ((aM s).map CV.p)),(4, .fix [.p (PU m), .own 5 ((bR s.ops i).length+1)]),(5, .arr 201 23 (N) f),(6, .fix ((aH aG).map CV.p)),(7, .arr 29 12 (NO) g),(8, .fix ((dJ (s.ops.getD i default)).map CV.p)),(9, .fix ((dJ (s.ops.getD i default)).map CV.p)),(10, .fix ((aH p).map CV.p)),(11, .fix ((cB (⟨(i:Int),1,aG,aG,0,p⟩:Mic)).map CV.p))] 12 kf) ?_ ?_
   ·refine fx 2 [(1,some 1),(2,some 2),(3,some 3),(4,some 4),(5,some 5),(6,some 6),(7,some 7),(8,some 8),(9,some 9),(10,some 10),(11,some 11)] hkf ?_ ?_
    and_intros
    all_goals first|exact ao|skip
   clear hW
   repeat' (first|refine aj hk2 ?_|refine ak ?_|((with_reducible refine aT (id:=20) (fun K hW => ?_));(try simp (maxSteps:=999999)(disch:=omega) only [go_sem]);and_intros;all_goals first|(refine hK _ ?_;clear hK K)|try exact aa)|(refine ai (fun K hK => ?_);and_intros;all_goals first|(refine hK _ ?_;clear hK K)|try exact aa))
   refine (fun (tl:∀ (n':Nat) (L2:List Mic) (st:St),n'≤nl+3→L2.length=n'→L2=(gl ++ [(⟨(i:Int),1,aG,aG,0,p⟩:Mic)]) ++ cN m i (s.ops.getD i default) p ms→Le st (tY [(1, .b (I x)),(2, .b (I y)),(3, .b (.c (.clo 66 [(1,0)]))),(4, .b (.c (.ptr 3 0))),(8, .b (.c (.ptr 6 0))),(9, .b (U m)),(11, .b (.c (.ptr 4 0))),(13, .b (.c (.own 7 ((bR s.ops i).length)))),(38, .b (.c (.p (kq s.ops)))),(39, .b (I s.ops.length)),(40, .b (I i)),(14, .b (I i)),(15, .b (.c (.ptr 8 0))),(17, .b (.c (.ptr 9 0))),(18, .b (U ms)),(22, .b (.c (.ptr 10 0)))] [(1, .fix [.own 2 (n')]),(2, .arr 120 18 (n') (bd cB (L2))),(3, .fix ((aM s).map CV.p)),(4, .fix [.p (PU m), .own 5 ((bR s.ops i).length+1)]),(5, .arr 201 23 (N) f),(6, .fix ((aH aG).map CV.p)),(7, .arr 29 12 (NO) g),(8, .fix ((dJ (s.ops.getD i default)).map CV.p)),(9, .fix ((aH p).map CV.p)),(10, .fix ((aH (az m (s.ops.getD i default) p ms)).map CV.p))] 11 kf)→K st) => ?_) (fun n' L2 st hn' hn2 hL2 hl=>hW st _ hl ?_)
   ·clear hW
    refine lW nl gl hln (s.ops.getD i default) (⟨(i:Int),1,aG,aG,0,p⟩:Mic) ms m ?_ ?_ ?_ (by omega) hm hp hk0 hkm hfit.op0 hfit.opm ?_ i rfl (fun hmk G hG => ?_) (fun hmk G hG => ?_)
    ·simp (maxSteps:=999999)(disch:=omega) only [go_sem]
    ·(first|(simp (maxSteps:=999999)(disch:=omega) only [go_sem];done)|(simp (maxSteps:=999999)(disch:=omega) only [go_sem];rfl))
    ·(first|(simp (maxSteps:=999999)(disch:=omega) only [go_sem];done)|(simp (maxSteps:=999999)(disch:=omega) only [go_sem];rfl))
    ·refine (?_:dB 0 _).1
     repeat' (first|exact jb rfl|refine dB.set ?_ _ _)
    ·simp (maxSteps:=999999)(disch:=omega) only [go_sem]
     have hlen2:((gl ++ [(⟨(i:Int),1,aG,aG,0,p⟩:Mic)]) ++ cN m i (s.ops.getD i default) p ms).length=nl+2:=by
      rw [List.length_append,List.length_append,hln,xc hmk];rfl
     have hG:gV G ((gl ++ [(⟨(i:Int),1,aG,aG,0,p⟩:Mic)]) ++ cN m i (s.ops.getD i default) p ms):=hG
     refine tl (nl+2) _ _ (by omega) hlen2 rfl ?_
     refine fx 2 [(1,some 1),(2,some 24),(3,some 3),(4,some 4),(5,some 5),(6,some 6),(7,some 7),(8,some 8),(9,some 10),(10,some 25)] hkf ?_ ?_
     and_intros
     all_goals first|exact ao|skip
     all_goals exact .inr fun a ha j hj=>mE hG a (by omega) j hj
    ·simp (maxSteps:=999999)(disch:=omega) only [go_sem]
     have hlen2:((gl ++ [(⟨(i:Int),1,aG,aG,0,p⟩:Mic)]) ++ cN m i (s.ops.getD i default) p ms).length=nl+3:=by
      rw [List.length_append,List.length_append,hln,xl hmk];rfl
     have hG:gV G ((gl ++ [(⟨(i:Int),1,aG,aG,0,p⟩:Mic)]) ++ cN m i (s.ops.getD i default) p ms):=hG
     refine tl (nl+3) _ _ (by omega) hlen2 rfl ?_
     refine fx 2 [(1,some 1),(2,some 28),(3,some 3),(4,some 4),(5,some 5),(6,some 6),(7,some 7),(8,some 8),(9,some 10),(10,some 29)] hkf ?_ ?_
     and_intros
     all_goals first|exact ao|skip
     all_goals exact .inr fun a ha j hj=>mE hG a (by omega) j hj
   clear hW hl
   repeat' (refine ai (fun K hK => ?_);and_intros;all_goals first|(refine hK _ ?_;clear hK K)|try exact aa)
   refine iJ 4 5 ((bR s.ops i).length+1) N f m (s.ops.getD i default) hN hbl ?_ ?_ ?_
   ·simp (maxSteps:=999999)(disch:=omega) only [go_sem]
   ·simp (maxSteps:=999999)(disch:=omega) only [go_sem]
   simp (maxSteps:=999999)(disch:=omega) only [go_sem]
   refine hK _ ?_
   clear hK
   repeat' (first|refine aj hk2 ?_|refine ak ?_|((with_reducible refine aT (id:=24) (fun K hW => ?_));(try simp (maxSteps:=999999)(disch:=omega) only [go_sem]);and_intros;all_goals first|(refine hK _ ?_;clear hK K)|try exact aa)|(refine ai (fun K hK => ?_);and_intros;all_goals first|(refine hK _ ?_;clear hK K)|try exact aa))
   refine rT 4 5 (bR s.ops i).length N hN f m (s.ops.getD i default) p ms t ?_ ?_ ?_ ?_ (by decide) (by omega) hf hm hk2 q5 q6 ⟨hfit.op0,hfit.opm⟩ hp ⟨hk0,hkm⟩ ha.v.head.v hko ?_ (fun F hF1 hF2 => ?_)
   ·simp (maxSteps:=999999)(disch:=omega) only [go_sem]
   ·simp (maxSteps:=999999)(disch:=omega) only [go_sem]
   ·simp (maxSteps:=999999)(disch:=omega) only [go_sem]
   ·simp (maxSteps:=999999)(disch:=omega) only [go_sem]
   ·refine (?_:dB 0 _).1
    repeat' (first|exact jb rfl|refine dB.set ?_ _ _|refine dB.newBox ?_ _|refine mO (by (first|(simp (maxSteps:=999999)(disch:=omega) only [go_sem];done)|(simp (maxSteps:=999999)(disch:=omega) only [go_sem];omega))) ?_)
   have hac2:=jP m (bR s.ops i).length F _ (by omega) hF1
   have hco2:=eM (bT m (s.ops.getD i default) (az m (s.ops.getD i default) p ms) t).acc
   simp (maxSteps:=999999)(disch:=omega) only [go_sem]
   refine hW _ (tY [(1, .b (I x)),(2, .b (I y)),(3, .b (.c (.clo 66 [(1,0)]))),(4, .b (.c (.ptr 3 0))),(8, .b (.c (.ptr 6 0))),(9, .b (U m)),(11, .b (.c (.ptr 4 0))),(13, .b (.c (.own 7 ((bR s.ops i).length)))),(38, .b (.c (.p (kq s.ops)))),(39, .b (I s.ops.length)),(40, .b (I i)),(14, .b (I i)),(22, .b (.c (.ptr 8 0))),(23, .b (.c (.ptr 9 0)))] [(1, .fix [.own 2 (n')]),(2, .arr 120 18 (n') (bd cB (L2))),(3, .fix ((aM s).map CV.p)),(4, .fix [.p (PU m), .own 5 ((bR s.ops i).length+1)]),(5, .arr 201 23 (N) F),(6, .fix ((aH aG).map CV.p)),(7, .arr 29 12 (NO) g),(8, .fix ((aH (az m (s.ops.getD i default) p ms)).map CV.p)),(9, .fix ((aH (dU t.acc)).map CV.p))] 10 kf) ?_ ?_
   ·refine fx 2 [(1,some 1),(2,some 2),(3,some 3),(4,some 4),(5,some 5),(6,some 6),(7,some 7),(8,some 10),(9,some 11)] hkf ?_ ?_
    and_intros
    all_goals first|exact ao|skip
   clear hW
   refine nd (id:=25) (.br 0 (.br 1 (.br 2 (.br 3 (.br 4 (.br 5 (.br 6 (.br 7 (.br 8 .leaf .nil) .nil) .nil) .nil) .nil) .nil) .nil) .nil) .nil) (by decide +kernel) ?_ (fun K0 hW => ?_)
   ·refine ⟨?_,Nat.zero_le _⟩
    refine (?_:dB 0 _).1
    repeat' (exact jb rfl)
   replace hW:=kD hW
   repeat' (first|exact cz|(refine cZ (fun K' hK' => ?_) ?_)|((first|refine ed (k:=5) (e:=201) hN hac2 (jA _) ?_|refine ae (hco2) ?_);(try simp (maxSteps:=999999)(disch:=omega) only [go_sem]);and_intros;(all_goals first|(refine hK' _ ?_;clear hK' K')|trivial|omega|exact Nat.le_of_ble_eq_true rfl|exact aa|skip))|(simp (maxSteps:=999999)(disch:=omega) only [go_sem];and_intros;(all_goals first|(refine hK' _ ?_;clear hK' K')|trivial|omega|exact Nat.le_of_ble_eq_true rfl|exact aa|skip)))
   all_goals
    refine gI 1 2 n' (bd cB L2) (⟨(i:Int),4,az m (s.ops.getD i default) p ms,dU t.acc,0,dU (bT m (s.ops.getD i default) (az m (s.ops.getD i default) p ms) t).acc⟩:Mic) ?_ ?_ ?_ ?_ (by decide) (by omega) ?_ ?_
    ·simp (maxSteps:=999999)(disch:=omega) only [go_sem]
    ·(first|(simp (maxSteps:=999999)(disch:=omega) only [go_sem];done)|(simp (maxSteps:=999999)(disch:=omega) only [go_sem];rfl))
    ·(first|(simp (maxSteps:=999999)(disch:=omega) only [go_sem];done)|(simp (maxSteps:=999999)(disch:=omega) only [go_sem];omega))
    ·(first|(simp (maxSteps:=999999)(disch:=omega) only [go_sem];done)|(simp (maxSteps:=999999)(disch:=omega) only [go_sem];omega))
    ·refine (?_:dB 0 _).1
     repeat' (first|exact jb rfl|refine dB.set ?_ _ _)
    simp (maxSteps:=999999)(disch:=omega) only [go_sem]
    refine hK' _ ?_
    clear hK' K'
    repeat' (first|(refine cj (hW _ ?_);clear hW)|(simp (maxSteps:=999999)(disch:=omega) only [go_sem];and_intros;(all_goals first|(refine hK' _ ?_;clear hK' K')|trivial|omega|exact Nat.le_of_ble_eq_true rfl|exact aa|skip)))
    refine iT ?_
    have hl3:(L2 ++ [(⟨(i:Int),4,az m (s.ops.getD i default) p ms,dU t.acc,0,dU (bT m (s.ops.getD i default) (az m (s.ops.getD i default) p ms) t).acc⟩:Mic)]).length=n'+1:=by rw [List.length_append,hn2];rfl
    refine .inl ⟨tY [(1, .b (I x)),(2, .b (I y)),(3, .b (.c (.clo 66 [(1,0)]))),(4, .b (.c (.ptr 3 0))),(8, .b (.c (.ptr 6 0))),(9, .b (U m)),(11, .b (.c (.ptr 4 0))),(13, .b (.c (.own 7 ((bR s.ops i).length)))),(38, .b (.c (.p (kq s.ops)))),(39, .b (I s.ops.length)),(40, .b (I i))] [(1, .fix [.own 2 (n'+1)]),(2, .arr 120 18 (n'+1) (bd cB (L2 ++ [(⟨(i:Int),4,az m (s.ops.getD i default) p ms,dU t.acc,0,dU (bT m (s.ops.getD i default) (az m (s.ops.getD i default) p ms) t).acc⟩:Mic)]))),(3, .fix ((aM s).map CV.p)),(4, .fix [.p (PU m), .own 5 ((bR s.ops i).length+1)]),(5, .arr 201 23 (N) F),(6, .fix ((aH aG).map CV.p)),(7, .arr 29 12 (NO) g)] 8 kf, ?_, ?_⟩
    ·refine fx 2 [(1,some 1),(2,some 12),(3,some 3),(4,some 4),(5,some 5),(6,some 6),(7,some 7)] hkf ?_ ?_
     and_intros
     all_goals first|exact ao|skip
     all_goals exact .inr fun a ha j hj=>mE (iU (by omega) hn2 (ry L2)) a (by rw [hl3];exact ha) j hj
    repeat' (refine ai (fun K hK => ?_);and_intros;all_goals first|(refine hK _ ?_;clear hK K)|try exact aa)
    rw [ah]
    refine au (i+1,N,F,NO,g) ?_ ⟨by dsimp only;omega,by dsimp only;rw [fc hk];exact hN, ?_,by dsimp only;rw [fc hk];exact hNO,by dsimp only;rw [fc hk];exact hop⟩ (by dsimp only;omega)
    ·dsimp only
     rw [fc hk,htr2,← hL2,hl3]
     refine fx 2 [(1,some 1),(2,some 2),(3,some 3),(4,some 4),(5,some 5),(6,some 6),(7,some 7)] hkf ?_ ?_
     and_intros
     all_goals first|exact ao|skip
    ·dsimp only
     rw [hnx]
     refine ⟨by rw [hlen] at hF1;exact hF1,dL (fun a ha j=>hF2 a (by rw [hlen];exact ha) j) hh.2⟩
  ·have hk2:(s.ops.getD i default).kind=2:=hk
   have himg:=hs.images
   obtain ⟨b0,b1,b2,⟨b3,b3'⟩,⟨b4,b4'⟩,⟨b5,b5'⟩,b6,b6'⟩:=nN C hlt (by omega)
   obtain ⟨_,_,_,q4⟩:=cK.1 (V.ok i hlt)
   obtain ⟨_,_,_,_,_,_,q7⟩:=q4 (by omega)
   have hd:=q7 hk
   rw [List.length_map,List.length_reverse] at hd
   have hnx:=eN (m:=m) (z:=bI s x y) hlt
   rw [e,jQ hk] at hnx
   rw [e,ur hk] at htr
   unfold aO at htr
   have hsm:=fB s (aO s.ops i) x y hs hx hy ⟨by omega,by omega⟩ ⟨by omega,by omega⟩ ⟨by omega,by omega⟩ ⟨by omega,by omega⟩ ⟨by omega,by omega⟩
   generalize hz1:bI s x y (aO s.ops i)=zz at hsm
   obtain ⟨p,ms⟩:=zz
   dsimp only at hsm
   unfold aO at hsm
   repeat' (first|refine aj hk2 ?_|refine ak ?_|((with_reducible refine aT (id:=11) (fun K hW => ?_));(try simp (maxSteps:=999999)(disch:=omega) only [go_sem]);and_intros;all_goals first|(refine hK _ ?_;clear hK K)|try exact aa)|((first|refine ai (fun K hK => ?_)|refine ae (hsm) ?_);and_intros;all_goals first|(refine hK _ ?_;clear hK K)|try exact aa)|(refine bc (fun hb => ?_) (fun hb => ?_);all_goals try exact aJ))
   refine hW _ (tY [(1, .b (I x)),(2, .b (I y)),(3, .b (.c (.clo 66 [(1,0)]))),(4, .b (.c (.ptr 3 0))),(8, .b (.c (.ptr 6 0))),(9, .b (U m)),(11, .b (.c (.ptr 4 0))),(13, .b (.c (.own 7 ((bR s.ops i).length)))),(38, .b (.c (.p (kq s.ops)))),(39, .b (I s.ops.length)),(40, .b (I i)),(14, .b (I i)),(15, .b (.c (.ptr 8 0)))] [(1, .fix [.own 2 (nl)]),(2, .arr 120 18 (nl) (bd cB (gl))),(3, .fix ((aM s).map CV.p)),(4, .fix [.p (PU m), .own 5 ((bR s.ops i).length+1)]),(5, .arr 201 23 (N) f),(6, .fix ((aH aG).map CV.p)),(7, .arr 29 12 (NO) g),(8, .fix ((dJ (s.ops.getD i default)).map CV.p))] 9 kf) ?_ ?_
   ·refine fx 2 [(1,some 1),(2,some 2),(3,some 3),(4,some 4),(5,some 5),(6,some 6),(7,some 7),(8,some 8)] hkf ?_ ?_
    and_intros
    all_goals first|exact ao|skip
   clear hW
   repeat' (first|refine aj hk2 ?_|refine ak ?_|((with_reducible refine aT (id:=14) (fun K hW => ?_));(try simp (maxSteps:=999999)(disch:=omega) only [go_sem]);and_intros;all_goals first|(refine hK _ ?_;clear hK K)|try exact aa)|(refine ai (fun K hK => ?_);and_intros;all_goals first|(refine hK _ ?_;clear hK K)|try exact aa))
   refine re 4 5 (bR s.ops i).length N hN f m (s.ops.getD i default) t ?_ ?_ ?_ ?_ (by decide) hd hf hk2 ?_ (fun F hF1 hF2 => ?_)
   ·simp (maxSteps:=999999)(disch:=omega) only [go_sem]
   ·simp (maxSteps:=999999)(disch:=omega) only [go_sem]
   ·simp (maxSteps:=999999)(disch:=omega) only [go_sem]
   ·simp (maxSteps:=999999)(disch:=omega) only [go_sem]
   ·refine (?_:dB 0 _).1
    repeat' (first|exact jb rfl|refine dB.set ?_ _ _)
   have hbk:=mS m ((bR s.ops i).length+1) F (fW (s.ops.getD i default) t) (by omega) hF1
   simp (maxSteps:=999999)(disch:=omega) only [go_sem]
   refine hW _ (tY [(1, .b (I x)),(2, .b (I y)),(3, .b (.c (.clo 66 [(1,0)]))),(4, .b (.c (.ptr 3 0))),(8, .b (.c (.ptr 6 0))),(9, .b (U m)),(11, .b (.c (.ptr 4 0))),(13, .b (.c (.own 7 ((bR s.ops i).length)))),(38, .b (.c (.p (kq s.ops)))),(39, .b (I s.ops.length)),(40, .b (I i)),(14, .b (I i)),(15, .b (.c (.ptr 8 0)))] [(1, .fix [.own 2 (nl)]),(2, .arr 120 18 (nl) (bd cB (gl))),(3, .fix ((aM s).map CV.p)),(4, .fix [.p (PU m), .own 5 ((bR s.ops i).length+1+1)]),(5, .arr 201 23 ((bR s.ops i).length+2) F),(6, .fix ((aH aG).map CV.p)),(7, .arr 29 12 (NO) g),(8, .fix ((dJ (s.ops.getD i default)).map CV.p))] 9 kf) ?_ ?_
   ·refine fx 2 [(1,some 1),(2,some 2),(3,some 3),(4,some 4),(5,some 14),(6,some 6),(7,some 7),(8,some 8)] hkf ?_ ?_
    and_intros
    all_goals first|exact ao|skip
   clear hW
   repeat' ((first|refine ai (fun K hK => ?_)|refine ed (k:=5) (e:=201) (Nat.le_refl _) hbk (ig _) ?_);and_intros;all_goals first|(refine hK _ ?_;clear hK K)|try exact aa)
   refine gI 1 2 nl (bd cB gl) (⟨(i:Int),5,aG,aG,0,(fW (s.ops.getD i default) t).back⟩:Mic) ?_ ?_ ?_ ?_ (by decide) (by omega) ?_ ?_
   ·simp (maxSteps:=999999)(disch:=omega) only [go_sem]
   ·(first|(simp (maxSteps:=999999)(disch:=omega) only [go_sem];done)|(simp (maxSteps:=999999)(disch:=omega) only [go_sem];rfl))
   ·(first|(simp (maxSteps:=999999)(disch:=omega) only [go_sem];done)|(simp (maxSteps:=999999)(disch:=omega) only [go_sem];omega))
   ·(first|(simp (maxSteps:=999999)(disch:=omega) only [go_sem];done)|(simp (maxSteps:=999999)(disch:=omega) only [go_sem];omega))
   ·refine (?_:dB 0 _).1
    repeat' (first|exact jb rfl|refine dB.set ?_ _ _|refine dB.newBox ?_ _|refine dB.delBox ?_ _)
   simp (maxSteps:=999999)(disch:=omega) only [go_sem]
   refine hK _ ?_
   clear hK
   have hl3:(gl ++ [(⟨(i:Int),5,aG,aG,0,(fW (s.ops.getD i default) t).back⟩:Mic)]).length=nl+1:=by rw [List.length_append,hln];rfl
   repeat' (first|refine ak ?_|(refine ai (fun K hK => ?_);and_intros;all_goals first|(refine hK _ ?_;clear hK K)|try exact aa))
   rw [ah]
   refine au (i+1,(bR s.ops i).length+2,F,(bR s.ops i).length+1,yu (bR s.ops i).length (s.ops.getD i default) g) ?_ ⟨by dsimp only;omega,by dsimp only;rw [fi hk];exact Nat.le_refl _, ?_,by dsimp only;rw [fi hk];exact Nat.le_refl _,by dsimp only;rw [fi hk];exact qk hop⟩ (by dsimp only;omega)
   ·dsimp only
    rw [fi hk,List.length_cons,htr,hl3]
    refine fx 2 [(1,some 1),(2,some 13),(3,some 3),(4,some 4),(5,some 5),(6,some 6),(7,some 10)] hkf ?_ ?_
    and_intros
    all_goals first|exact ao|skip
    ·exact .inr fun a ha j hj=>mE (iU (by omega) hln (ry gl)) a (by rw [hl3];exact ha) j hj
    ·exact .inr fun a ha j hj=>wK (fun j hj=>by (have hivl:j=0∨j=1∨j=2∨j=3∨j=4∨j=5∨j=6∨j=7∨j=8∨j=9∨j=10∨j=11:=by omega);rcases hivl with rfl|rfl|rfl|rfl|rfl|rfl|rfl|rfl|rfl|rfl|rfl|rfl <;> rfl) a ha j hj
   ·dsimp only
    rw [hnx]
    refine ⟨by rw [hlen] at hF1;exact hF1,dL (fun a ha j=>hF2 a (by rw [hlen];exact ha) j) hh⟩
  ·have hk2:(s.ops.getD i default).kind=3:=hk
   have hnx:=eN (m:=m) (z:=bI s x y) hlt
   have himg:=hs.images
   obtain ⟨a,sk,hsk⟩:∃ a sk,bR s.ops i=a :: sk:=by
    cases hq:bR s.ops i with
    | nil=>exact absurd hq (W.pops i hlt hk)
    | cons a sk=>exact ⟨a,sk,rfl⟩
   cases r with
   | nil=>rw [hsk] at hlen;cases hlen
   | cons u r =>
   rw [e,lF hk] at hnx
   rw [e,Ac hk] at htr
   obtain ⟨vt,vf,vs⟩:=ha.v
   have ho:=ha.o
   rw [hsk] at ho
   have eg:t.op=aO s.ops a:=(List.cons.inj ho).1
   have hgl2:a<i:=rX (ops:=s.ops) (by rw [hsk];exact List.mem_cons_self ..)
   have hgk:(aO s.ops a).kind=2:=gX (i:=i) (by rw [hsk];exact List.mem_cons_self ..)
   obtain ⟨b0,b1,b2,⟨b3,b3'⟩,⟨b4,b4'⟩,⟨b5,b5'⟩,b6,b6'⟩:=nN C (show a<s.ops.length by omega) (by omega)
   obtain ⟨_,_,_,q4⟩:=cK.1 (V.ok a (by omega))
   obtain ⟨_,_,_,q5,q6,_⟩:=q4 (by omega)
   rw [← eg] at b0 b1 b2 b3 b3' b4 b4' b5 b5' b6 b6' q5 q6
   simp only [jh,decide_eq_true_eq] at q5 q6
   have hlk:(bR s.ops i).length=r.length+1:=by rw [hlen];rfl
   have hls:(bR s.ops (i+1)).length=r.length:=by rw [nJ hk,List.length_tail,hlk];rfl
   have hu:eI (f r.length) u:=hh.2.1
   have hskl:sk.length=r.length:=by rw [hsk] at hlk;simpa using hlk
   rw [hsk] at hop
   have hrow:∀ c,g r.length c=(dJ t.op).getD c .any:=fun c=>by rw [← hskl,eg];exact hop.1 c
   rw [hlk] at hf hst hN hNO ⊢
   have hz:=C.z
   have hsm:=fB s t.op x y hs hx hy ⟨by omega,by omega⟩ ⟨by omega,by omega⟩ ⟨by omega,by omega⟩ ⟨by omega,by omega⟩ ⟨by omega,by omega⟩
   have hk0:=hz.k0 t.op
   have hkm:=hz.km t.op
   have hacT:=jP m (r.length+1) f t (by omega) hf
   have hbkT:=mS m (r.length+1) f t (by omega) hf
   have hre:=ka t.acc t.back m hm vt.v
   have hrv:=kz hm vt.v
   have hko:u.op.knockout=true→t.op.operator=4:=fun h=>vf.ctx.elim id fun q=>by rw [h] at q;cases q.2
   generalize hz1:bI s x y t.op=zz at *
   obtain ⟨p,ms⟩:=zz
   dsimp only at hsm hk0 hkm hnx htr
   have hbl:=qA m r.length f u (s.ops.getD i default) (by omega) hu hk2
   have er:ag [g r.length 0,g r.length 1,g r.length 2,g r.length 3,g r.length 4,g r.length 5,g r.length 6,g r.length 7,g r.length 8,g r.length 9,g r.length 10,g r.length 11]=ag (dJ t.op):=by rw [hrow 0,hrow 1,hrow 2,hrow 3,hrow 4,hrow 5,hrow 6,hrow 7,hrow 8,hrow 9,hrow 10,hrow 11];rfl
   rw [← er] at hsm
   generalize hres:bl t.acc t.back m=res at *
   have htr2:cW m (bI s x y) s.ops (i+1)=((gl ++ [(⟨(i:Int),6,aG,aG,0,res⟩:Mic)]) ++ cN m i t.op res ms) ++ [(⟨(i:Int),4,az m t.op res ms,dU u.acc,0,dU (bT m t.op (az m t.op res ms) u).acc⟩:Mic)]:=by rw [htr];simp
   repeat' (first|refine ak ?_|((with_reducible refine aT (id:=7) (fun K hW => ?_));(try simp (maxSteps:=999999)(disch:=omega) only [go_sem]);and_intros;all_goals first|(refine hK _ ?_;clear hK K)|try exact aa)|(refine ai (fun K hK => ?_);and_intros;all_goals first|(refine hK _ ?_;clear hK K)|try exact aa)|(refine bc (fun hb => ?_) (fun hb => ?_);all_goals try exact aJ))
   refine hW _ (tY [(1, .b (I x)),(2, .b (I y)),(3, .b (.c (.clo 66 [(1,0)]))),(4, .b (.c (.ptr 3 0))),(8, .b (.c (.ptr 6 0))),(9, .b (U m)),(11, .b (.c (.ptr 4 0))),(13, .b (.c (.own 7 (r.length+1)))),(38, .b (.c (.p (kq s.ops)))),(39, .b (I s.ops.length)),(40, .b (I i)),(14, .b (I i)),(15, .b (.c (.ptr 8 0))),(16, .b (.c (.ptr 9 0)))] [(1, .fix [.own 2 (nl)]),(2, .arr 120 18 (nl) (bd cB (gl))),(3, .fix ((aM s).map CV.p)),(4, .fix [.p (PU m), .own 5 (r.length+1+1)]),(5, .arr 201 23 (N) f),(6, .fix ((aH aG).map CV.p)),(7, .arr 29 12 (NO) g),(8, .fix ((dJ (s.ops.getD i default)).map CV.p)),(9, .fix ((dJ (s.ops.getD i default)).map CV.p))] 10 kf) ?_ ?_
   ·refine fx 2 [(1,some 1),(2,some 2),(3,some 3),(4,some 4),(5,some 5),(6,some 6),(7,some 7),(8,some 8),(9,some 9)] hkf ?_ ?_
    and_intros
    all_goals first|exact ao|skip
   clear hW
   repeat' (first|refine aj hk2 ?_|refine ak ?_|((with_reducible refine aT (id:=11) (fun K hW => ?_));(try simp (maxSteps:=999999)(disch:=omega) only [go_sem]);and_intros;all_goals first|(refine hK _ ?_;clear hK K)|try exact aa)|((first|refine ai (fun K hK => ?_)|refine ae (hsm) ?_);and_intros;all_goals first|(refine hK _ ?_;clear hK K)|try exact aa))
   refine hW _ (tY [(1, .b (I x)),(2, .b (I y)),(3, .b (.c (.clo 66 [(1,0)]))),(4, .b (.c (.ptr 3 0))),(8, .b (.c (.ptr 6 0))),(9, .b (U m)),(11, .b (.c (.ptr 4 0))),(13, .b (.c (.own 7 (r.length)))),(38, .b (.c (.p (kq s.ops)))),(39, .b (I s.ops.length)),(40, .b (I i)),(14, .b (I i)),(15, .b (.c (.ptr 8 0))),(16, .b (.c (.ptr 9 0))),(18, .b (U ms)),(19, .b (.c (.ptr 10 0)))] [(1, .fix [.own 2 (nl)]),(2, .arr 120 18 (nl) (bd cB (gl))),(3, .fix ((aM s).map CV.p)),(4, .fix [.p (PU m), .own 5 (r.length+1+1)]),(5, .arr 201 23 (N) f),(6, .fix ((aH aG).map CV.p)),(7, .arr 29 12 (NO) g),(8, .fix ((dJ (s.ops.getD i default)).map CV.p)),(9, .fix ((dJ t.op).map CV.p)),(10, .fix ((cB (⟨(i:Int),1,aG,aG,0,p⟩:Mic)).map CV.p))] 11 kf) ?_ ?_
   ·refine fx 2 [(1,some 1),(2,some 2),(3,some 3),(4,some 4),(5,some 5),(6,some 6),(7,some 7),(8,some 8),(9,some 9),(10,some 11)] hkf ?_ ?_
    and_intros
    all_goals first|exact ao|skip
    all_goals exact .inl (hrow _)
   clear hW
   repeat' (first|refine aj hk2 ?_|refine ak ?_|((with_reducible refine aT (id:=20) (fun K hW => ?_));(try simp (maxSteps:=999999)(disch:=omega) only [go_sem]);and_intros;all_goals first|(refine hK _ ?_;clear hK K)|try exact aa)|((first|refine ai (fun K hK => ?_)|refine ed (k:=5) (e:=201) hN hacT (jA _) ?_|refine ed (k:=5) (e:=201) hN hbkT (ig _) ?_|refine ae (hre) ?_);and_intros;all_goals first|(refine hK _ ?_;clear hK K)|try exact aa))
   refine (fun (tl:∀ (n':Nat) (L2:List Mic) (st:St),n'≤nl+3→L2.length=n'→L2=(gl ++ [(⟨(i:Int),6,aG,aG,0,res⟩:Mic)]) ++ cN m i t.op res ms→Le st (tY [(1, .b (I x)),(2, .b (I y)),(3, .b (.c (.clo 66 [(1,0)]))),(4, .b (.c (.ptr 3 0))),(8, .b (.c (.ptr 6 0))),(9, .b (U m)),(11, .b (.c (.ptr 4 0))),(13, .b (.c (.own 7 (r.length)))),(38, .b (.c (.p (kq s.ops)))),(39, .b (I s.ops.length)),(40, .b (I i)),(14, .b (I i)),(15, .b (.c (.ptr 8 0))),(18, .b (U ms)),(22, .b (.c (.ptr 9 0)))] [(1, .fix [.own 2 (n')]),(2, .arr 120 18 (n') (bd cB (L2))),(3, .fix ((aM s).map CV.p)),(4, .fix [.p (PU m), .own 5 (r.length+1+1)]),(5, .arr 201 23 (N) f),(6, .fix ((aH aG).map CV.p)),(7, .arr 29 12 (NO) g),(8, .fix ((dJ (s.ops.getD i default)).map CV.p)),(9, .fix ((aH (az m t.op res ms)).map CV.p))] 10 kf)→K st) => ?_) (fun n' L2 st hn' hn2 hL2 hl=>hW st _ hl ?_)
   ·clear hW
    refine lW nl gl hln t.op (⟨(i:Int),6,aG,aG,0,res⟩:Mic) ms m ?_ ?_ ?_ (by omega) hm hrv hk0 hkm vf.op0 vf.opm ?_ i rfl (fun hmk G hG => ?_) (fun hmk G hG => ?_)
    ·simp (maxSteps:=999999)(disch:=omega) only [go_sem]
    ·(first|(simp (maxSteps:=999999)(disch:=omega) only [go_sem];done)|(simp (maxSteps:=999999)(disch:=omega) only [go_sem];rfl))
    ·(first|(simp (maxSteps:=999999)(disch:=omega) only [go_sem];done)|(simp (maxSteps:=999999)(disch:=omega) only [go_sem];rfl))
    ·refine (?_:dB 0 _).1
     repeat' (first|exact jb rfl|refine dB.set ?_ _ _|refine dB.newBox ?_ _|refine mO (by (first|(simp (maxSteps:=999999)(disch:=omega) only [go_sem];done)|(simp (maxSteps:=999999)(disch:=omega) only [go_sem];omega))) ?_)
    ·simp (maxSteps:=999999)(disch:=omega) only [go_sem]
     have hlen2:((gl ++ [(⟨(i:Int),6,aG,aG,0,res⟩:Mic)]) ++ cN m i t.op res ms).length=nl+2:=by
      rw [List.length_append,List.length_append,hln,xc hmk];rfl
     have hG:gV G ((gl ++ [(⟨(i:Int),6,aG,aG,0,res⟩:Mic)]) ++ cN m i t.op res ms):=hG
     refine tl (nl+2) _ _ (by omega) hlen2 rfl ?_
     refine fx 2 [(1,some 1),(2,some 24),(3,some 3),(4,some 4),(5,some 5),(6,some 6),(7,some 7),(8,some 8),(9,some 25)] hkf ?_ ?_
     and_intros
     all_goals first|exact ao|skip
     all_goals exact .inr fun a ha j hj=>mE hG a (by omega) j hj
    ·simp (maxSteps:=999999)(disch:=omega) only [go_sem]
     have hlen2:((gl ++ [(⟨(i:Int),6,aG,aG,0,res⟩:Mic)]) ++ cN m i t.op res ms).length=nl+3:=by
      rw [List.length_append,List.length_append,hln,xl hmk];rfl
     have hG:gV G ((gl ++ [(⟨(i:Int),6,aG,aG,0,res⟩:Mic)]) ++ cN m i t.op res ms):=hG
     refine tl (nl+3) _ _ (by omega) hlen2 rfl ?_
     refine fx 2 [(1,some 1),(2,some 28),(3,some 3),(4,some 4),(5,some 5),(6,some 6),(7,some 7),(8,some 8),(9,some 29)] hkf ?_ ?_
     and_intros
     all_goals first|exact ao|skip
     all_goals exact .inr fun a ha j hj=>mE hG a (by omega) j hj
   clear hW hl
   repeat' (refine ai (fun K hK => ?_);and_intros;all_goals first|(refine hK _ ?_;clear hK K)|try exact aa)
   refine iJ 4 5 (r.length+1+1) N f m (s.ops.getD i default) hN hbl ?_ ?_ ?_
   ·simp (maxSteps:=999999)(disch:=omega) only [go_sem]
   ·simp (maxSteps:=999999)(disch:=omega) only [go_sem]
   simp (maxSteps:=999999)(disch:=omega) only [go_sem]
   refine hK _ ?_
   clear hK
   repeat' (first|refine aj hk2 ?_|refine ak ?_|((with_reducible refine aT (id:=23) (fun K hW => ?_));(try simp (maxSteps:=999999)(disch:=omega) only [go_sem]);and_intros;all_goals first|(refine hK _ ?_;clear hK K)|try exact aa)|(refine ai (fun K hK => ?_);and_intros;all_goals first|(refine hK _ ?_;clear hK K)|try exact aa))
   refine te 4 5 r.length N hN f m ms t u ?_ ?_ ?_ ?_ (by decide) (by omega) hf hu hm q5 q6 ⟨vf.op0,vf.opm⟩ ⟨hk0,hkm⟩ vt.v vs.head.v hko ?_ (fun F hF1 hF2 => ?_)
   ·simp (maxSteps:=999999)(disch:=omega) only [go_sem]
   ·simp (maxSteps:=999999)(disch:=omega) only [go_sem]
   ·simp (maxSteps:=999999)(disch:=omega) only [go_sem]
   ·simp (maxSteps:=999999)(disch:=omega) only [go_sem]
   ·refine (?_:dB 0 _).1
    repeat' (first|exact jb rfl|refine dB.set ?_ _ _|refine dB.newBox ?_ _|refine mO (by (first|(simp (maxSteps:=999999)(disch:=omega) only [go_sem];done)|(simp (maxSteps:=999999)(disch:=omega) only [go_sem];omega))) ?_)
   rw [hres] at hF1 ⊢
   have hac2:=jP m r.length F _ (by omega) hF1
   have hco2:=eM (bT m t.op (az m t.op res ms) u).acc
   simp (maxSteps:=999999)(disch:=omega) only [go_sem]
   refine hW _ (tY [(1, .b (I x)),(2, .b (I y)),(3, .b (.c (.clo 66 [(1,0)]))),(4, .b (.c (.ptr 3 0))),(8, .b (.c (.ptr 6 0))),(9, .b (U m)),(11, .b (.c (.ptr 4 0))),(13, .b (.c (.own 7 (r.length)))),(38, .b (.c (.p (kq s.ops)))),(39, .b (I s.ops.length)),(40, .b (I i)),(14, .b (I i)),(22, .b (.c (.ptr 8 0))),(23, .b (.c (.ptr 9 0)))] [(1, .fix [.own 2 (n')]),(2, .arr 120 18 (n') (bd cB (L2))),(3, .fix ((aM s).map CV.p)),(4, .fix [.p (PU m), .own 5 (r.length+1)]),(5, .arr 201 23 (N) F),(6, .fix ((aH aG).map CV.p)),(7, .arr 29 12 (NO) g),(8, .fix ((aH (az m t.op res ms)).map CV.p)),(9, .fix ((aH (dU u.acc)).map CV.p))] 10 kf) ?_ ?_
   ·refine fx 2 [(1,some 1),(2,some 2),(3,some 3),(4,some 4),(5,some 5),(6,some 6),(7,some 7),(8,some 9),(9,some 10)] hkf ?_ ?_
    and_intros
    all_goals first|exact ao|skip
   clear hW
   refine nd (id:=25) (.br 0 (.br 1 (.br 2 (.br 3 (.br 4 (.br 5 (.br 6 (.br 7 (.br 8 .leaf .nil) .nil) .nil) .nil) .nil) .nil) .nil) .nil) .nil) (by decide +kernel) ?_ (fun K0 hW => ?_)
   ·refine ⟨?_,Nat.zero_le _⟩
    refine (?_:dB 0 _).1
    repeat' (exact jb rfl)
   replace hW:=kD hW
   repeat' (first|exact cz|(refine cZ (fun K' hK' => ?_) ?_)|((first|refine ed (k:=5) (e:=201) (show r.length+1≤N by omega) hac2 (jA _) ?_|refine ae (hco2) ?_);(try simp (maxSteps:=999999)(disch:=omega) only [go_sem]);and_intros;(all_goals first|(refine hK' _ ?_;clear hK' K')|trivial|omega|exact Nat.le_of_ble_eq_true rfl|exact aa|skip))|(simp (maxSteps:=999999)(disch:=omega) only [go_sem];and_intros;(all_goals first|(refine hK' _ ?_;clear hK' K')|trivial|omega|exact Nat.le_of_ble_eq_true rfl|exact aa|skip)))
   all_goals
    refine gI 1 2 n' (bd cB L2) (⟨(i:Int),4,az m t.op res ms,dU u.acc,0,dU (bT m t.op (az m t.op res ms) u).acc⟩:Mic) ?_ ?_ ?_ ?_ (by decide) (by omega) ?_ ?_
    ·simp (maxSteps:=999999)(disch:=omega) only [go_sem]
    ·(first|(simp (maxSteps:=999999)(disch:=omega) only [go_sem];done)|(simp (maxSteps:=999999)(disch:=omega) only [go_sem];rfl))
    ·(first|(simp (maxSteps:=999999)(disch:=omega) only [go_sem];done)|(simp (maxSteps:=999999)(disch:=omega) only [go_sem];omega))
    ·(first|(simp (maxSteps:=999999)(disch:=omega) only [go_sem];done)|(simp (maxSteps:=999999)(disch:=omega) only [go_sem];omega))
    ·refine (?_:dB 0 _).1
     repeat' (first|exact jb rfl|refine dB.set ?_ _ _)
    simp (maxSteps:=999999)(disch:=omega) only [go_sem]
    refine hK' _ ?_
    clear hK' K'
    repeat' (first|(refine cj (hW _ ?_);clear hW)|(simp (maxSteps:=999999)(disch:=omega) only [go_sem];and_intros;(all_goals first|(refine hK' _ ?_;clear hK' K')|trivial|omega|exact Nat.le_of_ble_eq_true rfl|exact aa|skip)))
    refine iT ?_
    have hl3:(L2 ++ [(⟨(i:Int),4,az m t.op res ms,dU u.acc,0,dU (bT m t.op (az m t.op res ms) u).acc⟩:Mic)]).length=n'+1:=by rw [List.length_append,hn2];rfl
    refine .inl ⟨tY [(1, .b (I x)),(2, .b (I y)),(3, .b (.c (.clo 66 [(1,0)]))),(4, .b (.c (.ptr 3 0))),(8, .b (.c (.ptr 6 0))),(9, .b (U m)),(11, .b (.c (.ptr 4 0))),(13, .b (.c (.own 7 (r.length)))),(38, .b (.c (.p (kq s.ops)))),(39, .b (I s.ops.length)),(40, .b (I i))] [(1, .fix [.own 2 (n'+1)]),(2, .arr 120 18 (n'+1) (bd cB (L2 ++ [(⟨(i:Int),4,az m t.op res ms,dU u.acc,0,dU (bT m t.op (az m t.op res ms) u).acc⟩:Mic)]))),(3, .fix ((aM s).map CV.p)),(4, .fix [.p (PU m), .own 5 (r.length+1)]),(5, .arr 201 23 (N) F),(6, .fix ((aH aG).map CV.p)),(7, .arr 29 12 (NO) g)] 8 kf, ?_, ?_⟩
    ·refine fx 2 [(1,some 1),(2,some 12),(3,some 3),(4,some 4),(5,some 5),(6,some 6),(7,some 7)] hkf ?_ ?_
     and_intros
     all_goals first|exact ao|skip
     all_goals exact .inr fun a ha j hj=>mE (iU (by omega) hn2 (ry L2)) a (by rw [hl3];exact ha) j hj
    repeat' (refine ai (fun K hK => ?_);and_intros;all_goals first|(refine hK _ ?_;clear hK K)|try exact aa)
    rw [ah]
    refine au (i+1,N,F,NO,g) ?_ ⟨by dsimp only;omega,by dsimp only;rw [hls];omega, ?_,by dsimp only;rw [hls];omega,by dsimp only;rw [nJ hk,hsk];exact hop.2⟩ (by dsimp only;omega)
    ·dsimp only
     rw [hls,htr2,← hL2,hl3]
     refine fx 2 [(1,some 1),(2,some 2),(3,some 3),(4,some 4),(5,some 5),(6,some 6),(7,some 7)] hkf ?_ ?_
     and_intros
     all_goals first|exact ao|skip
    ·dsimp only
     rw [hnx]
     exact ⟨hF1,dL (fun a ha j=>hF2 a ha j) hh.2.2⟩
 ·have hi2:i=s.ops.length:=by omega
  subst hi2
  have hg:decide (((s.ops.length:Nat):Int)<s.ops.length)=false:=decide_eq_false (by omega)
  have hl0:(bR s.ops s.ops.length).length=0:=by rw [W.fin];rfl
  rw [hl0] at hf hN ⊢
  have hre:=oQ m f t hf hm ha.v.head.v
  rw [hv t r e,hfin,hln]
  generalize bl t.acc t.back m=q at *
  repeat' (first|refine aj hg ?_|refine ak ?_|((first|refine ai (fun K hK => ?_)|refine ed (k:=5) (e:=201) hN hre (tE) ?_);and_intros;all_goals first|(refine hK _ ?_;clear hK K)|try exact aa)|(refine an ?_;(try clear hB KB);(try clear hK K)))
  refine ⟨tY [(8, .b (.c (.ptr 3 0)))] [(1, .fix [.own 2 nl]),(2, .arr 120 18 nl (bd cB gl)),(3, .fix ((aH q).map CV.p))] 4 kf, ?_, ?_⟩
  ·refine fx 2 [(1,some 1),(2,some 2),(3,some 6)] hkf ?_ ?_
   and_intros
   all_goals first|exact ao|skip
  ·refine ⟨?_, ?_, ?_,rfl,rfl, ?_⟩
   ·refine ⟨?_,trivial⟩
    show 0+_≤5
    decide +kernel
   ·rfl
   ·intro j y hj
    unfold aA at hj
    split at hj
    ·rename_i e1;subst e1;exact hj
    split at hj
    ·rename_i e1;subst e1;exact hj
    ·cases hj
   ·exact fun c hc=>by
     obtain ⟨x,_,rfl⟩:=List.mem_map.1 hc
     trivial
end Go.Proofs.YtmfblbbemekkoaaGreatDoor
