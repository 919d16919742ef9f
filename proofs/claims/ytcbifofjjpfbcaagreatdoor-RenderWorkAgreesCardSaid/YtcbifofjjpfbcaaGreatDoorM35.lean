/- Part of the proof: RD, RF, RH, N1. -/
import Derived.Test.YtcbifofjjpfbcaaGreatDoorM34
set_option linter.unusedSimpArgs false
set_option linter.unusedVariables false
set_option maxHeartbeats 8000000
set_option maxRecDepth 16000
namespace Go.Proofs.YtcbifofjjpfbcaaGreatDoor
open Go Go.SL
open Go.RowKit (wrap64)
attribute [local go_sem] Nat.add_zero kC Int.toNat_natCast bU
theorem Ce (bx : Nat → Option Bx) (nx : Nat) (s : Script) (V : VOps s) (hw : ∀ i, nx ≤ i → bx i = none) :
  nY Sg bx nx 40 [ag (aL s)] (.b (.c (.ptr (nx+1) 0))) (aN (nx+1) (.fix (kC s (bA s.bits) (ee s.ops.length (aR s.ops)) (.p (.val (.slice none 0 0))))) bx) (nx+2):=by
 have ht:True:=trivial
 have h1:aF Sg 68 [I s.bits] (fun x=>x = .tup [U (bA s.bits),B (decide (s.bits=8∨s.bits=16))]):=fv s.bits
 have h2:=uJ s V
 refine nQ Tryz.func40 rfl (rs:=[.tmp 2]) rfl rfl gp (by decide +kernel) (Nat.le_of_ble_eq_true rfl) ?_ (fun kf => ?_)
 ·intro v hv
  simp only [List.mem_cons,List.not_mem_nil,or_false] at hv
  rcases hv with rfl
  ·exact fun c hc=>by (obtain ⟨x,_,rfl⟩:=List.mem_map.1 hc;trivial)
 repeat' (first|with_reducible exact aK|refine ak ht ?_|refine an ?_|((first|refine aj (fun K hK => ?_)|refine aY ?_|refine ae (h1) ?_|refine aq (fun hg=>h1) ?_|refine ae (h2) ?_|refine aq (fun hg=>h2) ?_);and_intros;all_goals first|(refine hK _ ?_;clear hK K)|try exact aa)|((first|apply aC|apply ay);(case hf=>rfl);(case hc=>exact aS);(all_goals first|(intro hb;(try simp only [bZ] at hb))|skip))|exact ao|(refine aH (fun hb => ?_) (fun hb => ?_);all_goals try exact ax)|refine ar (fun KB hB => ?_)|(refine hB _ ?_;clear hB KB)|refine aA (S:=Sg) (by assumption) ?_|(refine ai ?_;(try clear hB KB);(try clear hK K)))
 refine ⟨ye (nx:=nx) hw ?_ (fun i hi h1 => ?_),by omega⟩
 ·(first|(simp (maxSteps:=999999)(disch:=omega) only [go_sem];done)|(simp (maxSteps:=999999)(disch:=omega) only [go_sem];rfl))
 ·simp (maxSteps:=999999)(disch:=omega) only [go_sem]
  exact if_neg (by omega)
theorem Bv {st : St} {K : SV → St → Prop} {q : Prop} (s : Script) (V : VOps s) (hk : q)
  (hwf:∀ i,st.nx≤i→st.bx i=none:=by (first|(intro iw hiw;(try simp (maxSteps:=999999)(disch:=omega) only [go_sem] at hiw ⊢);(repeat (refine Eq.trans (if_neg ?_) ?_;(focus omega)));(first|rfl|(apply_assumption;omega)))|fail))
  (wk:q→K (.b (.c (.ptr (st.nx+1) 0))) (st.turn (aN (st.nx+1) (.fix (kC s (bA s.bits) (ee s.ops.length (aR s.ops)) (.p (.val (.slice none 0 0))))) st.bx) (st.nx+2)):=by (first|(intro h;first|(simp (maxSteps:=999999)(disch:=omega) only [go_sem];exact h)|exact h)|fail)) :
  eB Sg st 40 [ag (aL s)] (Sl.of K):=by
 refine eO (Ce st.bx st.nx s V hwf) rfl (fun i hi => ?_) (by omega) (wk hk)
 unfold aN
 rw [if_neg (by omega)]
 exact hwf i (by omega)
theorem Dt {st : St} {K : SV → St → Prop} {q : Prop} (b k n0 N0 : Nat) (f0 : Nat → Nat → PV) (s : Script) (r : Rect) (m : Int)
  (hbk:b≠k) (hn0:n0≤N0) (hi:InR r s.canvas) (hc:Small s.canvas) (C:∀ x y,iO s.canvas x y→Pt s m x y) (hs:ScriptLen s) (hk:q)
  (hb:st.bx b=some (.fix (kC s m (ee s.ops.length (aR s.ops)) (.own k n0))):=by (first|(simp (maxSteps:=999999)(disch:=omega) only [go_sem];done)|(simp (maxSteps:=999999)(disch:=omega) only [go_sem];rfl)|rfl|fail)) (hkb:st.bx k=some (.arr 170 14 N0 f0):=by (first|(simp (maxSteps:=999999)(disch:=omega) only [go_sem];done)|(simp (maxSteps:=999999)(disch:=omega) only [go_sem];rfl)|rfl|fail)) (hbn:b<st.nx:=by (first|(simp (maxSteps:=999999)(disch:=omega) only [go_sem];done)|(simp (maxSteps:=999999)(disch:=omega) only [go_sem];omega)|fail)) (hkn:k<st.nx:=by (first|(simp (maxSteps:=999999)(disch:=omega) only [go_sem];done)|(simp (maxSteps:=999999)(disch:=omega) only [go_sem];omega)|fail))
  (hwf:∀ i,st.nx≤i→st.bx i=none:=by (first|(intro iw hiw;(try simp (maxSteps:=999999)(disch:=omega) only [go_sem] at hiw ⊢);(repeat (refine Eq.trans (if_neg ?_) ?_;(focus omega)));(first|rfl|(apply_assumption;omega)))|fail))
  (wk:q→K (.b (.c (.p (.lst 5 ((r.y1 - r.y0).toNat * (r.x1 - r.x0).toNat) (nZ aW (Hj s r)))))) (st.turn (aN b (.fix (kC s m (ee s.ops.length (aR s.ops)) (.own st.nx 1))) (aN st.nx (.arr 170 14 (qY s m r r.x0 (r.y1 - 1)) (fun _ _ => .any)) (di k st.bx))) (st.nx+1)):=by (first|(intro h;first|(simp (maxSteps:=999999)(disch:=omega) only [go_sem];exact h)|exact h)|fail)) :
  eB Sg st 42 [.c (.ptr b 0),ag (bc r)] (Sl.of K):=by
 refine eO (Fc st.bx st.nx b k n0 N0 f0 s r m hb hkb hbn hkn hbk hn0 hi hc C hs) rfl (fun i hi => ?_) (by omega) (wk hk)
 unfold aN di
 rw [if_neg (by omega),if_neg (by omega),if_neg (by omega)]
 exact hwf i (by omega)
end Go.Proofs.YtcbifofjjpfbcaaGreatDoor
set_option maxHeartbeats 8000000
set_option maxRecDepth 16000
namespace Go.Proofs.YtcbifofjjpfbcaaGreatDoor
open Go Go.SL
open Go.RowKit (wrap64)
attribute [local go_sem] Nat.add_zero kC Int.toNat_natCast bU zJ
theorem lM (s:Script) (E:EvOk s) (hc:(bQ s).1=0→Small s.canvas):aF Sg 13 [ag (aL s)] (fun r=>r = .tup [ag (bl (lg s)),I (bQ s).1,I (bQ s).2]):=by
 have ht:True:=trivial
 have h1:=oX s E.len (fun h=>⟨ij h,fun m hm=>(E.im h m hm).1⟩)
 by_cases h0:(bQ s).1=0
 ·obtain ⟨hf,V,hI,hm⟩:=E.zero h0
  have hF:FrOk s:=⟨hc h0,hf⟩
  have hce:=lv V hI
  have C:∀ x y,iO s.canvas x y→Pt s (bA s.bits) x y:=fun x y=>E.ptz h0
  have h2:=xl s hF E.len
  have hsm:=hF.c
  obtain ⟨x0,x1,y0,y1,hw,hh⟩:=id hsm
  obtain ⟨W,hW⟩:∃ W:Nat,(W:Int)=s.canvas.x1 - s.canvas.x0:=⟨(s.canvas.x1 - s.canvas.x0).toNat,by omega⟩
  obtain ⟨H,hH⟩:∃ H:Nat,(H:Int)=s.canvas.y1 - s.canvas.y0:=⟨(s.canvas.y1 - s.canvas.y0).toNat,by omega⟩
  have hb20:W * H≤20:=Nat.le_trans (Nat.mul_le_mul (show W≤5 by omega) (show H≤4 by omega)) (by decide)
  have eWH:(s.canvas.x1 - s.canvas.x0) * (s.canvas.y1 - s.canvas.y0)=((W * H:Nat):Int):=by rw [← hW,← hH,Int.natCast_mul]
  have hin:∀ i,i<(cU s).length→InR ((cU s).getD i default) s.canvas:=fun i hi=>by
   refine hF.mem ?_
   rw [List.getD_eq_getElem?_getD,List.getElem?_eq_getElem hi];exact List.getElem_mem _
  have h3:=Rd (s.canvas.x1 - s.canvas.x0) (s.canvas.y1 - s.canvas.y0) (jg s ((s.canvas.x1 - s.canvas.x0) * (s.canvas.y1 - s.canvas.y0)).toNat) (by rw [uN];rw [eWH];omega)
  have hr:lg s=eL s:=by unfold lg;rw [if_pos h0]
  rw [hr,hce]
  rw [hce] at h1
  unfold eL
  refine aI Tryz.func13 [.cell 2 43, .tmp 3, .tmp 4] ?_
  have hT20:(cU s).length≤20:=by
   have:=hF.len.1
   have:=hF.n
   omega
  repeat' (first|with_reducible exact aK|refine ak ht ?_|refine an ?_|((with_reducible refine cd (id:=8) (fun K hW => ?_));(try simp (maxSteps:=999999)(disch:=omega) only [go_sem]);and_intros;all_goals first|(refine hK _ ?_;clear hK K)|try exact aa)|((first|refine aj (fun K hK => ?_)|refine aY ?_|refine ae (h1) ?_|refine aq (fun hg=>h1) ?_|refine Bv s V ?_|refine ae (h2) ?_|refine aq (fun hg=>h2) ?_);and_intros;all_goals first|(refine hK _ ?_;clear hK K)|try exact aa)|((first|apply aC|apply ay);(case hf=>rfl);(case hc=>exact aS);(all_goals first|(intro hb;(try simp only [bZ] at hb))|skip))|exact ao|(refine aH (fun hb => ?_) (fun hb => ?_);all_goals try exact ax)|refine ar (fun KB hB => ?_)|(refine hB _ ?_;clear hB KB)|refine aA (S:=Sg) (by assumption) ?_|(refine ai ?_;(try clear hB KB);(try clear hK K)))
  obtain ⟨n,hn⟩:∃ n,n=((s.canvas.x1 - s.canvas.x0) * (s.canvas.y1 - s.canvas.y0)).toNat:=⟨_,rfl⟩
  have hnW:n=W * H:=by rw [hn,eWH];omega
  rw [← hn] at h3 ⊢
  have hend:∀ q,q<n→po s (cU s) q=PF s q:=fun q hq=>Kt hF (by rw [eWH];omega)
  generalize hT:cU s=T at *
  refine hW _ (bg [(2, .b (.c (.ptr 1 0))), (3, .b (I 0)), (4, .b (I 0)), (7, .b (.c (.ptr 2 0))), (8, .b (I (s.canvas.x1 - s.canvas.x0))), (9, .b (I (s.canvas.y1 - s.canvas.y0))), (10, .b (.c (.own 3 n))), (11, .b (.c (.ptr 4 0))), (49, .b (.c (.p (zJ T)))), (50, .b (I T.length)), (51, .b (I 0))]
    [(1, .fix (List.replicate 28 (.p .any))),(2, .fix ((bc s.canvas).map CV.p)),(3, .arr 37 5 n (nZ aW fun _=>ba)),(4, .fix (kC s (bA s.bits) (ee s.ops.length (aR s.ops)) (.own 5 0))),(5, .arr 170 14 0 fun _ _ => .any)] 6) ?_ ?_
  ·clear hW
   refine aE [(1,some 1),(2,some 2),(3,some 3),(4,some 5),(5,none)] ?_ ?_
   and_intros
   all_goals first|exact aw|skip
   refine .inr fun a ha j hj => ?_
   have hivl:j=0∨j=1∨j=2∨j=3∨j=4:=by omega
   rcases hivl with rfl|rfl|rfl|rfl|rfl <;> exact PV.le_refl _
  clear hW
  refine ig fun KB hV => ?_
  have tl:∀ st,Le st (bg [(2, .b (.c (.ptr 1 0))),(3, .b (I 0)),(4, .b (I 0)),(8, .b (I (s.canvas.x1 - s.canvas.x0))),(9, .b (I (s.canvas.y1 - s.canvas.y0))),(10, .b (.c (.p (sF (jg s n)))))] [(1, .fix (List.replicate 28 (.p .any)))] 2)→KB st:=fun st hl=>hV st _ hl ?_
  ·refine aM (X := Nat × Nat × Nat × (Nat → Nat → PV)) (fun z => bg [(2, .b (.c (.ptr 1 0))), (3, .b (I 0)), (4, .b (I 0)), (7, .b (.c (.ptr 2 0))), (8, .b (I (s.canvas.x1 - s.canvas.x0))), (9, .b (I (s.canvas.y1 - s.canvas.y0))), (10, .b (.c (.own 3 n))), (11, .b (.c (.ptr 4 0))), (49, .b (.c (.p (zJ T)))), (50, .b (I T.length)), (51, .b (I z.1))]
     [(1, .fix (List.replicate 28 (.p .any))),(2, .fix ((bc s.canvas).map CV.p)),(3, .arr 37 5 n (nZ aW (po s (T.take z.1)))),(4, .fix (kC s (bA s.bits) (ee s.ops.length (aR s.ops)) (.own 5 z.2.1))),(5, .arr 170 14 z.2.2.1 z.2.2.2)] 6)
    (fun z=>z.1≤T.length∧z.2.1≤z.2.2.1) (fun z=>T.length - z.1) (0,0,0,fun _ _ => .any) ?_ ?_ ?_
   ·exact ⟨Nat.zero_le _,Nat.le_refl _⟩
   ·dsimp only
    refine aE [(1,some 1),(2,some 2),(3,some 3),(4,some 4),(5,some 5)] ?_ ?_
    and_intros
    all_goals first|exact aw|skip
   rintro ⟨i,n2,N,f⟩ ⟨hi,hn2⟩
   dsimp only at hi hn2 ⊢
   rcases Nat.lt_or_ge i T.length with h|h
   ·have g1:decide ((i:Int)<T.length)=true:=decide_eq_true (by omega)
    have hti:=hin i h
    have hTk:T.take (i+1)=T.take i ++ [T.getD i default]:=by
     rw [List.take_add_one,List.getElem?_eq_getElem h,List.getD_eq_getElem?_getD,List.getElem?_eq_getElem h];rfl
    repeat' (first|with_reducible exact aK|refine ak g1 ?_|refine an ?_|((first|refine aj (fun K hK => ?_)|refine aY ?_|refine Dt 4 5 n2 N f s (T.getD i default) (bA s.bits) (by decide) hn2 hti hsm C E.len ?_);and_intros;all_goals first|(refine hK _ ?_;clear hK K)|try exact aa)|((first|apply aC|apply ay);(case hf=>rfl);(case hc=>exact aS);(all_goals first|(intro hb;(try simp only [bZ] at hb))|skip))|exact ao|(refine aH (fun hb => ?_) (fun hb => ?_);all_goals try exact ax)|refine ar (fun KB hB => ?_)|(refine hB _ ?_;clear hB KB)|refine aA (S:=Sg) (by assumption) ?_|(refine ai ?_;(try clear hB KB);(try clear hK K)))
    generalize T.getD i default=t at *
    obtain ⟨i1,i2,i3,i4,i5,i6⟩:=id hti
    obtain ⟨w,hwt⟩:∃ w:Nat,(w:Int)=t.x1 - t.x0:=⟨(t.x1 - t.x0).toNat,by omega⟩
    obtain ⟨ht',hht⟩:∃ ht':Nat,(ht':Int)=t.y1 - t.y0:=⟨(t.y1 - t.y0).toNat,by omega⟩
    have ew:(t.x1 - t.x0).toNat=w:=by omega
    have eh:(t.y1 - t.y0).toNat=ht':=by omega
    rw [ew,eh]
    refine aM (X := Nat) (fun a => bg [(2, .b (.c (.ptr 1 0))), (3, .b (I 0)), (4, .b (I 0)), (7, .b (.c (.ptr 2 0))), (8, .b (I (s.canvas.x1 - s.canvas.x0))), (9, .b (I (s.canvas.y1 - s.canvas.y0))), (10, .b (.c (.own 3 n))), (11, .b (.c (.ptr 4 0))), (49, .b (.c (.p (zJ T)))), (50, .b (I T.length)), (51, .b (I i)), (13, .b (.c (.ptr 6 0))), (14, .b (.c (.p (.lst 5 (ht' * w) (nZ aW (Hj s t)))))), (15, .b (I (t.x1 - t.x0))), (16, .b (I (t.y0 + a)))]
      [(1, .fix (List.replicate 28 (.p .any))),(2, .fix ((bc s.canvas).map CV.p)),(3, .arr 37 5 n (nZ aW (pC s (T.take i) t (t.y0+a)))),(4, .fix (kC s (bA s.bits) (ee s.ops.length (aR s.ops)) (.own 5 1))),(5, .arr 170 14 (qY s (bA s.bits) t t.x0 (t.y1 - 1)) (fun _ _ => .any)),(6, .fix ((bc t).map CV.p))] 7)
     (fun a=>a≤ht') (fun a=>ht' - a) 0 ?_ ?_ ?_
    ·exact Nat.zero_le _
    ·refine aE [(1,some 1),(2,some 2),(3,some 3),(4,some 4),(5,some 7),(6,some 6)] ?_ ?_
     and_intros
     all_goals first|exact aw|skip
     ·exact .inl (congrArg (fun z=>PV.val (Value.int IntKind.i64 z)) (by omega))
     ·exact .inl (by rw [show t.y0+((0:Nat):Int)=t.y0 by omega,DG])
    intro a ha
    rcases Nat.lt_or_ge a ht' with h5|h5
    ·have g2:decide (t.y0+(a:Int)<t.y1)=true:=decide_eq_true (by omega)
     obtain ⟨A,hA⟩:∃ A:Nat,(A:Int)=t.y0+a - s.canvas.y0:=⟨(t.y0+a - s.canvas.y0).toNat,by omega⟩
     have e1:(t.y0+(a:Int) - s.canvas.y0) * (s.canvas.x1 - s.canvas.x0)=((A * W:Nat):Int):=by rw [← hA,← hW,Int.natCast_mul]
     have e2:(t.y0+(a:Int) - t.y0) * (t.x1 - t.x0)=((a * w:Nat):Int):=by rw [show t.y0+(a:Int) - t.y0=a by omega,← hwt,Int.natCast_mul]
     have b1:A * W+W≤W * H:=by
      have:=Nat.mul_le_mul (show A+1≤H by omega) (Nat.le_refl W)
      rw [Nat.succ_mul,Nat.mul_comm H W] at this
      exact this
     have b2:a * w+w≤ht' * w:=by
      have:=Nat.mul_le_mul (show a+1≤ht' by omega) (Nat.le_refl w)
      rw [Nat.succ_mul] at this
      exact this
     have b3:ht' * w≤20:=Nat.le_trans (Nat.mul_le_mul (show ht'≤4 by omega) (show w≤5 by omega)) (by decide)
     have elo:((t.y0+(a:Int) - s.canvas.y0) * (s.canvas.x1 - s.canvas.x0)+t.x0 - s.canvas.x0).toNat=A * W+(t.x0 - s.canvas.x0).toNat:=by omega
     have ehi:((t.y0+(a:Int) - s.canvas.y0) * (s.canvas.x1 - s.canvas.x0)+t.x0 - s.canvas.x0+(t.x1 - t.x0)).toNat - (A * W+(t.x0 - s.canvas.x0).toNat)=w:=by omega
     have ek:((t.y0+(a:Int) - t.y0) * (t.x1 - t.x0)).toNat=a * w:=by omega
     have hcA:((A * W:Nat):Int)=A * W:=Int.natCast_mul ..
     have hrow:=fun q=>HK (s:=s) (L:=T.take i) (W:=W) (a:=A) (lo:=A * W+(t.x0 - s.canvas.x0).toNat) (n:=w) (y:=t.y0+a) hti hW ⟨by omega,by omega⟩ hA (by omega) hwt q
     have htr:=fun k hk=>HC (s:=s) (W:=W) (a:=A) (b:=a) (lo:=A * W+(t.x0 - s.canvas.x0).toNat) (n:=w) (k:=k) (y:=t.y0+a) hti hW ⟨by omega,by omega⟩ hA (by omega) (by omega) hwt hk
     repeat' (first|with_reducible exact aK|refine ak g2 ?_|refine an ?_|((first|refine aj (fun K hK => ?_)|refine aY ?_);and_intros;all_goals first|(refine hK _ ?_;clear hK K)|try exact aa)|((first|apply aC|apply ay);(case hf=>rfl);(case hc=>exact aS);(all_goals first|(intro hb;(try simp only [bZ] at hb))|skip))|exact ao|(refine aH (fun hb => ?_) (fun hb => ?_);all_goals try exact ax)|refine ar (fun KB hB => ?_)|(refine hB _ ?_;clear hB KB)|refine aA (S:=Sg) (by assumption) ?_|(refine ai ?_;(try clear hB KB);(try clear hK K)))
     rw [ah]
     refine au (a+1) ?_ (by omega) (by omega)
     refine aE [(1,some 1),(2,some 2),(3,some 3),(4,some 4),(5,some 5),(6,some 6)] ?_ ?_
     and_intros
     all_goals first|exact aw|skip
     ·exact .inl (congrArg (fun z=>PV.val (Value.int IntKind.i64 z)) (by omega))
     ·refine .inr fun q hq j hj => ?_
      show PV.le _ ((aW (pC s (T.take i) t (t.y0+((a+1:Nat):Int)) q)).getD j .any)
      rw [show t.y0+((a+1:Nat):Int)=t.y0+(a:Int)+1 by omega,hrow q,elo,ehi,ek]
      by_cases hc:A * W+(t.x0 - s.canvas.x0).toNat≤q∧q<A * W+(t.x0 - s.canvas.x0).toNat+w
      ·rw [if_pos hc,if_pos hc,htr _ (by omega),show A * W+(t.x0 - s.canvas.x0).toNat+(q - (A * W+(t.x0 - s.canvas.x0).toNat))=q by omega]
       exact PV.le_refl _
      ·rw [if_neg hc,if_neg hc]
       exact PV.le_refl _
    ·have g2:decide (t.y0+(a:Int)<t.y1)=false:=decide_eq_false (by omega)
     obtain rfl:a=ht':=by omega
     repeat' (first|with_reducible exact aK|refine ak g2 ?_|refine an ?_|((first|refine aj (fun K hK => ?_)|refine aY ?_);and_intros;all_goals first|(refine hK _ ?_;clear hK K)|try exact aa)|((first|apply aC|apply ay);(case hf=>rfl);(case hc=>exact aS);(all_goals first|(intro hb;(try simp only [bZ] at hb))|skip))|exact ao|(refine aH (fun hb => ?_) (fun hb => ?_);all_goals try exact ax)|refine ar (fun KB hB => ?_)|(refine hB _ ?_;clear hB KB)|refine aA (S:=Sg) (by assumption) ?_|(refine ai ?_;(try clear hB KB);(try clear hK K)))
     rw [ah]
     refine au (i+1,1,qY s (bA s.bits) t t.x0 (t.y1 - 1),fun _ _ => .any) ?_ ⟨by dsimp only;omega,Av⟩ (by dsimp only;omega)
     dsimp only
     refine aE [(1,some 1),(2,some 2),(3,some 3),(4,some 4),(5,some 5)] ?_ ?_
     and_intros
     all_goals first|exact aw|skip
     all_goals exact .inl (by rw [hTk,show t.y0+(a:Int)=t.y1 by omega,KH])
   ·have g1:decide ((i:Int)<T.length)=false:=decide_eq_false (by omega)
    obtain rfl:i=T.length:=by omega
    repeat' (first|with_reducible exact aK|refine ak g1 ?_|refine an ?_|((first|refine aj (fun K hK => ?_)|refine aY ?_);and_intros;all_goals first|(refine hK _ ?_;clear hK K)|try exact aa)|((first|apply aC|apply ay);(case hf=>rfl);(case hc=>exact aS);(all_goals first|(intro hb;(try simp only [bZ] at hb))|skip))|exact ao|(refine aH (fun hb => ?_) (fun hb => ?_);all_goals try exact ax)|refine ar (fun KB hB => ?_)|(refine hB _ ?_;clear hB KB)|refine aA (S:=Sg) (by assumption) ?_|(refine ai ?_;(try clear hB KB);(try clear hK K)))
    refine tl _ ?_
    refine aE [(1,some 1)] ?_ ?_
    and_intros
    all_goals first|exact aw|skip
    ·exact uN.symm
    ·intro a ha j hj
     show PV.le ((aW (po s (T.take T.length) a)).getD j .any) ((aW ((jg s n).getD a default)).getD j .any)
     rw [List.take_length,hend a ha,wi,pI ha]
     exact PV.le_refl _
  ·clear hV
   repeat' (first|with_reducible exact aK|refine ak ht ?_|refine an ?_|((first|refine aj (fun K hK => ?_)|refine aY ?_|refine ae (h3) ?_|refine aq (fun hg=>h3) ?_);and_intros;all_goals first|(refine hK _ ?_;clear hK K)|try exact aa)|((first|apply aC|apply ay);(case hf=>rfl);(case hc=>exact aS);(all_goals first|(intro hb;(try simp only [bZ] at hb))|skip))|exact ao|(refine aH (fun hb => ?_) (fun hb => ?_);all_goals try exact ax)|refine ar (fun KB hB => ?_)|(refine hB _ ?_;clear hB KB)|refine aA (S:=Sg) (by assumption) ?_|(refine ai ?_;(try clear hB KB);(try clear hK K)))
   subst hn
   rfl
 ·have g0:((bQ s).1 != 0)=true:=bne_iff_ne.2 h0
  have hr:lg s=jY:=by unfold lg;rw [if_neg h0]
  rw [hr]
  refine fV ?_
  refine aI Tryz.func13 [.cell 2 43, .tmp 3, .tmp 4] ?_
  repeat' (first|with_reducible exact aK|refine ak g0 ?_|refine an ?_|((first|refine aj (fun K hK => ?_)|refine aY ?_|refine ae (h1) ?_|refine aq (fun hg=>h1) ?_);and_intros;all_goals first|(refine hK _ ?_;clear hK K)|try exact aa)|((first|apply aC|apply ay);(case hf=>rfl);(case hc=>exact aS);(all_goals first|(intro hb;(try simp only [bZ] at hb))|skip))|exact ao|(refine aH (fun hb => ?_) (fun hb => ?_);all_goals try exact ax)|refine ar (fun KB hB => ?_)|(refine hB _ ?_;clear hB KB)|refine aA (S:=Sg) (by assumption) ?_|(refine ai ?_;(try clear hB KB);(try clear hK K)))
  refine fe ⟨lS ?_,ej trivial,ej trivial,trivial⟩
  simp only [List.map_cons,List.map_nil,gm,jR]
  and_intros
  all_goals first|exact .inl rfl|exact .inl trivial|exact .inr fq|trivial|skip
end Go.Proofs.YtcbifofjjpfbcaaGreatDoor
set_option maxHeartbeats 8000000
set_option maxRecDepth 16000
namespace Go.Proofs.YtcbifofjjpfbcaaGreatDoor
open Go Go.SL
open Go.RowKit (wrap64)
def sB:Script := { bits:=8,canvas:=⟨0,0,2,1⟩,tileW:=1,tileH:=1,order:=[],images:=[XL],ops:=[] }
theorem RT:EvOk sB:=⟨⟨by decide,by decide,by decide⟩,fun o ho=>(by cases ho),fun _ m hm=>by rw [List.mem_singleton.1 hm];exact ⟨.inr (.inr rfl),by decide,by decide,by decide⟩⟩
theorem TH:bQ sB=(0,0)∧bQ CD=(0,0)∧dH sB 1 0=ba∧dH CD 1 0=Uz∧dH CD 0 0=ba:=by decide +kernel
theorem kY:Small (⟨0,0,2,1⟩:Rect):=⟨by decide,by decide,by decide,by decide,by decide,by decide⟩
theorem oH:aF Sg 15 [] (fun r=>r = .b (B true)):=by
 have ht:True:=trivial
 obtain ⟨e1,e2,e3,e4,e5⟩:=TH
 have h1:=lM sB RT (fun _=>kY)
 have h2:=lM CD Va (fun _=>kY)
 have r1:lg sB=mq sB ⟨0,0,2,1⟩:=by unfold lg;rw [e1,if_pos rfl];rfl
 have r2:lg CD=mq CD ⟨0,0,2,1⟩:=by unfold lg;rw [e2,if_pos rfl];rfl
 rw [r1,e1] at h1
 rw [r2,e2] at h2
 have a1:=sU (s:=sB) kY (x:=1) (y:=0) (by unfold iO;decide)
 have a2:=sU (s:=CD) kY (x:=1) (y:=0) (by unfold iO;decide)
 have a3:=sU (s:=CD) kY (x:=0) (y:=0) (by unfold iO;decide)
 have w1:=OQ (s:=sB) kY
 rw [e3] at a1
 rw [e4] at a2
 rw [e5] at a3
 have q1:=EC (mq sB ⟨0,0,2,1⟩) 1 0
 have q2:=EC (mq CD ⟨0,0,2,1⟩) 1 0
 have q3:=EC (mq CD ⟨0,0,2,1⟩) 0 0
 rw [show cu (mq sB ⟨0,0,2,1⟩) 1 0=ba from a1] at q1
 rw [show cu (mq CD ⟨0,0,2,1⟩) 1 0=Uz from a2] at q2
 rw [show cu (mq CD ⟨0,0,2,1⟩) 0 0=ba from a3] at q3
 obtain ⟨w1,w2⟩:=w1
 generalize mq sB ⟨0,0,2,1⟩=M at *
 generalize mq CD ⟨0,0,2,1⟩=N at *
 have w1:M.w=2:=w1
 have w2:M.h=1:=w2
 refine aI Tryz.func15 [.tmp 0] ?_
 repeat' (first|with_reducible exact aK|refine an ?_|((with_reducible refine cd (id:=2) (fun K hW => ?_));(try simp (maxSteps:=999999)(disch:=omega) only [go_sem]);and_intros;all_goals first|(refine hK _ ?_;clear hK K)|try exact aa)|((first|refine aj (fun K hK => ?_)|refine aY ?_);and_intros;all_goals first|(refine hK _ ?_;clear hK K)|try exact aa)|((first|apply aC|apply ay);(case hf=>rfl);(case hc=>exact aS);(all_goals first|(intro hb;(try simp only [bZ] at hb))|skip))|exact ao|(refine aH (fun hb => ?_) (fun hb => ?_);all_goals try exact ax)|refine ar (fun KB hB => ?_)|(refine hB _ ?_;clear hB KB)|refine aA (S:=Sg) (by assumption) ?_|(refine ai ?_;(try clear hB KB);(try clear hK K)))
 refine hW _ (bg [(0, .b (B false)),(1, .b (.c (.ptr 0 0))),(2, .b (.c (.ptr 1 0)))] [(0, .fix ((aW Uz).map CV.p)),(1, .fix ((aL sB).map CV.p))] 2) ?_ ?_
 ·refine aE [(1,some 2)] ?_ ?_
  and_intros
  all_goals first|exact aw|skip
  ·exact fq
  ·intro i hi j hj
   obtain rfl:i=0:=by omega
   have hivl:j=0∨j=1∨j=2∨j=3∨j=4∨j=5∨j=6∨j=7∨j=8∨j=9∨j=10∨j=11∨j=12∨j=13∨j=14∨j=15∨j=16∨j=17∨j=18∨j=19∨j=20∨j=21∨j=22∨j=23∨j=24∨j=25∨j=26∨j=27:=by omega
   rcases hivl with rfl|rfl|rfl|rfl|rfl|rfl|rfl|rfl|rfl|rfl|rfl|rfl|rfl|rfl|rfl|rfl|rfl|rfl|rfl|rfl|rfl|rfl|rfl|rfl|rfl|rfl|rfl|rfl <;> (first|exact PV.le_refl _|exact fq)
  ·exact fq
 clear hW
 repeat' (first|with_reducible exact aK|refine ak ht ?_|refine an ?_|((with_reducible refine cd (id:=4) (fun K hW => ?_));(try simp (maxSteps:=999999)(disch:=omega) only [go_sem]);and_intros;all_goals first|(refine hK _ ?_;clear hK K)|try exact aa)|((first|refine aj (fun K hK => ?_)|refine aY ?_|refine ae (h1) ?_|refine aq (fun hg=>h1) ?_);and_intros;all_goals first|(refine hK _ ?_;clear hK K)|try exact aa)|((first|apply aC|apply ay);(case hf=>rfl);(case hc=>exact aS);(all_goals first|(intro hb;(try simp only [bZ] at hb))|skip))|exact ao|(refine aH (fun hb => ?_) (fun hb => ?_);all_goals try exact ax)|refine ar (fun KB hB => ?_)|(refine hB _ ?_;clear hB KB)|refine aA (S:=Sg) (by assumption) ?_|(refine ai ?_;(try clear hB KB);(try clear hK K)))
 refine hW _ (bg [(0, .b (B false)),(1, .b (.c (.ptr 0 0))),(2, .b (.c (.ptr 1 0))),(3, .b (.c (.ptr 2 0))),(4, .b (I 0))] [(0, .fix ((aW Uz).map CV.p)),(1, .fix ((aL CD).map CV.p)),(2, .fix ((bl M).map CV.p))] 3) ?_ ?_
 ·refine aE [(1,some 1),(2,some 2)] ?_ ?_
  and_intros
  all_goals first|exact aw|skip
  intro i hi j hj
  obtain rfl:i=0:=by omega
  have hivl:j=0∨j=1∨j=2∨j=3∨j=4∨j=5∨j=6∨j=7∨j=8∨j=9∨j=10∨j=11:=by omega
  rcases hivl with rfl|rfl|rfl|rfl|rfl|rfl|rfl|rfl|rfl|rfl|rfl|rfl <;> exact PV.le_refl _
 clear hW
 repeat' (first|with_reducible exact aK|refine ak ht ?_|refine an ?_|((first|refine aj (fun K hK => ?_)|refine aY ?_|refine ae (h2) ?_|refine aq (fun hg=>h2) ?_|refine ae (q1) ?_|refine aq (fun hg=>q1) ?_|refine ae (q2) ?_|refine aq (fun hg=>q2) ?_|refine ae (q3) ?_|refine aq (fun hg=>q3) ?_);and_intros;all_goals first|(refine hK _ ?_;clear hK K)|try exact aa)|((first|apply aC|apply ay);(case hf=>rfl);(case hc=>exact aS);(all_goals first|(intro hb;(try simp only [bZ] at hb))|skip))|exact ao|(refine aH (fun hb => ?_) (fun hb => ?_);all_goals try exact ax)|refine ar (fun KB hB => ?_)|(refine hB _ ?_;clear hB KB)|refine aA (S:=Sg) (by assumption) ?_|(refine ai ?_;(try clear hB KB);(try clear hK K)))
 rw [w1,w2]
 rfl
end Go.Proofs.YtcbifofjjpfbcaaGreatDoor
set_option maxHeartbeats 4000000
set_option maxRecDepth 16000
namespace Go.Proofs.YtcbifofjjpfbcaaGreatDoor
open Go Go.SL
open Go.RowKit (wrap64)
attribute [local go_sem] Int.toNat_natCast
theorem Of.small' {c:Scene} {s:Script} (h:Of c s):(bQ s).1=0→Small s.canvas:=fun _=>h.small
theorem Of.zero {c:Scene} {s:Script} (h:Of c s):bQ s=(0,0):=lv h.V h.im
theorem Of.rend {c:Scene} {s:Script} (h:Of c s):aF Sg 13 [ag (aL s)] (fun r=>r = .tup [ag (bl (eL s)),I 0,I 0]):=by
 have:=lM s h.ev h.small'
 rw [h.zero] at this
 have e:lg s=eL s:=by unfold lg;rw [h.zero,if_pos rfl]
 rw [e] at this
 exact this
end Go.Proofs.YtcbifofjjpfbcaaGreatDoor
