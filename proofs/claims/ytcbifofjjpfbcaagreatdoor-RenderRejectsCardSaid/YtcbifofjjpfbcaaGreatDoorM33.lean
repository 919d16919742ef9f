/- Part of the proof: RF, RG, RI. -/
import Derived.Test.YtcbifofjjpfbcaaGreatDoorM32
set_option linter.unusedSimpArgs false
set_option linter.unusedVariables false
set_option maxHeartbeats 8000000
set_option maxRecDepth 16000
namespace Go.Proofs.YtcbifofjjpfbcaaGreatDoor
open Go Go.SL
open Go.RowKit (wrap64)
section
attribute [local go_sem] Nat.add_zero lq Int.toNat_natCast cA Co
theorem ju (s:Script) (E:EvOk s) (hc:(aW s).1=0→Small s.canvas):aA Sg 13 [ag (aF s)] (fun r=>r = .tup [ag (aI (ga s)),I (aW s).1,I (aW s).2]):=by
 have ht:True:=trivial;have h1:=qB s E.len (fun h=>⟨gC h,fun m hm=>(E.im h m hm).1⟩);by_cases h0:(aW s).1=0
 ·obtain ⟨hf,V,hI,hm⟩:=E.zero h0;have hF:FrOk s:=⟨hc h0,hf⟩
  have hce:=mM V hI;have C:∀ x y,ic s.canvas x y→Pt s (bg s.bits) x y:=fun x y=>E.ptz h0;have h2:=yG s hF E.len;have hsm:=hF.c;obtain ⟨x0,x1,y0,y1,hw,hh⟩:=id hsm;obtain ⟨W,hW⟩:∃ W:Nat,(W:Int)=s.canvas.x1 - s.canvas.x0:=⟨(s.canvas.x1 - s.canvas.x0).toNat,by omega⟩
  obtain ⟨H,hH⟩:∃ H:Nat,(H:Int)=s.canvas.y1 - s.canvas.y0:=⟨(s.canvas.y1 - s.canvas.y0).toNat,by omega⟩
  have hb20:W * H≤20:=Nat.le_trans (Nat.mul_le_mul (show W≤5 by omega) (show H≤4 by omega)) (by decide);have eWH:(s.canvas.x1 - s.canvas.x0) * (s.canvas.y1 - s.canvas.y0)=((W * H:Nat):Int):=by rw [← hW,← hH,Int.natCast_mul]
  have hin:∀ i,i<(er s).length→InR ((er s).getD i default) s.canvas:=fun i hi=>by
   refine hF.mem ?_;rw [List.getD_eq_getElem?_getD,List.getElem?_eq_getElem hi];exact List.getElem_mem _
  have h3:=Mn (s.canvas.x1 - s.canvas.x0) (s.canvas.y1 - s.canvas.y0) (dI s ((s.canvas.x1 - s.canvas.x0) * (s.canvas.y1 - s.canvas.y0)).toNat) (by rw [jo];rw [eWH];omega);have hr:ga s=cN s:=by unfold ga;rw [if_pos h0]
  rw [hr,hce];rw [hce] at h1;unfold cN;refine aD Tryz.func13 [.cell 2 43, .tmp 3, .tmp 4] ?_;have hT20:(er s).length≤20:=by
   have:=hF.len.1;have:=hF.n;omega
  repeat' (first|refine ah ht ?_|refine ax ?_|((with_reducible refine bN (id:=8) (fun K hW => ?_));(try simp (maxSteps:=999999)(disch:=omega) only [go_sem]);and_intros;all_goals first|(refine hK _ ?_;clear hK K)|try exact ai)|refine an (fun K hK => ?_)|refine aa (h1) ?_|refine CK s V ?_|refine aa (h2) ?_|(refine aq hK ?_;try clear hK K))
  obtain ⟨n,hn⟩:∃ n,n=((s.canvas.x1 - s.canvas.x0) * (s.canvas.y1 - s.canvas.y0)).toNat:=⟨_,rfl⟩
  have hnW:n=W * H:=by rw [hn,eWH];omega
  rw [← hn] at h3 ⊢;have hend:∀ q,q<n→rz s (er s) q=HR s q:=fun q hq=>Mi hF (by rw [eWH];omega);generalize hT:er s=T at *
  refine hW _ (aT [(2, .b (.c (.ptr 1 0))), (3, .b (I 0)), (4, .b (I 0)), (7, .b (.c (.ptr 2 0))), (8, .b (I (s.canvas.x1 - s.canvas.x0))), (9, .b (I (s.canvas.y1 - s.canvas.y0))), (10, .b (.c (.own 3 n))), (11, .b (.c (.ptr 4 0))), (49, .b (.c (.p (Co T)))), (50, .b (I T.length)), (51, .b (I 0))]
    [(1, .fix (List.replicate 28 (.p .any))),(2, .fix ((aQ s.canvas).map CV.p)),(3, .arr 37 5 n (oq aS fun _=>bQ)),(4, .fix (lq s (bg s.bits) (eR s.ops.length (aN s.ops)) (.own 5 0))),(5, .arr 170 14 0 fun _ _ => .any)] 6) ?_ ?_
  ·clear hW;refine au [(1,some 1),(2,some 2),(3,some 3),(4,some 5),(5,none)] ?_ ?_;and_intros;all_goals try exact aj
   refine .inr fun a ha j hj => ?_;have hivl:j=0∨j=1∨j=2∨j=3∨j=4:=by omega
   rcases hivl with rfl|rfl|rfl|rfl|rfl <;> exact PV.le_refl _
  clear hW;refine eO fun KB hV => ?_;have tl:∀ st,Le st (aT [(2, .b (.c (.ptr 1 0))),(3, .b (I 0)),(4, .b (I 0)),(8, .b (I (s.canvas.x1 - s.canvas.x0))),(9, .b (I (s.canvas.y1 - s.canvas.y0))),(10, .b (.c (.p (pX (dI s n)))))] [(1, .fix (List.replicate 28 (.p .any)))] 2)→KB st:=fun st hl=>hV st _ hl ?_
  ·refine aH (X := Nat × Nat × Nat × (Nat → Nat → PV)) (fun z => aT [(2, .b (.c (.ptr 1 0))), (3, .b (I 0)), (4, .b (I 0)), (7, .b (.c (.ptr 2 0))), (8, .b (I (s.canvas.x1 - s.canvas.x0))), (9, .b (I (s.canvas.y1 - s.canvas.y0))), (10, .b (.c (.own 3 n))), (11, .b (.c (.ptr 4 0))), (49, .b (.c (.p (Co T)))), (50, .b (I T.length)), (51, .b (I z.1))]
     [(1, .fix (List.replicate 28 (.p .any))),(2, .fix ((aQ s.canvas).map CV.p)),(3, .arr 37 5 n (oq aS (rz s (T.take z.1)))),(4, .fix (lq s (bg s.bits) (eR s.ops.length (aN s.ops)) (.own 5 z.2.1))),(5, .arr 170 14 z.2.2.1 z.2.2.2)] 6)
    (fun z=>z.1≤T.length∧z.2.1≤z.2.2.1) (fun z=>T.length - z.1) (0,0,0,fun _ _ => .any) ?_ ?_ ?_
   ·exact ⟨Nat.zero_le _,Nat.le_refl _⟩
   ·dsimp only;refine au [(1,some 1),(2,some 2),(3,some 3),(4,some 4),(5,some 5)] ?_ ?_;and_intros;all_goals try exact aj
   rintro ⟨i,n2,N,f⟩ ⟨hi,hn2⟩;dsimp only at hi hn2 ⊢;rcases Nat.lt_or_ge i T.length with h|h
   ·have g1:decide ((i:Int)<T.length)=true:=decide_eq_true (by omega);have hti:=hin i h;have hTk:T.take (i+1)=T.take i ++ [T.getD i default]:=by rw [List.take_add_one,List.getElem?_eq_getElem h,List.getD_eq_getElem?_getD,List.getElem?_eq_getElem h];rfl
    repeat' (first|refine ah g1 ?_|refine ax ?_|refine an (fun K hK => ?_)|refine pY 4 5 n2 N f s (T.getD i default) (bg s.bits) (by decide) hn2 hti hsm C E.len ?_|(refine aq hK ?_;try clear hK K))
    generalize T.getD i default=t at *
    obtain ⟨i1,i2,i3,i4,i5,i6⟩:=id hti;obtain ⟨w,hwt⟩:∃ w:Nat,(w:Int)=t.x1 - t.x0:=⟨(t.x1 - t.x0).toNat,by omega⟩
    obtain ⟨ht',hht⟩:∃ ht':Nat,(ht':Int)=t.y1 - t.y0:=⟨(t.y1 - t.y0).toNat,by omega⟩
    have ew:(t.x1 - t.x0).toNat=w:=by omega
    have eh:(t.y1 - t.y0).toNat=ht':=by omega
    rw [ew,eh]
    refine aH (X := Nat) (fun a => aT [(2, .b (.c (.ptr 1 0))), (3, .b (I 0)), (4, .b (I 0)), (7, .b (.c (.ptr 2 0))), (8, .b (I (s.canvas.x1 - s.canvas.x0))), (9, .b (I (s.canvas.y1 - s.canvas.y0))), (10, .b (.c (.own 3 n))), (11, .b (.c (.ptr 4 0))), (49, .b (.c (.p (Co T)))), (50, .b (I T.length)), (51, .b (I i)), (13, .b (.c (.ptr 6 0))), (14, .b (.c (.p (.lst 5 (ht' * w) (oq aS (zJ s t)))))), (15, .b (I (t.x1 - t.x0))), (16, .b (I (t.y0 + a)))]
      [(1, .fix (List.replicate 28 (.p .any))),(2, .fix ((aQ s.canvas).map CV.p)),(3, .arr 37 5 n (oq aS (ru s (T.take i) t (t.y0+a)))),(4, .fix (lq s (bg s.bits) (eR s.ops.length (aN s.ops)) (.own 5 1))),(5, .arr 170 14 (tc s (bg s.bits) t t.x0 (t.y1 - 1)) (fun _ _ => .any)),(6, .fix ((aQ t).map CV.p))] 7)
     (fun a=>a≤ht') (fun a=>ht' - a) 0 ?_ ?_ ?_
    ·exact Nat.zero_le _
    ·refine au [(1,some 1),(2,some 2),(3,some 3),(4,some 4),(5,some 7),(6,some 6)] ?_ ?_;and_intros;all_goals try exact aj
     ·exact .inl (congrArg (fun z=>PV.val (Value.int IntKind.i64 z)) (by omega))
     ·exact .inl (by rw [show t.y0+((0:Nat):Int)=t.y0 by omega,Eg])
    intro a ha;rcases Nat.lt_or_ge a ht' with h5|h5
    ·have g2:decide (t.y0+(a:Int)<t.y1)=true:=decide_eq_true (by omega);obtain ⟨A,hA⟩:∃ A:Nat,(A:Int)=t.y0+a - s.canvas.y0:=⟨(t.y0+a - s.canvas.y0).toNat,by omega⟩
     have e1:(t.y0+(a:Int) - s.canvas.y0) * (s.canvas.x1 - s.canvas.x0)=((A * W:Nat):Int):=by rw [← hA,← hW,Int.natCast_mul]
     have e2:(t.y0+(a:Int) - t.y0) * (t.x1 - t.x0)=((a * w:Nat):Int):=by rw [show t.y0+(a:Int) - t.y0=a by omega,← hwt,Int.natCast_mul]
     have b1:A * W+W≤W * H:=by
      have:=Nat.mul_le_mul (show A+1≤H by omega) (Nat.le_refl W);rw [Nat.succ_mul,Nat.mul_comm H W] at this;exact this
     have b2:a * w+w≤ht' * w:=by
      have:=Nat.mul_le_mul (show a+1≤ht' by omega) (Nat.le_refl w);rw [Nat.succ_mul] at this;exact this
     have b3:ht' * w≤20:=Nat.le_trans (Nat.mul_le_mul (show ht'≤4 by omega) (show w≤5 by omega)) (by decide);have elo:((t.y0+(a:Int) - s.canvas.y0) * (s.canvas.x1 - s.canvas.x0)+t.x0 - s.canvas.x0).toNat=A * W+(t.x0 - s.canvas.x0).toNat:=by omega
     have ehi:((t.y0+(a:Int) - s.canvas.y0) * (s.canvas.x1 - s.canvas.x0)+t.x0 - s.canvas.x0+(t.x1 - t.x0)).toNat - (A * W+(t.x0 - s.canvas.x0).toNat)=w:=by omega
     have ek:((t.y0+(a:Int) - t.y0) * (t.x1 - t.x0)).toNat=a * w:=by omega
     have hcA:((A * W:Nat):Int)=A * W:=Int.natCast_mul ..;have hrow:=fun q=>LQ (s:=s) (L:=T.take i) (W:=W) (a:=A) (lo:=A * W+(t.x0 - s.canvas.x0).toNat) (n:=w) (y:=t.y0+a) hti hW ⟨by omega,by omega⟩ hA (by omega) hwt q;have htr:=fun k hk=>Kh (s:=s) (W:=W) (a:=A) (b:=a) (lo:=A * W+(t.x0 - s.canvas.x0).toNat) (n:=w) (k:=k) (y:=t.y0+a) hti hW ⟨by omega,by omega⟩ hA (by omega) (by omega) hwt hk;repeat' (first|refine ah g2 ?_|refine aC ?_)
     rw [ae];refine ak (a+1) ?_ (by omega) (by omega);refine au [(1,some 1),(2,some 2),(3,some 3),(4,some 4),(5,some 5),(6,some 6)] ?_ ?_;and_intros;all_goals try exact aj
     ·exact .inl (congrArg (fun z=>PV.val (Value.int IntKind.i64 z)) (by omega))
     ·refine .inr fun q hq j hj => ?_;show PV.le _ ((aS (ru s (T.take i) t (t.y0+((a+1:Nat):Int)) q)).getD j .any);rw [show t.y0+((a+1:Nat):Int)=t.y0+(a:Int)+1 by omega,hrow q,elo,ehi,ek];by_cases hc:A * W+(t.x0 - s.canvas.x0).toNat≤q∧q<A * W+(t.x0 - s.canvas.x0).toNat+w
      ·rw [if_pos hc,if_pos hc,htr _ (by omega),show A * W+(t.x0 - s.canvas.x0).toNat+(q - (A * W+(t.x0 - s.canvas.x0).toNat))=q by omega];exact PV.le_refl _
      ·rw [if_neg hc,if_neg hc];exact PV.le_refl _
    ·have g2:decide (t.y0+(a:Int)<t.y1)=false:=decide_eq_false (by omega);obtain rfl:a=ht':=by omega
     repeat' (first|refine ah g2 ?_|refine aC ?_)
     rw [ae];refine ak (i+1,1,tc s (bg s.bits) t t.x0 (t.y1 - 1),fun _ _ => .any) ?_ ⟨by dsimp only;omega,Dj⟩ (by dsimp only;omega);dsimp only;refine au [(1,some 1),(2,some 2),(3,some 3),(4,some 4),(5,some 5)] ?_ ?_;and_intros;all_goals try exact aj
     all_goals exact .inl (by rw [hTk,show t.y0+(a:Int)=t.y1 by omega,ME])
   ·have g1:decide ((i:Int)<T.length)=false:=decide_eq_false (by omega);obtain rfl:i=T.length:=by omega
    repeat' (first|refine ah g1 ?_|refine aC ?_)
    refine tl _ ?_;refine au [(1,some 1)] ?_ ?_;and_intros;all_goals try exact aj
    ·exact jo.symm
    ·intro a ha j hj;show PV.le ((aS (rz s (T.take T.length) a)).getD j .any) ((aS ((dI s n).getD a default)).getD j .any);rw [List.take_length,hend a ha,xU,nt ha];exact PV.le_refl _
  ·clear hV;repeat' (first|refine an (fun K hK => ?_)|refine aa (h3) ?_|refine ax ?_|(refine aq hK ?_;try clear hK K))
   subst hn;rfl
 ·have g0:((aW s).1 != 0)=true:=bne_iff_ne.2 h0;have hr:ga s=fB:=by unfold ga;rw [if_neg h0]
  rw [hr];refine dY ?_;refine aD Tryz.func13 [.cell 2 43, .tmp 3, .tmp 4] ?_;repeat' (first|refine ah g0 ?_|refine ax ?_|refine an (fun K hK => ?_)|refine aa (h1) ?_|(refine aq hK ?_;try clear hK K))
  refine dq ⟨gj ?_,cX trivial,cX trivial,trivial⟩;simp only [List.map_cons,List.map_nil,dF,fx];and_intros;all_goals first|exact .inl rfl|exact .inl trivial|exact .inr ed|trivial|skip
end
section
attribute [local go_sem] Int.toNat_natCast
theorem CP (s : Script) (r : Rect) (hs : ScriptLen s) (hr : Small r) (hP : ∀ x y, ic r x y → ∃ m, Pt s m x y) :
  aA Sg 38 [ag (aF s),ag (aQ r)] (fun q=>q = .b (.c (.p (pX (bC s r ((r.x1 - r.x0) * (r.y1 - r.y0)).toNat))))):=by
 obtain ⟨x0,x1,y0,y1,hw,hh⟩:=hr;have ht:True:=trivial;obtain ⟨W,hW⟩:∃ W:Nat,(W:Int)=r.x1 - r.x0:=⟨(r.x1 - r.x0).toNat,by omega⟩
 obtain ⟨H,hH⟩:∃ H:Nat,(H:Int)=r.y1 - r.y0:=⟨(r.y1 - r.y0).toNat,by omega⟩
 have eWH:((r.x1 - r.x0) * (r.y1 - r.y0)).toNat=H * W:=by rw [← hW,← hH,← Int.natCast_mul,Int.toNat_natCast,Nat.mul_comm]
 have eW:(r.x1 - r.x0).toNat=W:=by omega
 have hle:∀ a,a≤H→a * W≤20:=fun a ha=>Nat.le_trans (Nat.mul_le_mul ha (Nat.le_refl W)) (Nat.le_trans (Nat.mul_le_mul (show H≤4 by omega) (show W≤5 by omega)) (by decide));have hval:∀ a k,a<H→k<W→aA Sg 66 [ag (aF s),I (r.x0+(k:Nat)),I (r.y0+(a:Nat))] (fun q=>q = .b (ag (aS (zJ s r (a * W+k))))):=fun a k ha hk=>by
  obtain ⟨m,C⟩:=hP (r.x0+k) (r.y0+a) (by unfold ic;omega);have e1:(a * W+k) % W=k:=by rw [Nat.mul_comm,Nat.mul_add_mod];exact Nat.mod_eq_of_lt hk
  have e2:(a * W+k) / W=a:=by rw [Nat.mul_comm,Nat.mul_add_div (by omega),Nat.div_eq_of_lt hk];omega
  have:=xe s _ _ m C hs ⟨by omega,by omega⟩ ⟨by omega,by omega⟩;unfold zJ;rw [eW,e1,e2];exact this
 rw [eWH];refine aD Tryz.func38 [.tmp 4] ?_;repeat' (refine aC ?_)
 refine aH (X:=Nat) (fun a=>aT [(2, .b (.c (.ptr 0 0))),(3, .b (.c (.ptr 1 0))),(5, .b (.c (.own 2 (a * W)))),(6, .b (I (r.y0+a)))] [(0, .fix ((aF s).map CV.p)),(1, .fix ((aQ r).map CV.p)),(2, .arr 37 5 (a * W) (bK aS (bC s r (a * W))))] 3) (fun a=>a≤H) (fun a=>H - a) 0 ?_ ?_ ?_
 ·exact Nat.zero_le _
 ·refine au [(1,some 1),(2,none)] ?_ ?_;and_intros;all_goals try exact aj
  all_goals exact .inl (congrArg (fun z=>PV.val (Value.int IntKind.i64 z)) (by omega))
 intro a haH;rcases Nat.lt_or_ge a H with ha|ha
 ·have g1:decide (r.y0+(a:Int)<r.y1)=true:=decide_eq_true (by omega);repeat' (first|refine ah g1 ?_|refine aC ?_)
  refine aH (X:=Nat) (fun k=>aT [(2, .b (.c (.ptr 0 0))),(3, .b (.c (.ptr 1 0))),(5, .b (.c (.own 2 (a * W+k)))),(6, .b (I (r.y0+a))),(7, .b (I (r.x0+k)))] [(0, .fix ((aF s).map CV.p)),(1, .fix ((aQ r).map CV.p)),(2, .arr 37 5 (a * W+k) (bK aS (bC s r (a * W+k))))] 3) (fun k=>k≤W) (fun k=>W - k) 0 ?_ ?_ ?_
  ·exact Nat.zero_le _
  ·refine au [(1,some 1),(2,some 2)] ?_ ?_;and_intros;all_goals try exact aj
   all_goals exact .inl (congrArg (fun z=>PV.val (Value.int IntKind.i64 z)) (by omega))
  intro k hkW;have hb1:=hle (a+1) (by omega);rw [Nat.succ_mul] at hb1;rcases Nat.lt_or_ge k W with hk|hk
  ·have g2:decide (r.x0+(k:Int)<r.x1)=true:=decide_eq_true (by omega);have hv:=hval a k ha hk;generalize hq:zJ s r (a * W+k)=q at *
   repeat' (first|refine ah g2 ?_|refine ax ?_|refine an (fun K hK => ?_)|refine aa (hv) ?_|(refine aq hK ?_;try clear hK K))
   rw [ae];refine ak (k+1) ?_ (by omega) (by omega);have key:=fun g hg=>cL (enc:=aS) (xs:=bC s r (a * W+k)) (x:=q) (s:=5) (g:=g) hg;simp only [eG] at key;have e:bC s r (a * W+(k+1))=bC s r (a * W+k) ++ [q]:=by rw [← hq];exact rK
   refine au [(1,some 1),(2,some 4)] ?_ ?_;and_intros;all_goals try exact aj
   ·exact .inl (congrArg (fun z=>PV.val (Value.int IntKind.i64 z)) (by omega))
   ·refine .inr fun i hi j hj => ?_;rw [e];refine key _ (fun j hj => ?_) i hi j hj;have:j=0∨j=1∨j=2∨j=3∨j=4:=by omega
    rcases this with rfl|rfl|rfl|rfl|rfl <;> rfl
  ·have g2:decide (r.x0+(k:Int)<r.x1)=false:=decide_eq_false (by omega);repeat' (first|refine ah g2 ?_|refine aC ?_)
   rw [ae];refine ak (a+1) ?_ (by omega) (by omega);have hkW2:k=W:=by omega
   have e2:a * W+k=(a+1) * W:=by rw [hkW2,Nat.succ_mul]
   rw [e2];refine au [(1,some 1),(2,some 2)] ?_ ?_;and_intros;all_goals try exact aj
   all_goals exact .inl (congrArg (fun z=>PV.val (Value.int IntKind.i64 z)) (by omega))
 ·have g1:decide (r.y0+(a:Int)<r.y1)=false:=decide_eq_false (by omega);have:a=H:=by omega
  subst this;repeat' (first|refine ah g1 ?_|refine aC ?_)
  rw [eG]
theorem nh (s:Script) (r:Rect) (E:EvOk s) (hc:(aW s).1=0→Small s.canvas):aA Sg 27 [ag (aF s),ag (aQ r)] (fun x=>x = .tup [ag (aI (iR s r)),I (dV s r)]):=by
 have ht:True:=trivial;have h1:=nE s E.len (fun h=>⟨gC h,fun m hm=>(E.im h m hm).1⟩);have h2:=bl r;have h3:=yg s.canvas r;by_cases h0:(aW s).1=0
 ·have hsm:=hc h0;obtain ⟨hf,V,hI,hm⟩:=E.zero h0;have C:∀ x y,ic s.canvas x y→Pt s (bg s.bits) x y:=fun x y hx=>E.ptz h0 hx;by_cases he:aP r=true
  ·have hr:dV s r=20:=by unfold dV;rw [if_neg (by omega),if_pos (.inl he)]
   have hr2:iR s r=fB:=by unfold iR;rw [if_neg (by omega)]
   rw [hr,hr2];rw [h0] at h1;rw [he] at h2;refine dY ?_;refine aD Tryz.func27 [.cell 4 43, .tmp 5] ?_;repeat' (first|refine ah ht ?_|refine ax ?_|refine an (fun K hK => ?_)|refine aa (h1) ?_|refine aa (h2) ?_|refine aw (fun hg=>h3) ?_|(refine aq hK ?_;try clear hK K))
   refine dq ⟨gj ?_,cX trivial,trivial⟩;simp only [List.map_cons,List.map_nil,dF,fx];and_intros;all_goals first|exact .inl rfl|exact .inl trivial|exact .inr ed|trivial|skip
  have he:aP r=false:=by simpa using he
  rw [he] at h2;by_cases hcv:gm s.canvas r=true
  ·have hi:=qn he hcv;have hsr:Small r:=by
    obtain ⟨h1,h2,h3,h4,h5,h6⟩:=hi;obtain ⟨c1,c2,c3,c4,c5,c6⟩:=hsm;exact ⟨by omega,by omega,by omega,by omega,by omega,by omega⟩
   have hr:dV s r=0:=by unfold dV;rw [if_neg (by omega),if_neg (by rw [he,hcv];simp)]
   have hr2:iR s r=dd (r.x1 - r.x0) (r.y1 - r.y0) (bC s r ((r.x1 - r.x0) * (r.y1 - r.y0)).toNat):=by unfold iR;rw [if_pos hr]
   have hb:((r.x1 - r.x0) * (r.y1 - r.y0)).toNat≤20:=by
    have:=Int.mul_le_mul hsr.w.2 hsr.h.2 (by have:=hsr.h;omega) (by decide:(0:Int)≤5);omega
   have h4:=kh (r.x1 - r.x0) (r.y1 - r.y0) (bC s r ((r.x1 - r.x0) * (r.y1 - r.y0)).toNat) (by rw [eG];omega);have h5:=CP s r E.len hsr fun x y hx=>⟨_,C x y (hi.pt hx)⟩
   obtain ⟨s1,s2,s3,s4,s5,s6⟩:=id hsr;rw [hr,hr2];rw [h0] at h1;rw [hcv] at h3;generalize hP:bC s r ((r.x1 - r.x0) * (r.y1 - r.y0)).toNat=P at *
   generalize dd (r.x1 - r.x0) (r.y1 - r.y0) P=M at *
   refine aD Tryz.func27 [.cell 4 43, .tmp 5] ?_;repeat' (first|refine ah ht ?_|refine ax ?_|((with_reducible refine bN (id:=4) (fun K hW => ?_));(try simp (maxSteps:=999999)(disch:=omega) only [go_sem]);and_intros;all_goals first|(refine hK _ ?_;clear hK K)|try exact ai)|refine an (fun K hK => ?_)|refine aa (h1) ?_|refine aa (h2) ?_|refine aw (fun hg=>h3) ?_|(refine aq hK ?_;try clear hK K))
   refine hW _ (aT [(2, .b (.c (.ptr 0 0))),(3, .b (.c (.ptr 1 0))),(4, .b (.c (.ptr 2 0))),(5, .b (I 0)),(27, .t false)] [(0, .fix ((aF s).map CV.p)),(1, .fix ((aQ r).map CV.p)),(2, .fix (List.replicate 28 (.p .any)))] 3) ?_ ?_
   ·clear hW;refine au [(0,some 0),(1,some 1),(2,some 2)] ?_ ?_;and_intros;all_goals try exact aj
   clear hW;repeat' (first|refine ah ht ?_|refine aC ?_)
   refine xm (id:=6) (.ho 0 true (.ho 2 true (.ho 5 true (.ho 7 true (.ho 1 false (.ho 3 false (.ho 4 true (.ho 6 false (.ho 8 false (.ho 9 true (.ho 10 false (.ho 11 false (.br 12 (.br 13 (.ho 14 true (.ho 15 true (.ho 16 true (.br 17 (.br 18 (.ho 19 true .leaf) .nil) .nil)))) (.br 17 (.br 13 (.ho 14 true (.ho 15 true (.ho 16 true (.br 18 (.ho 19 true .leaf) .nil)))) .nil) .nil)) (.br 17 (.br 12 (.br 13 (.ho 14 true (.ho 15 true (.ho 16 true (.br 18 (.ho 19 true .leaf) .nil)))) .nil) .nil) .nil)))))))))))))) (by decide +kernel) (fun K0 hW => ?_);replace hW:=iS hW;repeat' (first|exact sQ|(refine sT (fun K' hK' => ?_))|(refine zE (fun K' hK' => ?_) ?_)|(refine pk (hW _ ?_);clear hW)|((first|refine aa (h5) ?_|refine aa (h4) ?_);(try simp (maxSteps:=999999)(disch:=omega) only [go_sem]);and_intros;(all_goals first|(refine hK' _ ?_;clear hK' K')|(refine hK' _ ?_ ?_;clear hK' K';focus ((try simp only [List.map_cons,List.map_nil,fS]);and_intros;(all_goals first|exact jZ|(simp (maxSteps:=999999)(disch:=omega) only [go_sem];and_intros;(all_goals first|exact fU (by (first|(simp (maxSteps:=999999)(disch:=omega) only [go_sem];done)|(simp (maxSteps:=999999)(disch:=omega) only [go_sem];rfl)|rfl))|trivial|omega|skip))|skip)))|trivial|omega|exact Nat.le_of_ble_eq_true rfl|exact ai|skip))|(simp (maxSteps:=999999)(disch:=omega) only [go_sem];and_intros;(all_goals first|(refine hK' _ ?_;clear hK' K')|(refine hK' _ ?_ ?_;clear hK' K';focus ((try simp only [List.map_cons,List.map_nil,fS]);and_intros;(all_goals first|exact jZ|(simp (maxSteps:=999999)(disch:=omega) only [go_sem];and_intros;(all_goals first|exact fU (by (first|(simp (maxSteps:=999999)(disch:=omega) only [go_sem];done)|(simp (maxSteps:=999999)(disch:=omega) only [go_sem];rfl)|rfl))|trivial|omega|skip))|skip)))|trivial|omega|exact Nat.le_of_ble_eq_true rfl|exact ai|skip)))
   ·refine dJ ?_;repeat' (refine aC ?_)
    rfl
   ·refine dJ ?_;repeat' (refine aC ?_)
    rfl
   ·refine dJ ?_;repeat' (refine aC ?_)
    rfl
  ·have hcv:gm s.canvas r=false:=by simpa using hcv
   have hr:dV s r=20:=by unfold dV;rw [if_neg (by omega),if_pos (.inr hcv)]
   have hr2:iR s r=fB:=by unfold iR;rw [if_neg (by omega)]
   rw [hr,hr2];rw [h0] at h1;rw [hcv] at h3;refine dY ?_;refine aD Tryz.func27 [.cell 4 43, .tmp 5] ?_;repeat' (first|refine ah ht ?_|refine ax ?_|refine an (fun K hK => ?_)|refine aa (h1) ?_|refine aa (h2) ?_|refine aw (fun hg=>h3) ?_|(refine aq hK ?_;try clear hK K))
   refine dq ⟨gj ?_,cX trivial,trivial⟩;simp only [List.map_cons,List.map_nil,dF,fx];and_intros;all_goals first|exact .inl rfl|exact .inl trivial|exact .inr ed|trivial|skip
 ·have g0:((aW s).1 != 0)=true:=bne_iff_ne.2 h0;have hr:dV s r=(aW s).1:=by unfold dV;rw [if_pos h0]
  have hr2:iR s r=fB:=by unfold iR;rw [if_neg (by omega)]
  rw [hr,hr2];refine dY ?_;refine aD Tryz.func27 [.cell 4 43, .tmp 5] ?_;repeat' (first|refine ah g0 ?_|refine ax ?_|refine an (fun K hK => ?_)|refine aa (h1) ?_|(refine aq hK ?_;try clear hK K))
  refine dq ⟨gj ?_,cX trivial,trivial⟩;simp only [List.map_cons,List.map_nil,dF,fx];and_intros;all_goals first|exact .inl rfl|exact .inl trivial|exact .inr ed|trivial|skip
end
section
attribute [local go_sem] Nat.add_zero lq Int.toNat_natCast cA
theorem QV {st : St} {l : List (Nat × SV)} {q n0 T sz : Nat} {cs : List CV} {f : Nat → Nat → PV} {base : Nat → Option Bx} {kf : Nat → SV} (hkf : st.kf = kf) (hkl : ∀ s, (kf s).lt n0) (h0 : 0 < n0) (hqn : n0 ≤ q) (hsz : 0 < sz)
  (hcs:∀ c ∈ cs,CV.lt 0 c) (h1:st.bx q=some (.fix (cs ++ [.p (.val (.slice none 0 0))])))
  (hoth:∀ i x,base i=some x→i<n0∧x.lt n0∧st.bx i=some x) (hfr:ou (rG n0 [(n0,some q),(n0+1,none)]) st (FA n0 (n0+1) cs 0 T sz 0 f base) (n0+2) l):Le st (vk l (FA n0 (n0+1) cs 0 T sz 0 f base) (n0+2) kf):=by
 have hr0:rG n0 [(n0,some q),(n0+1,none)] n0=some q:=by rw [kM (Nat.le_refl _),dU,if_pos rfl]
 have hr1:rG n0 [(n0,some q),(n0+1,none)] (n0+1)=none:=by rw [kM (Nat.le_succ _),dU,if_neg (by omega),dU,if_pos rfl]
 refine DD n0 [(n0,some q),(n0+1,none)] [n0,n0+1] hkf hkl (by omega) h0 hfr (fun i hi hn => ?_) (fun i hi k hk => ?_) (fun i j k hi hj hki hkj => ?_) (fun i x hx => ?_)
 ·by_cases e:i=n0
  ·rw [e];exact List.mem_cons_self ..
  ·by_cases e2:i=n0+1
   ·rw [e2];exact List.mem_cons_of_mem _ (List.mem_cons_self ..)
   ·rw [CO e e2] at hi;cases hx:base i with
    | none=>exact absurd hx hi
    | some x=>have:=(hoth i x hx).1;omega
 ·simp only [List.mem_cons,List.not_mem_nil,or_false] at hi;rcases hi with rfl|rfl
  ·rw [dU,if_pos rfl] at hk;cases hk;exact hqn
  ·rw [dU,if_neg (by omega),dU,if_pos rfl] at hk;cases hk
 ·simp only [List.mem_cons,List.not_mem_nil,or_false] at hi hj;rcases hi with rfl|rfl <;> rcases hj with rfl|rfl
  ·rfl
  ·rw [dU,if_neg (by omega),dU,if_pos rfl] at hkj;cases hkj
  ·rw [dU,if_neg (by omega),dU,if_pos rfl] at hki;cases hki
  ·rfl
 ·by_cases e1:i=n0
  ·subst e1;rw [Kk] at hx;cases hx;refine .inr ⟨?_,by omega,fun c hc => ?_⟩
   ·unfold gh;rw [hr0];exact ⟨_,h1,Bl (vZ (n:=0) (fun id hid=>absurd hid (Nat.not_lt_zero _)) hcs) ⟨⟨rfl,rfl,hr1⟩,trivial⟩⟩
   ·rcases List.mem_append.1 hc with q|q
    ·exact CV.lt_mono (Nat.zero_le _) (hcs c q)
    ·rw [List.mem_singleton.1 q];exact Nat.lt_succ_self _
  by_cases e2:i=n0+1
  ·subst e2;rw [JR (by omega)] at hx;cases hx;refine .inr ⟨?_,by omega,trivial⟩;unfold gh;rw [hr1];exact ⟨_,_,_,rfl,hsz⟩
  ·rw [CO e1 e2] at hx;obtain ⟨p1,p2,p3⟩:=hoth i x hx;exact .inl ⟨p1,p3,p2⟩
theorem Cn (bx : Nat → Option Bx) (nx : Nat) (s : Script) (V : VOps s) (h0 : 0 < nx) :
  lU Sg bx nx 40 [ag (aF s)] (.b (.c (.ptr nx 0))) (FA nx (nx+1) (yb s (bg s.bits) (eR s.ops.length (aN s.ops))) 0 170 14 0 (fun _ _ => .any) bx) (nx+2):=by
 have ht:True:=trivial;have h1:aA Sg 68 [I s.bits] (fun x=>x = .tup [U (bg s.bits),B (decide (s.bits=8∨s.bits=16))]):=gG s.bits;have h2:=qJ s V;refine rR Tryz.func40 rfl (rs:=[.tmp 2]) rfl rfl fG (by decide +kernel) (Nat.le_of_ble_eq_true rfl) ?_ (fun kf hkf hbl => ?_)
 ·intro v hv;simp only [List.mem_cons,List.not_mem_nil,or_false] at hv;rcases hv with rfl
  ·exact fun c hc=>by (obtain ⟨x,_,rfl⟩:=List.mem_map.1 hc;trivial)
 have hw':∀ i,nx≤i→bx i=none:=fun i hi=>by
  cases h:bx i with
  | none=>rfl
  | some y=>exact absurd (hbl i y h).1 (by omega)
 repeat' (first|refine an (fun K hK => ?_)|refine aa (h1) ?_|refine aa (h2) ?_|refine ax ?_|(refine aq hK ?_;try clear hK K))
 refine ⟨_,QV (l:=[(2, .b (.c (.ptr nx 0)))]) (q:=nx+1) (T:=170) (sz:=14) (cs:=yb s (bg s.bits) (eR s.ops.length (aN s.ops))) (f:=fun _ _ => .any) (base:=bx) rfl hkf h0 (Nat.le_succ _) (by decide) nD ?h1 (fun i x hx => ?h2) ?h3,⟨trivial,trivial⟩,rfl,fun i y h=>h,rfl,rfl,Nat.lt_succ_of_lt (Nat.lt_succ_self _)⟩
 case h1=>exact na
 case h2 =>
  obtain ⟨q1,q2⟩:=hbl i x hx;refine ⟨q1,q2, ?_⟩;refine dz ?_;first|exact hx|exact (if_neg (by omega)).trans hx
 case h3=>simp (maxSteps:=999999)(disch:=omega) only [go_sem]
theorem Au {st : St} {K : SV → St → Prop} {q : Prop} (s : Script) (V : VOps s) (hk : q) (h0 : 0 < st.nx := by (first | (simp (maxSteps := 1000000) (disch := omega) only [go_sem]; done) | (simp (maxSteps := 1000000) (disch := omega) only [go_sem]; omega) | omega | fail))
  (hwf:∀ i,st.nx≤i→st.bx i=none:=by (first|(intro iw hiw;(try simp (maxSteps:=999999)(disch:=omega) only [go_sem] at hiw ⊢);(repeat (refine Eq.trans (if_neg ?_) ?_;(focus omega)));(first|rfl|(apply_assumption;omega)))|fail))
  (wk:q→K (.b (.c (.ptr st.nx 0))) (st.turn (aJ st.nx (.fix (lq s (bg s.bits) (eR s.ops.length (aN s.ops)) (.own (st.nx+1) 0))) (aJ (st.nx+1) (.arr 170 14 0 fun _ _ => .any) st.bx)) (st.nx+2)):=by (first|(intro h;first|(simp (maxSteps:=999999)(disch:=omega) only [go_sem];exact h)|exact h)|fail)) :
  en Sg st 40 [ag (aF s)] (Sl.of K):=by
 refine eT (Cn st.bx st.nx s V h0) rfl (fun i hi => ?_) (by omega) (wk hk);unfold FA aJ;rw [if_neg (by omega),if_neg (by omega)];exact hwf i (by omega)
end
end Go.Proofs.YtcbifofjjpfbcaaGreatDoor
