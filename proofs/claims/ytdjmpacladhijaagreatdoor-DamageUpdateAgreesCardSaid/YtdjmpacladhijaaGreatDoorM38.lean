/- Part of the proof: RF. -/
import Derived.Test.YtdjmpacladhijaaGreatDoorM37
set_option linter.unusedSimpArgs false
set_option linter.unusedVariables false
set_option maxHeartbeats 8000000
set_option maxRecDepth 16000
namespace Go.Proofs.YtdjmpacladhijaaGreatDoor
open Go Go.SL
open Go.RowKit (wrap64)
attribute [local go_sem] Nat.add_zero nK Int.toNat_natCast dQ Qf
theorem gJ (s:Script) (E:EvOk s) (hc:(bz s).1=0→Small s.canvas):aB Sg 22 [ag (ay s)] (fun r=>r = .tup [ag (aF (jE s)),I (bz s).1,I (bz s).2]):=by
 have ht:True:=trivial;have h1:=qP s E.len (fun h=>⟨iW h,fun m hm=>(E.im h m hm).1⟩);by_cases h0:(bz s).1=0
 ·obtain ⟨hf,V,hI,hm⟩:=E.zero h0;have hF:FrOk s:=⟨hc h0,hf⟩
  have hce:=pP V hI;have C:∀ x y,jo s.canvas x y→Pt s (aN s.bits) x y:=fun x y=>E.ptz h0;have h2:=Om s hF E.len;have hsm:=hF.c;obtain ⟨x0,x1,y0,y1,hw,hh⟩:=id hsm;obtain ⟨W,hW⟩:∃ W:Nat,(W:Int)=s.canvas.x1 - s.canvas.x0:=⟨(s.canvas.x1 - s.canvas.x0).toNat,by omega⟩
  obtain ⟨H,hH⟩:∃ H:Nat,(H:Int)=s.canvas.y1 - s.canvas.y0:=⟨(s.canvas.y1 - s.canvas.y0).toNat,by omega⟩
  have hb20:W * H≤20:=Nat.le_trans (Nat.mul_le_mul (show W≤5 by omega) (show H≤4 by omega)) (by decide);have eWH:(s.canvas.x1 - s.canvas.x0) * (s.canvas.y1 - s.canvas.y0)=((W * H:Nat):Int):=by rw [← hW,← hH,Int.natCast_mul]
  have hin:∀ i,i<(ja s).length→InR ((ja s).getD i default) s.canvas:=fun i hi=>by
   refine hF.mem ?_;rw [List.getD_eq_getElem?_getD,List.getElem?_eq_getElem hi];exact List.getElem_mem _
  have h3:=FP (s.canvas.x1 - s.canvas.x0) (s.canvas.y1 - s.canvas.y0) (jj s ((s.canvas.x1 - s.canvas.x0) * (s.canvas.y1 - s.canvas.y0)).toNat) (by rw [uO];rw [eWH];omega);have hr:jE s=cU s:=by unfold jE;rw [if_pos h0]
  rw [hr,hce];rw [hce] at h1;unfold cU;refine az Tryz.func22 [.cell 2 49, .tmp 3, .tmp 4] ?_;have hT20:(ja s).length≤20:=by
   have:=hF.len.1;have:=hF.n;omega
  repeat' (first|refine aj ht ?_|refine aw ?_|((with_reducible refine aX (id:=8) (fun K hW => ?_));(try simp (maxSteps:=999999)(disch:=omega) only [go_sem]);and_intros;all_goals first|(refine hK _ ?_;clear hK K)|try exact ai)|refine an (fun K hK => ?_)|refine aa (h1) ?_|refine Jc s V ?_|refine aa (h2) ?_|(refine aq hK ?_;try clear hK K))
  obtain ⟨n,hn⟩:∃ n,n=((s.canvas.x1 - s.canvas.x0) * (s.canvas.y1 - s.canvas.y0)).toNat:=⟨_,rfl⟩
  have hnW:n=W * H:=by rw [hn,eWH];omega
  rw [← hn] at h3 ⊢;have hend:∀ q,q<n→wm s (ja s) q=WS s q:=fun q hq=>Rt hF (by rw [eWH];omega);generalize hT:ja s=T at *
  refine hW _ (aP [(2, .b (.c (.ptr 1 0))), (3, .b (I 0)), (4, .b (I 0)), (7, .b (.c (.ptr 2 0))), (8, .b (I (s.canvas.x1 - s.canvas.x0))), (9, .b (I (s.canvas.y1 - s.canvas.y0))), (10, .b (.c (.own 3 n))), (11, .b (.c (.ptr 4 0))), (49, .b (.c (.p (Qf T)))), (50, .b (I T.length)), (51, .b (I 0))]
    [(1, .fix (List.replicate 28 (.p .any))),(2, .fix ((aS s.canvas).map CV.p)),(3, .arr 43 5 n (rj aU fun _=>bG)),(4, .fix (nK s (aN s.bits) (fL s.ops.length (aE s.ops)) (.own 5 0))),(5, .arr 221 14 0 fun _ _ => .any)] 6) ?_ ?_
  ·clear hW;refine ar [(1,some 1),(2,some 2),(3,some 3),(4,some 5),(5,none)] ?_ ?_;and_intros;all_goals try exact ak
   refine .inr fun a ha j hj => ?_;have hivl:j=0∨j=1∨j=2∨j=3∨j=4:=by omega
   rcases hivl with rfl|rfl|rfl|rfl|rfl <;> exact PV.le_refl _
  clear hW;refine fx fun KB hV => ?_;have tl:∀ st,Le st (aP [(2, .b (.c (.ptr 1 0))),(3, .b (I 0)),(4, .b (I 0)),(8, .b (I (s.canvas.x1 - s.canvas.x0))),(9, .b (I (s.canvas.y1 - s.canvas.y0))),(10, .b (.c (.p (lM (jj s n)))))] [(1, .fix (List.replicate 28 (.p .any)))] 2)→KB st:=fun st hl=>hV st _ hl ?_
  ·refine aK (X := Nat × Nat × Nat × (Nat → Nat → PV)) (fun z => aP [(2, .b (.c (.ptr 1 0))), (3, .b (I 0)), (4, .b (I 0)), (7, .b (.c (.ptr 2 0))), (8, .b (I (s.canvas.x1 - s.canvas.x0))), (9, .b (I (s.canvas.y1 - s.canvas.y0))), (10, .b (.c (.own 3 n))), (11, .b (.c (.ptr 4 0))), (49, .b (.c (.p (Qf T)))), (50, .b (I T.length)), (51, .b (I z.1))]
     [(1, .fix (List.replicate 28 (.p .any))),(2, .fix ((aS s.canvas).map CV.p)),(3, .arr 43 5 n (rj aU (wm s (T.take z.1)))),(4, .fix (nK s (aN s.bits) (fL s.ops.length (aE s.ops)) (.own 5 z.2.1))),(5, .arr 221 14 z.2.2.1 z.2.2.2)] 6)
    (fun z=>z.1≤T.length∧z.2.1≤z.2.2.1) (fun z=>T.length - z.1) (0,0,0,fun _ _ => .any) ?_ ?_ ?_
   ·exact ⟨Nat.zero_le _,Nat.le_refl _⟩
   ·dsimp only;refine ar [(1,some 1),(2,some 2),(3,some 3),(4,some 4),(5,some 5)] ?_ ?_;and_intros;all_goals try exact ak
   rintro ⟨i,n2,N,f⟩ ⟨hi,hn2⟩;dsimp only at hi hn2 ⊢;rcases Nat.lt_or_ge i T.length with h|h
   ·have g1:decide ((i:Int)<T.length)=true:=decide_eq_true (by omega);have hti:=hin i h;have hTk:T.take (i+1)=T.take i ++ [T.getD i default]:=by rw [List.take_add_one,List.getElem?_eq_getElem h,List.getD_eq_getElem?_getD,List.getElem?_eq_getElem h];rfl
    repeat' (first|refine aj g1 ?_|refine aw ?_|refine an (fun K hK => ?_)|refine uG 4 5 n2 N f s (T.getD i default) (aN s.bits) (by decide) hn2 hti hsm C E.len ?_|(refine aq hK ?_;try clear hK K))
    generalize T.getD i default=t at *
    obtain ⟨i1,i2,i3,i4,i5,i6⟩:=id hti;obtain ⟨w,hwt⟩:∃ w:Nat,(w:Int)=t.x1 - t.x0:=⟨(t.x1 - t.x0).toNat,by omega⟩
    obtain ⟨ht',hht⟩:∃ ht':Nat,(ht':Int)=t.y1 - t.y0:=⟨(t.y1 - t.y0).toNat,by omega⟩
    have ew:(t.x1 - t.x0).toNat=w:=by omega
    have eh:(t.y1 - t.y0).toNat=ht':=by omega
    rw [ew,eh]
    refine aK (X := Nat) (fun a => aP [(2, .b (.c (.ptr 1 0))), (3, .b (I 0)), (4, .b (I 0)), (7, .b (.c (.ptr 2 0))), (8, .b (I (s.canvas.x1 - s.canvas.x0))), (9, .b (I (s.canvas.y1 - s.canvas.y0))), (10, .b (.c (.own 3 n))), (11, .b (.c (.ptr 4 0))), (49, .b (.c (.p (Qf T)))), (50, .b (I T.length)), (51, .b (I i)), (13, .b (.c (.ptr 6 0))), (14, .b (.c (.p (.lst 5 (ht' * w) (rj aU (NM s t)))))), (15, .b (I (t.x1 - t.x0))), (16, .b (I (t.y0 + a)))]
      [(1, .fix (List.replicate 28 (.p .any))),(2, .fix ((aS s.canvas).map CV.p)),(3, .arr 43 5 n (rj aU (wA s (T.take i) t (t.y0+a)))),(4, .fix (nK s (aN s.bits) (fL s.ops.length (aE s.ops)) (.own 5 1))),(5, .arr 221 14 (xi s (aN s.bits) t t.x0 (t.y1 - 1)) (fun _ _ => .any)),(6, .fix ((aS t).map CV.p))] 7)
     (fun a=>a≤ht') (fun a=>ht' - a) 0 ?_ ?_ ?_
    ·exact Nat.zero_le _
    ·refine ar [(1,some 1),(2,some 2),(3,some 3),(4,some 4),(5,some 7),(6,some 6)] ?_ ?_;and_intros;all_goals try exact ak
     ·exact .inl (congrArg (fun z=>PV.val (Value.int IntKind.i64 z)) (by omega))
     ·exact .inl (by rw [show t.y0+((0:Nat):Int)=t.y0 by omega,Ki])
    intro a ha;rcases Nat.lt_or_ge a ht' with h5|h5
    ·have g2:decide (t.y0+(a:Int)<t.y1)=true:=decide_eq_true (by omega);obtain ⟨A,hA⟩:∃ A:Nat,(A:Int)=t.y0+a - s.canvas.y0:=⟨(t.y0+a - s.canvas.y0).toNat,by omega⟩
     have e1:(t.y0+(a:Int) - s.canvas.y0) * (s.canvas.x1 - s.canvas.x0)=((A * W:Nat):Int):=by rw [← hA,← hW,Int.natCast_mul]
     have e2:(t.y0+(a:Int) - t.y0) * (t.x1 - t.x0)=((a * w:Nat):Int):=by rw [show t.y0+(a:Int) - t.y0=a by omega,← hwt,Int.natCast_mul]
     have b1:A * W+W≤W * H:=by
      have:=Nat.mul_le_mul (show A+1≤H by omega) (Nat.le_refl W);rw [Nat.succ_mul,Nat.mul_comm H W] at this;exact this
     have b2:a * w+w≤ht' * w:=by
      have:=Nat.mul_le_mul (show a+1≤ht' by omega) (Nat.le_refl w);rw [Nat.succ_mul] at this;exact this
     have b3:ht' * w≤20:=Nat.le_trans (Nat.mul_le_mul (show ht'≤4 by omega) (show w≤5 by omega)) (by decide);have elo:((t.y0+(a:Int) - s.canvas.y0) * (s.canvas.x1 - s.canvas.x0)+t.x0 - s.canvas.x0).toNat=A * W+(t.x0 - s.canvas.x0).toNat:=by omega
     have ehi:((t.y0+(a:Int) - s.canvas.y0) * (s.canvas.x1 - s.canvas.x0)+t.x0 - s.canvas.x0+(t.x1 - t.x0)).toNat - (A * W+(t.x0 - s.canvas.x0).toNat)=w:=by omega
     have ek:((t.y0+(a:Int) - t.y0) * (t.x1 - t.x0)).toNat=a * w:=by omega
     have hcA:((A * W:Nat):Int)=A * W:=Int.natCast_mul ..;have hrow:=fun q=>Rk (s:=s) (L:=T.take i) (W:=W) (a:=A) (lo:=A * W+(t.x0 - s.canvas.x0).toNat) (n:=w) (y:=t.y0+a) hti hW ⟨by omega,by omega⟩ hA (by omega) hwt q;have htr:=fun k hk=>Sq (s:=s) (W:=W) (a:=A) (b:=a) (lo:=A * W+(t.x0 - s.canvas.x0).toNat) (n:=w) (k:=k) (y:=t.y0+a) hti hW ⟨by omega,by omega⟩ hA (by omega) (by omega) hwt hk;repeat' (first|refine aj g2 ?_|refine aC ?_)
     rw [ae];refine ao (a+1) ?_ (by omega) (by omega);refine ar [(1,some 1),(2,some 2),(3,some 3),(4,some 4),(5,some 5),(6,some 6)] ?_ ?_;and_intros;all_goals try exact ak
     ·exact .inl (congrArg (fun z=>PV.val (Value.int IntKind.i64 z)) (by omega))
     ·refine .inr fun q hq j hj => ?_;show PV.le _ ((aU (wA s (T.take i) t (t.y0+((a+1:Nat):Int)) q)).getD j .any);rw [show t.y0+((a+1:Nat):Int)=t.y0+(a:Int)+1 by omega,hrow q,elo,ehi,ek];by_cases hc:A * W+(t.x0 - s.canvas.x0).toNat≤q∧q<A * W+(t.x0 - s.canvas.x0).toNat+w
      ·rw [if_pos hc,if_pos hc,htr _ (by omega),show A * W+(t.x0 - s.canvas.x0).toNat+(q - (A * W+(t.x0 - s.canvas.x0).toNat))=q by omega];exact PV.le_refl _
      ·rw [if_neg hc,if_neg hc];exact PV.le_refl _
    ·have g2:decide (t.y0+(a:Int)<t.y1)=false:=decide_eq_false (by omega);obtain rfl:a=ht':=by omega
     repeat' (first|refine aj g2 ?_|refine aC ?_)
     rw [ae];refine ao (i+1,1,xi s (aN s.bits) t t.x0 (t.y1 - 1),fun _ _ => .any) ?_ ⟨by dsimp only;omega,HC⟩ (by dsimp only;omega);dsimp only;refine ar [(1,some 1),(2,some 2),(3,some 3),(4,some 4),(5,some 5)] ?_ ?_;and_intros;all_goals try exact ak
     all_goals exact .inl (by rw [hTk,show t.y0+(a:Int)=t.y1 by omega,QN])
   ·have g1:decide ((i:Int)<T.length)=false:=decide_eq_false (by omega);obtain rfl:i=T.length:=by omega
    repeat' (first|refine aj g1 ?_|refine aC ?_)
    refine tl _ ?_;refine ar [(1,some 1)] ?_ ?_;and_intros;all_goals try exact ak
    ·exact uO.symm
    ·intro a ha j hj;show PV.le ((aU (wm s (T.take T.length) a)).getD j .any) ((aU ((jj s n).getD a default)).getD j .any);rw [List.take_length,hend a ha,oT,ir ha];exact PV.le_refl _
  ·clear hV;repeat' (first|refine an (fun K hK => ?_)|refine aa (h3) ?_|refine aw ?_|(refine aq hK ?_;try clear hK K))
   subst hn;rfl
 ·have g0:((bz s).1 != 0)=true:=bne_iff_ne.2 h0;have hr:jE s=ft:=by unfold jE;rw [if_neg h0]
  rw [hr];refine bo ?_;refine az Tryz.func22 [.cell 2 49, .tmp 3, .tmp 4] ?_;repeat' (first|refine aj g0 ?_|refine aw ?_|refine an (fun K hK => ?_)|refine aa (h1) ?_|(refine aq hK ?_;try clear hK K))
  refine cJ ⟨dG ?_,cD trivial,cD trivial,trivial⟩;simp only [List.map_cons,List.map_nil,bM,cA];and_intros;all_goals first|exact .inl rfl|exact .inl trivial|exact .inr bP|trivial|skip
end Go.Proofs.YtdjmpacladhijaaGreatDoor
