/- Part of the proof: HA. -/
import Derived.Test.YtdjmpacladhijaaGreatDoorM38
import Derived.Test.YtdjmpacladhijaaGreatDoorM52
import Derived.Test.YtdjmpacladhijaaGreatDoorM61
set_option linter.unusedSimpArgs false
set_option linter.unusedVariables false
set_option maxHeartbeats 4000000
set_option maxRecDepth 16000
namespace Go.Proofs.YtdjmpacladhijaaGreatDoor
open Go Go.SL
open Go.RowKit (wrap64)
attribute [local go_sem] Int.toNat_natCast jZ HU yA
theorem Of.rend9 {c:Scene} {s:Script} (h:Of c s):aB Sg 22 [ag (ay s)] (fun r=>r = .tup [ag (aF (cU s)),I 0,I 0]):=by
 have:=gJ s h.ev (fun _=>h.small);have h0:bz s=(0,0):=pP h.V h.im;rw [h0] at this;have e:jE s=cU s:=by unfold jE;rw [h0,if_pos rfl]
 rw [e] at this;exact this
theorem Xq:RowOk YU:=⟨⟨by decide,by decide⟩,fun i hi=>absurd hi (Nat.not_lt_zero i),by decide⟩
theorem a0q {d:Scene} (hd:SceneOk d) (a:Nat):RowOk (tD d a):=by
 unfold tD;split
 ·rename_i h;exact (hd.pic a h).row
 ·exact Xq
theorem KO (c : Scene) (hc : SceneOk c) (d : Scene) (hd : SceneOk d) (l : List Int) (hl : l.length ≤ 4611686018427387904) :
  aB Sg 8 [ag (fW c),ag (fW d), .c (.p (dq l))] (fun x=>x = .b (B true)):=by
 have ht:True:=trivial;have hg:=kE c hc;have hi:=gK c;have hgood:=(kF c).len;have hb:=a0w (aI c) l (kj c) hl (by omega) (by show (aT c).length≤_;omega);have hs:=Ce c l;have H:=Av c l;have ho:=vR c l;have hO:Of c (dX (aI c) l):=Nr (a0y c) (gK c).2 l;have hib:∀ m ∈ (dX (aI c) l).images,ImgB m:=fun m hm=>a1b c l hm;have hmx:aN (dX (aI c) l).bits=js (dX (aI c) l).bits:=by
  rcases (qQ hO.V.frame).1 with h|h <;> rw [h] <;> rfl
 generalize hS:dX (aI c) l=s at *
 have hL:=Uo (d:=d) (mx:=aN s.bits) (i:=s.images.length) hib;have hT:=a2E hO hib d;have hHT:Sml (fN s (jI s d (aN s.bits) s.images.length)):=WH H hib;have hrun:=PZ hL;have hn6:=hO.n2;have hu:u16 (aN s.bits):=by rw [hO.mx];unfold u16;have:=la c.bits;omega
 have hrow:=fun a=>a0q hd a;have hmem:∀ a,a<s.images.length→ImgB (s.images.getD a default):=fun a ha=>hib _ (by rw [List.getD_eq_getElem?_getD,List.getElem?_eq_getElem ha];exact List.getElem_mem _);have hdl:=hd.pics;obtain ⟨t,htd⟩:∃ t:Script,t=fN s (jI s d (aN s.bits) s.images.length):=⟨_,rfl⟩
 rw [← htd] at hT hrun hHT;have hse:ay t=[PI s.bits,PI s.canvas.x0,PI s.canvas.y0,PI s.canvas.x1,PI s.canvas.y1,PI s.tileW,PI s.tileH,dq s.order,qq t.images,kU s.ops]:=by rw [htd];rfl
 have hsi:=nV s hs H (by omega);have hto:t.ops=s.ops:=by rw [htd];rfl
 have hst:=nV t hT.sl hHT (by rw [hto];omega);rw [hrun] at hst;have hlen:(nQ s).1.length≤s.ops.length:=Ax _ s;have hso:=ER (nQ s).1 (nQ s).1 (by omega) (by omega);have hR:=Of.run (eX fH t.ops+1) hT;have hR1:Of c (cl t (nQ s).1):=by rw [← hrun];exact hR.1
 have hval:cU (cl t (nQ s).1)=cU t:=GQ hT.small (show t.canvas=t.canvas from rfl) fun x y q=>by rw [← hrun];exact hR.2 x y (by rw [← hT.cv];exact q)
 have r1:=hT.rend9;have r2:=hR1.rend9;rw [hval] at r2;have hsm:=mJ (cU t) (Mv hT.small);have haw:=zG;have hLn:∀ i,(jI s d (aN s.bits) i).length=s.images.length:=fun i=>sJ;refine az Tryz.func8 [.tmp 6] ?_;repeat' (first|with_reducible exact cz|refine bL ?_|((with_reducible refine aX (id:=4) (fun K hW => ?_));(try simp (maxSteps:=999999)(disch:=omega) only [go_sem]);and_intros;all_goals first|(refine hK _ ?_;clear hK K)|try exact ai)|((first|refine an (fun K hK => ?_)|refine pj ?_|refine aa (hg) ?_|refine aA (fun hg=>hg) ?_|refine aa (hb) ?_|refine aA (fun hg=>hb) ?_);and_intros;all_goals first|(refine hK _ ?_;clear hK K)|try exact ai)|((first|apply dC|apply dE);(case hf=>rfl);(case hc=>exact du);(all_goals first|(intro hb;(try simp only [nR] at hb))|skip))|exact bd|(refine aH (fun hb => ?_) (fun hb => ?_);all_goals try exact ax)|refine eo (fun KB hB => ?_)|(refine hB _ ?_;clear hB KB)|refine gM (S:=Sg) (by assumption) ?_|(refine bF ?_;(try clear hB KB);(try clear hK K)))
 refine hW _ (aP [(4, .b (.c (.ptr 1 0))),(6, .b (B false)),(7, .b (.c (.ptr 2 0))),(8, .b (.c (.ptr 3 0))),(9, .b (U 255))] [(1, .fix ((fW d).map CV.p)),(2, .fix ((ay s).map CV.p)),
  (3, .fix [.p (PI s.bits), .p (PI s.canvas.x0), .p (PI s.canvas.y0), .p (PI s.canvas.x1), .p (PI s.canvas.y1), .p (PI s.tileW), .p (PI s.tileH), .p (dq s.order), .own 4 s.images.length, .p (kU s.ops)]),(4, .arr 49 28 s.images.length (aQ aF s.images))] 5) ?_ ?_
 ·clear hW;refine ar [(1,some 1),(2,some 2),(3,some 3),(4,some 4)] ?_ ?_;and_intros;all_goals try exact ak
 clear hW;refine gQ ?_;refine jM fun K hK => ?_;refine bV ?_;and_intros;all_goals first|(refine hK _ ?_;clear hK K)|exact ai|skip
 refine zL (t:=(s.bits == 16)) (aP [(4, .b (.c (.ptr 1 0))),(6, .b (B false)),(7, .b (.c (.ptr 2 0))),(8, .b (.c (.ptr 3 0))),(9, .b (U (aN s.bits)))] [(1, .fix ((fW d).map CV.p)),(2, .fix ((ay s).map CV.p)),
  (3, .fix [.p (PI s.bits), .p (PI s.canvas.x0), .p (PI s.canvas.y0), .p (PI s.canvas.x1), .p (PI s.canvas.y1), .p (PI s.tileW), .p (PI s.tileH), .p (dq s.order), .own 4 s.images.length, .p (kU s.ops)]),(4, .arr 49 28 s.images.length (aQ aF s.images))] 5) ?_ ?_ ?_ ?_
 ·exact ba
 ·intro h0;rw [beq_iff_eq] at h0;rw [show aN s.bits=65535 by rw [h0];rfl];repeat' (first|with_reducible exact cz|refine bL ?_|((first|refine an (fun K hK => ?_)|refine pj ?_);and_intros;all_goals first|(refine hK _ ?_;clear hK K)|try exact ai)|((first|apply dC|apply dE);(case hf=>rfl);(case hc=>exact du);(all_goals first|(intro hb;(try simp only [nR] at hb))|skip))|exact bd|(refine aH (fun hb => ?_) (fun hb => ?_);all_goals try exact ax)|refine eo (fun KB hB => ?_)|(refine hB _ ?_;clear hB KB)|refine gM (S:=Sg) (by assumption) ?_|(refine bF ?_;(try clear hB KB);(try clear hK K)))
  try rw [ae]
  refine ⟨_, ?_,rfl⟩;refine ar [(1,some 1),(2,some 2),(3,some 3),(4,some 4)] ?_ ?_;and_intros;all_goals try exact ak
 ·intro h0;rw [beq_eq_false_iff_ne] at h0;rw [show aN s.bits=255 by rw [hmx,js,if_neg h0]];repeat' (first|with_reducible exact cz|refine bL ?_|((first|refine an (fun K hK => ?_)|refine pj ?_);and_intros;all_goals first|(refine hK _ ?_;clear hK K)|try exact ai)|((first|apply dC|apply dE);(case hf=>rfl);(case hc=>exact du);(all_goals first|(intro hb;(try simp only [nR] at hb))|skip))|exact bd|(refine aH (fun hb => ?_) (fun hb => ?_);all_goals try exact ax)|refine eo (fun KB hB => ?_)|(refine hB _ ?_;clear hB KB)|refine gM (S:=Sg) (by assumption) ?_|(refine bF ?_;(try clear hB KB);(try clear hK K)))
  try rw [ae]
  refine ⟨_, ?_,rfl⟩;refine ar [(1,some 1),(2,some 2),(3,some 3),(4,some 4)] ?_ ?_;and_intros;all_goals try exact ak
 refine gQ ?_;refine jM fun K hK => ?_;refine bV ?_;and_intros;all_goals first|(refine hK _ ?_;clear hK K)|exact ai|skip
 refine fx fun KB hV => ?_
 refine aK (X:=Nat) (fun i=>aP [(4, .b (.c (.ptr 1 0))),(6, .b (B false)),(7, .b (.c (.ptr 2 0))),(8, .b (.c (.ptr 3 0))),(9, .b (U (aN s.bits))),(10, .b (I i))] [(1, .fix ((fW d).map CV.p)),(2, .fix ((ay s).map CV.p)),
  (3, .fix [.p (PI s.bits), .p (PI s.canvas.x0), .p (PI s.canvas.y0), .p (PI s.canvas.x1), .p (PI s.canvas.y1), .p (PI s.tileW), .p (PI s.tileH), .p (dq s.order), .own 4 s.images.length, .p (kU s.ops)]),(4, .arr 49 28 s.images.length (aQ aF (jI s d (aN s.bits) i)))] 5) (fun i=>i≤s.images.length) (fun i=>s.images.length - i) 0 ?_ ?_ ?_
 ·exact Nat.zero_le _
 ·refine ar [(1,some 1),(2,some 2),(3,some 3),(4,some 4)] ?_ ?_;and_intros;all_goals try exact ak
  refine .inr fun a ha j hj => ?_;show PV.le ((aF (s.images.getD a default)).getD j .any) ((aF ((jI s d (aN s.bits) 0).getD a default)).getD j .any);rw [uK ha,if_neg (Nat.not_lt_zero a)];exact PV.le_refl _
 intro i hi;rcases Nat.lt_or_ge i s.images.length with h|h
 ·have g1:decide ((i:Int)<s.images.length)=true:=decide_eq_true (by omega);have hoi:(jI s d (aN s.bits) i).getD i default=s.images.getD i default:=by rw [uK h,if_neg (Nat.lt_irrefl i)]
  have hB:=(hmem i h).k;have hnx:∀ a,a<s.images.length→(jI s d (aN s.bits) (i+1)).getD a default=if a=i then uo d (aN s.bits) i (s.images.getD i default) else (jI s d (aN s.bits) i).getD a default:=fun a ha=>by
   rw [uK ha,uK ha];by_cases e:a=i
   ·rw [if_pos (by omega),if_pos e,e]
   ·rw [if_neg e];by_cases h2:a<i
    ·rw [if_pos h2,if_pos (by omega)]
    ·rw [if_neg h2,if_neg (by omega)]
  rcases hB with hB|⟨hB,hB2,hB3,hB4⟩
  ·have e1:uo d (aN s.bits) i (s.images.getD i default)=s.images.getD i default:=by unfold uo;rw [if_pos hB]
   rw [e1] at hnx;have g2:((jI s d (aN s.bits) i).getD i default).solid=true:=by rw [hoi];exact hB
   repeat' (first|with_reducible exact cz|refine aj (And.intro g1 g2) ?_|refine bL ?_|((first|refine an (fun K hK => ?_)|refine pj ?_);and_intros;all_goals first|(refine hK _ ?_;clear hK K)|try exact ai)|((first|apply dC|apply dE);(case hf=>rfl);(case hc=>exact du);(all_goals first|(intro hb;(try simp only [nR] at hb))|skip))|exact bd|(refine aH (fun hb => ?_) (fun hb => ?_);all_goals try exact ax)|refine eo (fun KB hB => ?_)|(refine hB _ ?_;clear hB KB)|refine gM (S:=Sg) (by assumption) ?_|(refine bF ?_;(try clear hB KB);(try clear hK K)))
   try rw [ae]
   refine ao (i+1) ?_ (by omega) (by omega);refine ar [(1,some 1),(2,some 2),(3,some 3),(4,some 4)] ?_ ?_;and_intros;all_goals try exact ak
   refine .inr fun a ha j hj => ?_;show PV.le ((aF ((jI s d (aN s.bits) i).getD a default)).getD j .any) ((aF ((jI s d (aN s.bits) (i+1)).getD a default)).getD j .any);rw [hnx a ha];by_cases e:a=i
   ·rw [if_pos e,e,hoi];exact PV.le_refl _
   ·rw [if_neg e];exact PV.le_refl _
  ·have g2:((jI s d (aN s.bits) i).getD i default).solid=false:=by rw [hoi];exact hB
   have hw1:(s.images.getD i default).w * (s.images.getD i default).h≤5 * 4:=Int.mul_le_mul hB3.2 hB4.2 (by omega) (by omega);have hw0:0≤(s.images.getD i default).w * (s.images.getD i default).h:=Int.mul_nonneg (by omega) (by omega);have hpx:=oe (tD d i) ((s.images.getD i default).w * (s.images.getD i default).h) (aN s.bits) (hrow i) hw0 (by omega) hu;have hpl:(aY (tD d i) ((s.images.getD i default).w * (s.images.getD i default).h).toNat (aN s.bits)).length=((s.images.getD i default).w * (s.images.getD i default).h).toNat:=by simp [aY]
   have hio:=kQ (s.images.getD i default).w (s.images.getD i default).h (aY (tD d i) ((s.images.getD i default).w * (s.images.getD i default).h).toNat (aN s.bits)) (by omega);have e1:uo d (aN s.bits) i (s.images.getD i default)=bR (s.images.getD i default).w (s.images.getD i default).h (aY (tD d i) ((s.images.getD i default).w * (s.images.getD i default).h).toNat (aN s.bits)):=by unfold uo;rw [if_neg (by rw [hB];decide)]
   rw [e1] at hnx;generalize aY (tD d i) ((s.images.getD i default).w * (s.images.getD i default).h).toNat (aN s.bits)=px at *
   generalize bR (s.images.getD i default).w (s.images.getD i default).h px=im at *
   repeat' (first|with_reducible exact cz|refine aj (And.intro g1 g2) ?_|refine bL ?_|((with_reducible refine aX (id:=12) (fun K hW => ?_));(try simp (maxSteps:=999999)(disch:=omega) only [go_sem]);and_intros;all_goals first|(refine hK _ ?_;clear hK K)|try exact ai)|((first|refine an (fun K hK => ?_)|refine pj ?_);and_intros;all_goals first|(refine hK _ ?_;clear hK K)|try exact ai)|((first|apply dC|apply dE);(case hf=>rfl);(case hc=>exact du);(all_goals first|(intro hb;(try simp only [nR] at hb))|skip))|exact bd|(refine aH (fun hb => ?_) (fun hb => ?_);all_goals try exact ax)|refine eo (fun KB hB => ?_)|(refine hB _ ?_;clear hB KB)|refine gM (S:=Sg) (by assumption) ?_|(refine bF ?_;(try clear hB KB);(try clear hK K)))
   refine hW _ (aP [(4, .b (.c (.ptr 1 0))),(6, .b (B false)),(7, .b (.c (.ptr 2 0))),(8, .b (.c (.ptr 3 0))),(9, .b (U (aN s.bits))),(10, .b (I i)),(11, .b (.c (.ptr 5 0))),(12, .b (.c (.ptr 6 0)))] [(1, .fix ((fW d).map CV.p)),(2, .fix ((ay s).map CV.p)),
    (3, .fix [.p (PI s.bits), .p (PI s.canvas.x0), .p (PI s.canvas.y0), .p (PI s.canvas.x1), .p (PI s.canvas.y1), .p (PI s.tileW), .p (PI s.tileH), .p (dq s.order), .own 4 s.images.length, .p (kU s.ops)]),(4, .arr 49 28 s.images.length (aQ aF (jI s d (aN s.bits) i))),(5, .fix ((aF (s.images.getD i default)).map CV.p)),(6, .fix ((CD YU).map CV.p))] 7) ?_ ?_
   ·clear hW;rw [← hoi];refine ar [(1,some 1),(2,some 2),(3,some 3),(4,some 4),(5,some 5),(6,some 6)] ?_ ?_;and_intros;all_goals try exact ak
    all_goals exact bP
   clear hW;refine gQ ?_;refine jM fun K hK => ?_;refine bV ?_;and_intros;all_goals first|(refine hK _ ?_;clear hK K)|exact ai|skip
   refine zL (t:=decide ((i:Int)<d.pics.length)) (aP [(4, .b (.c (.ptr 1 0))),(6, .b (B false)),(7, .b (.c (.ptr 2 0))),(8, .b (.c (.ptr 3 0))),(9, .b (U (aN s.bits))),(10, .b (I i)),(11, .b (.c (.ptr 5 0))),(12, .b (.c (.ptr 6 0)))] [(1, .fix ((fW d).map CV.p)),(2, .fix ((ay s).map CV.p)),
    (3, .fix [.p (PI s.bits), .p (PI s.canvas.x0), .p (PI s.canvas.y0), .p (PI s.canvas.x1), .p (PI s.canvas.y1), .p (PI s.tileW), .p (PI s.tileH), .p (dq s.order), .own 4 s.images.length, .p (kU s.ops)]),(4, .arr 49 28 s.images.length (aQ aF (jI s d (aN s.bits) i))),(5, .fix ((aF (s.images.getD i default)).map CV.p)),(6, .fix ((CD (tD d i)).map CV.p))] 7) ?_ ?_ ?_ ?_
   ·exact ba
   ·intro h0;rw [decide_eq_true_eq] at h0;have hr:tD d i=(d.pics.getD i default).row:=by unfold tD;rw [if_pos (by omega)]
    rw [hr];repeat' (first|with_reducible exact cz|refine bL ?_|((first|refine an (fun K hK => ?_)|refine pj ?_);and_intros;all_goals first|(refine hK _ ?_;clear hK K)|try exact ai)|((first|apply dC|apply dE);(case hf=>rfl);(case hc=>exact du);(all_goals first|(intro hb;(try simp only [nR] at hb))|skip))|exact bd|(refine aH (fun hb => ?_) (fun hb => ?_);all_goals try exact ax)|refine eo (fun KB hB => ?_)|(refine hB _ ?_;clear hB KB)|refine gM (S:=Sg) (by assumption) ?_|(refine bF ?_;(try clear hB KB);(try clear hK K)))
    try rw [ae]
    refine ⟨_, ?_,rfl⟩;refine ar [(1,some 1),(2,some 2),(3,some 3),(4,some 4),(5,some 5),(6,some 6)] ?_ ?_;and_intros;all_goals try exact ak
   ·intro h0;rw [decide_eq_false_iff_not] at h0;have hr:tD d i=YU:=by unfold tD;rw [if_neg (by omega)]
    rw [hr];repeat' (first|with_reducible exact cz|refine bL ?_|((first|refine an (fun K hK => ?_)|refine pj ?_);and_intros;all_goals first|(refine hK _ ?_;clear hK K)|try exact ai)|((first|apply dC|apply dE);(case hf=>rfl);(case hc=>exact du);(all_goals first|(intro hb;(try simp only [nR] at hb))|skip))|exact bd|(refine aH (fun hb => ?_) (fun hb => ?_);all_goals try exact ax)|refine eo (fun KB hB => ?_)|(refine hB _ ?_;clear hB KB)|refine gM (S:=Sg) (by assumption) ?_|(refine bF ?_;(try clear hB KB);(try clear hK K)))
    try rw [ae]
    refine ⟨_, ?_,rfl⟩;refine ar [(1,some 1),(2,some 2),(3,some 3),(4,some 4),(5,some 5),(6,some 6)] ?_ ?_;and_intros;all_goals try exact ak
   refine nc (id:=15) (.br 0 (.br 2 (.br 3 (.br 5 (.br 7 (.br 8 (.br 9 (.br 10 (.br 11 (.br 12 (.br 13 (.br 1 (.br 4 (.br 6 (.br 14 (.br 15 (.br 16 (.br 17 (.br 18 (.br 19 (.br 20 .leaf .nil) .nil) .nil) .nil) .nil) .nil) .nil) (.br 14 (.br 6 (.br 15 (.br 16 (.br 17 (.br 18 (.br 19 (.br 20 .leaf .nil) .nil) .nil) .nil) .nil) .nil) .nil) .nil)) (.br 6 (.br 4 (.br 14 (.br 15 (.br 16 (.br 17 (.br 18 (.br 19 (.br 20 .leaf .nil) .nil) .nil) .nil) .nil) .nil) .nil) (.br 14 (.br 4 (.br 15 (.br 16 (.br 17 (.br 18 (.br 19 (.br 20 .leaf .nil) .nil) .nil) .nil) .nil) .nil) .nil) .nil)) (.br 14 (.br 4 (.br 6 (.br 15 (.br 16 (.br 17 (.br 18 (.br 19 (.br 20 .leaf .nil) .nil) .nil) .nil) .nil) .nil) .nil) .nil) .nil))) (.br 4 (.br 1 (.br 6 (.br 14 (.br 15 (.br 16 (.br 17 (.br 18 (.br 19 (.br 20 .leaf .nil) .nil) .nil) .nil) .nil) .nil) .nil) (.br 14 (.br 6 (.br 15 (.br 16 (.br 17 (.br 18 (.br 19 (.br 20 .leaf .nil) .nil) .nil) .nil) .nil) .nil) .nil) .nil)) (.br 6 (.br 1 (.br 14 (.br 15 (.br 16 (.br 17 (.br 18 (.br 19 (.br 20 .leaf .nil) .nil) .nil) .nil) .nil) .nil) .nil) (.br 14 (.br 1 (.br 15 (.br 16 (.br 17 (.br 18 (.br 19 (.br 20 .leaf .nil) .nil) .nil) .nil) .nil) .nil) .nil) .nil)) (.br 14 (.br 1 (.br 6 (.br 15 (.br 16 (.br 17 (.br 18 (.br 19 (.br 20 .leaf .nil) .nil) .nil) .nil) .nil) .nil) .nil) .nil) .nil))) (.br 6 (.br 1 (.br 4 (.br 14 (.br 15 (.br 16 (.br 17 (.br 18 (.br 19 (.br 20 .leaf .nil) .nil) .nil) .nil) .nil) .nil) .nil) (.br 14 (.br 4 (.br 15 (.br 16 (.br 17 (.br 18 (.br 19 (.br 20 .leaf .nil) .nil) .nil) .nil) .nil) .nil) .nil) .nil)) (.br 4 (.br 1 (.br 14 (.br 15 (.br 16 (.br 17 (.br 18 (.br 19 (.br 20 .leaf .nil) .nil) .nil) .nil) .nil) .nil) .nil) (.br 14 (.br 1 (.br 15 (.br 16 (.br 17 (.br 18 (.br 19 (.br 20 .leaf .nil) .nil) .nil) .nil) .nil) .nil) .nil) .nil)) (.br 14 (.br 1 (.br 4 (.br 15 (.br 16 (.br 17 (.br 18 (.br 19 (.br 20 .leaf .nil) .nil) .nil) .nil) .nil) .nil) .nil) .nil) .nil))) (.br 14 (.br 1 (.br 4 (.br 6 (.br 15 (.br 16 (.br 17 (.br 18 (.br 19 (.br 20 .leaf .nil) .nil) .nil) .nil) .nil) .nil) .nil) .nil) .nil) .nil)))) .nil) .nil) .nil) .nil) .nil) .nil) .nil) .nil) .nil) .nil) .nil) (by decide +kernel) ?_ (fun K0 hW => ?_)
   ·exact bZ
   replace hW:=ka hW;repeat' (first|exact bp|(refine bO (fun K' hK' => ?_) ?_)|(refine aZ (hW _ ?_);clear hW)|((first|refine aa (hpx) ?_|refine aA (fun hg=>hpx) ?_|refine aa (hio) ?_|refine aA (fun hg=>hio) ?_);(try simp (maxSteps:=999999)(disch:=omega) only [go_sem]);and_intros;(all_goals first|(refine hK' _ ?_;clear hK' K')|trivial|omega|exact Nat.le_of_ble_eq_true rfl|exact ai|skip))|(simp (maxSteps:=999999)(disch:=omega) only [go_sem];and_intros;(all_goals first|(refine hK' _ ?_;clear hK' K')|trivial|omega|exact Nat.le_of_ble_eq_true rfl|exact ai|skip)))
   all_goals
    refine gi ?_
    refine .inl ⟨aP [(4, .b (.c (.ptr 1 0))),(6, .b (B false)),(7, .b (.c (.ptr 2 0))),(8, .b (.c (.ptr 3 0))),(9, .b (U (aN s.bits))),(10, .b (I i))] [(1, .fix ((fW d).map CV.p)),(2, .fix ((ay s).map CV.p)),
     (3, .fix [.p (PI s.bits), .p (PI s.canvas.x0), .p (PI s.canvas.y0), .p (PI s.canvas.x1), .p (PI s.canvas.y1), .p (PI s.tileW), .p (PI s.tileH), .p (dq s.order), .own 4 s.images.length, .p (kU s.ops)]),(4, .arr 49 28 s.images.length (aQ aF (jI s d (aN s.bits) (i+1))))] 5, ?_, ?_⟩
    ·refine ar [(1,some 1),(2,some 2),(3,some 3),(4,some 4)] ?_ ?_;and_intros;all_goals try exact ak
     refine .inr fun a ha j hj => ?_;show PV.le _ ((aF ((jI s d (aN s.bits) (i+1)).getD a default)).getD j .any);rw [hnx a ha];by_cases e:a=i
     ·rw [if_pos e,if_pos e,if_pos ⟨Nat.zero_le _,hj⟩];have hivl:j=0∨j=1∨j=2∨j=3∨j=4∨j=5∨j=6∨j=7∨j=8∨j=9∨j=10∨j=11∨j=12∨j=13∨j=14∨j=15∨j=16∨j=17∨j=18∨j=19∨j=20∨j=21∨j=22∨j=23∨j=24∨j=25∨j=26∨j=27:=by omega
      rcases hivl with rfl|rfl|rfl|rfl|rfl|rfl|rfl|rfl|rfl|rfl|rfl|rfl|rfl|rfl|rfl|rfl|rfl|rfl|rfl|rfl|rfl|rfl|rfl|rfl|rfl|rfl|rfl|rfl <;> exact PV.le_refl _
     ·rw [if_neg e,if_neg e];exact PV.le_refl _
    repeat' (first|with_reducible exact cz|refine aj g1 ?_|refine bL ?_|((first|refine an (fun K hK => ?_)|refine pj ?_);and_intros;all_goals first|(refine hK _ ?_;clear hK K)|try exact ai)|((first|apply dC|apply dE);(case hf=>rfl);(case hc=>exact du);(all_goals first|(intro hb;(try simp only [nR] at hb))|skip))|exact bd|(refine aH (fun hb => ?_) (fun hb => ?_);all_goals try exact ax)|refine eo (fun KB hB => ?_)|(refine hB _ ?_;clear hB KB)|refine gM (S:=Sg) (by assumption) ?_|(refine bF ?_;(try clear hB KB);(try clear hK K)))
    rw [ae];refine ao (i+1) ?_ (by omega) (by omega);refine ar [(1,some 1),(2,some 2),(3,some 3),(4,some 4)] ?_ ?_;and_intros;all_goals try exact ak
 ·have g1:decide ((i:Int)<s.images.length)=false:=decide_eq_false (by omega);obtain rfl:i=s.images.length:=by omega
  repeat' (first|with_reducible exact cz|refine aj g1 ?_|refine bL ?_|((first|refine an (fun K hK => ?_)|refine pj ?_);and_intros;all_goals first|(refine hK _ ?_;clear hK K)|try exact ai)|((first|apply dC|apply dE);(case hf=>rfl);(case hc=>exact du);(all_goals first|(intro hb;(try simp only [nR] at hb))|skip))|exact bd|(refine aH (fun hb => ?_) (fun hb => ?_);all_goals try exact ax)|refine eo (fun KB hB => ?_)|(refine hB _ ?_;clear hB KB)|refine gM (S:=Sg) (by assumption) ?_|(refine bF ?_;(try clear hB KB);(try clear hK K)))
  refine hV _ (aP [(6, .b (B false)),(7, .b (.c (.ptr 1 0))),(8, .b (.c (.ptr 2 0)))] [(1, .fix ((ay s).map CV.p)),(2, .fix ((ay t).map CV.p))] 3) ?_ ?_
  ·rw [hse];refine ar [(1,some 2),(2,some 3)] ?_ ?_;and_intros;all_goals try exact ak
   ·rw [htd];exact sJ.symm
   ·intro i hi j hj;show PV.le _ ((aF (t.images.getD i default)).getD j .any);rw [htd];exact PV.le_refl _
  clear hV;refine cM (id:=16) (.br 0 (.br 2 (.br 1 (.br 3 (.br 4 (.br 5 (.br 6 (.br 7 .leaf .nil) .nil) .nil) (.br 5 (.br 4 (.br 6 (.br 7 .leaf .nil) .nil) .nil) .nil)) (.br 4 (.br 3 (.br 5 (.br 6 (.br 7 .leaf .nil) .nil) .nil) (.br 5 (.br 3 (.br 6 (.br 7 .leaf .nil) .nil) .nil) .nil)) (.br 5 (.br 3 (.br 4 (.br 6 (.br 7 .leaf .nil) .nil) .nil) (.br 4 (.br 3 (.br 6 (.br 7 .leaf .nil) .nil) .nil) .nil)) .nil))) (.br 4 (.br 1 (.br 3 (.br 5 (.br 6 (.br 7 .leaf .nil) .nil) .nil) (.br 5 (.br 3 (.br 6 (.br 7 .leaf .nil) .nil) .nil) .nil)) (.br 5 (.br 1 (.br 3 (.br 6 (.br 7 .leaf .nil) .nil) .nil) .nil) .nil)) (.br 5 (.br 1 (.br 3 (.br 4 (.br 6 (.br 7 .leaf .nil) .nil) .nil) (.br 4 (.br 3 (.br 6 (.br 7 .leaf .nil) .nil) .nil) .nil)) (.br 4 (.br 1 (.br 3 (.br 6 (.br 7 .leaf .nil) .nil) .nil) .nil) .nil)) .nil))) .nil) .nil) (by decide +kernel) bZ (fun K0 hW => ?_);refine (fun (tl:∀ st,Le st (aP [(6, .b (B false)),(8, .b (.c (.ptr 1 0))),(13, .b (.c (.ptr 2 0))),(14, .b (.c (.ptr 3 0)))] [(1, .fix ((ay t).map CV.p)),(2, .fix ((ay (cl s (nQ s).1)).map CV.p)),(3, .fix ((ay (cl t (nQ s).1)).map CV.p))] 4)→K0 st) => ?_) (fun st hl=>hW st _ hl ?_)
  ·clear hW;repeat' (first|exact bp|(refine bO (fun K' hK' => ?_) ?_)|(refine aZ (tl _ ?_);clear tl)|((first|refine aa (hsi) ?_|refine aA (fun hg=>hsi) ?_|refine aa (hst) ?_|refine aA (fun hg=>hst) ?_);(try simp (maxSteps:=999999)(disch:=omega) only [go_sem]);and_intros;(all_goals first|(refine hK' _ ?_;clear hK' K')|trivial|omega|exact Nat.le_of_ble_eq_true rfl|exact ai|skip))|(simp (maxSteps:=999999)(disch:=omega) only [go_sem];and_intros;(all_goals first|(refine hK' _ ?_;clear hK' K')|trivial|omega|exact Nat.le_of_ble_eq_true rfl|exact ai|skip)))
   all_goals first
    | (refine ar [(1,some 2),(2,some 3),(3,some 4)] ?_ ?_;and_intros;(all_goals exact ak);done)
    | (refine ar [(1,some 2),(2,some 4),(3,some 3)] ?_ ?_;and_intros;(all_goals exact ak);done)
  clear hW;repeat' (first|with_reducible exact cz|refine aj ht ?_|refine bL ?_|((first|refine an (fun K hK => ?_)|refine pj ?_|refine aa (r1) ?_|refine aA (fun hg=>r1) ?_|refine aa (r2) ?_|refine aA (fun hg=>r2) ?_|refine aa (haw) ?_|refine aA (fun hg=>haw) ?_|refine aa (hso) ?_|refine aA (fun hg=>hso) ?_|refine aa (hsm) ?_|refine aA (fun hg=>hsm) ?_);and_intros;all_goals first|(refine hK _ ?_;clear hK K)|try exact ai)|((first|apply dC|apply dE);(case hf=>rfl);(case hc=>exact du);(all_goals first|(intro hb;(try simp only [nR] at hb))|skip))|exact bd|(refine aH (fun hb => ?_) (fun hb => ?_);all_goals try exact ax)|refine eo (fun KB hB => ?_)|(refine hB _ ?_;clear hB KB)|refine gM (S:=Sg) (by assumption) ?_|(refine bF ?_;(try clear hB KB);(try clear hK K)))
  rfl
end Go.Proofs.YtdjmpacladhijaaGreatDoor
