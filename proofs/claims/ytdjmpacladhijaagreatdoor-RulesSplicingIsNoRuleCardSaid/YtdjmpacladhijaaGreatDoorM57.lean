/- Part of the proof: H2. -/
import Derived.Test.YtdjmpacladhijaaGreatDoorM44
import Derived.Test.YtdjmpacladhijaaGreatDoorM55
set_option linter.unusedSimpArgs false
set_option linter.unusedVariables false
set_option maxHeartbeats 4000000
set_option maxRecDepth 16000
namespace Go.Proofs.YtdjmpacladhijaaGreatDoor
open Go Go.SL
open Go.RowKit (wrap64)
attribute [local go_sem] Int.toNat_natCast
attribute [local go_sem] ZO
theorem JZ (n:Int):aB Sg 6 [I n] (fun r=>r = .b (B true)):=by
 have ht:True:=trivial;have hm:=bD n 1000 (by omega) (by omega);have b1:=Int.emod_nonneg n (show (1000:Int)≠0 by omega);have b2:=Int.emod_lt_of_pos n (show (0:Int)<1000 by omega);generalize n % 1000=x at *
 have h3:=Hv x 50 100 254 0 0 0 ⟨b1,b2⟩;obtain ⟨ea,ca,va⟩:=FA a8n b1 b2;obtain ⟨eb,cb,vb⟩:=FA a9j b1 b2;have sm:Small (⟨x,0,x+1,1⟩:Rect):=⟨by dsimp only;omega,by dsimp only;omega,by dsimp only;omega,by dsimp only;omega,by dsimp only;omega,by dsimp only;omega⟩
 have r1:=gJ _ ea (fun _=>sm);have r2:=gJ _ eb (fun _=>sm);have k1:jE (nv x [dK 0 50,dK 0 100,dK 0 254] (nb x))=jQ (nv x [dK 0 50,dK 0 100,dK 0 254] (nb x)) ⟨x,0,x+1,1⟩:=by unfold jE;rw [ca,if_pos rfl];rfl
 have k2:jE (nv x [dK 0 50,dK 0 100,dK 0 254] (oX false x))=jQ (nv x [dK 0 50,dK 0 100,dK 0 254] (oX false x)) ⟨x,0,x+1,1⟩:=by unfold jE;rw [cb,if_pos rfl];rfl
 rw [k1,ca] at r1;rw [k2,cb] at r2;have q1:=Ib (jQ (nv x [dK 0 50,dK 0 100,dK 0 254] (nb x)) ⟨x,0,x+1,1⟩) 0 0;have q2:=Ib (jQ (nv x [dK 0 50,dK 0 100,dK 0 254] (oX false x)) ⟨x,0,x+1,1⟩) 0 0;have p1:=uZ (s:=nv x [dK 0 50,dK 0 100,dK 0 254] (nb x)) sm (x:=x) (y:=0) (by unfold jo;dsimp only;omega);have p2:=uZ (s:=nv x [dK 0 50,dK 0 100,dK 0 254] (oX false x)) sm (x:=x) (y:=0) (by unfold jo;dsimp only;omega);rw [va] at p1;rw [vb] at p2;dsimp only at p1 p2;rw [show x - x=0 by omega,show (0:Int) - 0=0 from rfl] at p1 p2;rw [p1] at q1;rw [p2] at q2;obtain ⟨w1,w2⟩:=a8Q;generalize ch (nv 0 [dK 0 50,dK 0 100,dK 0 254] (nb 0)) 0 0=P1 at *
 generalize ch (nv 0 [dK 0 50,dK 0 100,dK 0 254] (oX false 0)) 0 0=P2 at *
 generalize jQ (nv x [dK 0 50,dK 0 100,dK 0 254] (nb x)) ⟨x,0,x+1,1⟩=M at *
 generalize jQ (nv x [dK 0 50,dK 0 100,dK 0 254] (oX false x)) ⟨x,0,x+1,1⟩=N at *
 have haw:=um;have d0:=sI 0 x;have d1:=sI 1 x;have d2:=sI 2 x;refine az Tryz.func6 [.tmp 2] ?_;repeat' (first|with_reducible exact cz|refine aj ht ?_|refine bL ?_|((with_reducible refine aX (id:=3) (fun K hW => ?_));(try simp (maxSteps:=999999)(disch:=omega) only [go_sem]);and_intros;all_goals first|(refine hK _ ?_;clear hK K)|try exact ai)|((first|refine an (fun K hK => ?_)|refine pj ?_|refine aa (hm) ?_|refine aA (fun hg=>hm) ?_|refine aa (h3) ?_|refine aA (fun hg=>h3) ?_|refine aa (d0) ?_|refine aA (fun hg=>d0) ?_|refine aa (d1) ?_|refine aA (fun hg=>d1) ?_|refine aa (d2) ?_|refine aA (fun hg=>d2) ?_);and_intros;all_goals first|(refine hK _ ?_;clear hK K)|try exact ai)|((first|apply dC|apply dE);(case hf=>rfl);(case hc=>exact du);(all_goals first|(intro hb;(try simp only [nR] at hb))|skip))|exact bd|(refine aH (fun hb => ?_) (fun hb => ?_);all_goals try exact ax)|refine eo (fun KB hB => ?_)|(refine hB _ ?_;clear hB KB)|refine gM (S:=Sg) (by assumption) ?_|(refine bF ?_;(try clear hB KB);(try clear hK K)))
 refine hW _ (aP [(2, .b (B false)),(3, .b (I x)),(4, .b (.c (.ptr 0 0)))] [(0, .fix ((ay (nv x [dK 0 50,dK 0 100,dK 0 254] (nb x))).map CV.p))] 1) ?_ ?_
 ·clear hW;refine ar [] ?_ ?_;and_intros;all_goals try exact ak
  intro i hi j hj;have hi3:i=0∨i=1∨i=2:=by omega
  rcases hi3 with rfl|rfl|rfl
  ·skip
   have hivl:j=0∨j=1∨j=2∨j=3∨j=4∨j=5∨j=6∨j=7∨j=8∨j=9∨j=10∨j=11:=by omega
   rcases hivl with rfl|rfl|rfl|rfl|rfl|rfl|rfl|rfl|rfl|rfl|rfl|rfl <;> exact PV.le_refl _
  ·skip
   have hivl:j=0∨j=1∨j=2∨j=3∨j=4∨j=5∨j=6∨j=7∨j=8∨j=9∨j=10∨j=11:=by omega
   rcases hivl with rfl|rfl|rfl|rfl|rfl|rfl|rfl|rfl|rfl|rfl|rfl|rfl <;> exact PV.le_refl _
  ·skip
   have hivl:j=0∨j=1∨j=2∨j=3∨j=4∨j=5∨j=6∨j=7∨j=8∨j=9∨j=10∨j=11:=by omega
   rcases hivl with rfl|rfl|rfl|rfl|rfl|rfl|rfl|rfl|rfl|rfl|rfl|rfl <;> exact PV.le_refl _
 clear hW;repeat' (first|with_reducible exact cz|refine aj ht ?_|refine bL ?_|((with_reducible refine aX (id:=5) (fun K hW => ?_));(try simp (maxSteps:=999999)(disch:=omega) only [go_sem]);and_intros;all_goals first|(refine hK _ ?_;clear hK K)|try exact ai)|((first|refine an (fun K hK => ?_)|refine pj ?_|refine aa (d0) ?_|refine aA (fun hg=>d0) ?_|refine aa (d1) ?_|refine aA (fun hg=>d1) ?_|refine aa (d2) ?_|refine aA (fun hg=>d2) ?_);and_intros;all_goals first|(refine hK _ ?_;clear hK K)|try exact ai)|((first|apply dC|apply dE);(case hf=>rfl);(case hc=>exact du);(all_goals first|(intro hb;(try simp only [nR] at hb))|skip))|exact bd|(refine aH (fun hb => ?_) (fun hb => ?_);all_goals try exact ax)|refine eo (fun KB hB => ?_)|(refine hB _ ?_;clear hB KB)|refine gM (S:=Sg) (by assumption) ?_|(refine bF ?_;(try clear hB KB);(try clear hK K)))
 refine hW _ (aP [(2, .b (B false)),(4, .b (.c (.ptr 0 0))),(5, .b (.c (.ptr 1 0)))] [(0, .fix ((ay (nv x [dK 0 50,dK 0 100,dK 0 254] (nb x))).map CV.p)),(1, .fix ((ay (nv x [dK 0 50,dK 0 100,dK 0 254] (oX false x))).map CV.p))] 2) ?_ ?_
 ·clear hW;refine ar [(1,some 1)] ?_ ?_;and_intros;all_goals try exact ak
  intro i hi j hj;have hi5:i=0∨i=1∨i=2∨i=3∨i=4:=by omega
  rcases hi5 with rfl|rfl|rfl|rfl|rfl
  ·skip
   have hivl:j=0∨j=1∨j=2∨j=3∨j=4∨j=5∨j=6∨j=7∨j=8∨j=9∨j=10∨j=11:=by omega
   rcases hivl with rfl|rfl|rfl|rfl|rfl|rfl|rfl|rfl|rfl|rfl|rfl|rfl <;> exact PV.le_refl _
  ·skip
   have hivl:j=0∨j=1∨j=2∨j=3∨j=4∨j=5∨j=6∨j=7∨j=8∨j=9∨j=10∨j=11:=by omega
   rcases hivl with rfl|rfl|rfl|rfl|rfl|rfl|rfl|rfl|rfl|rfl|rfl|rfl <;> exact PV.le_refl _
  ·skip
   have hivl:j=0∨j=1∨j=2∨j=3∨j=4∨j=5∨j=6∨j=7∨j=8∨j=9∨j=10∨j=11:=by omega
   rcases hivl with rfl|rfl|rfl|rfl|rfl|rfl|rfl|rfl|rfl|rfl|rfl|rfl <;> exact PV.le_refl _
  ·skip
   have hivl:j=0∨j=1∨j=2∨j=3∨j=4∨j=5∨j=6∨j=7∨j=8∨j=9∨j=10∨j=11:=by omega
   rcases hivl with rfl|rfl|rfl|rfl|rfl|rfl|rfl|rfl|rfl|rfl|rfl|rfl <;> exact PV.le_refl _
  ·skip
   have hivl:j=0∨j=1∨j=2∨j=3∨j=4∨j=5∨j=6∨j=7∨j=8∨j=9∨j=10∨j=11:=by omega
   rcases hivl with rfl|rfl|rfl|rfl|rfl|rfl|rfl|rfl|rfl|rfl|rfl|rfl <;> exact PV.le_refl _
 clear hW;repeat' (first|with_reducible exact cz|refine aj ht ?_|refine bL ?_|((first|refine an (fun K hK => ?_)|refine pj ?_|refine aa (r1) ?_|refine aA (fun hg=>r1) ?_|refine aa (r2) ?_|refine aA (fun hg=>r2) ?_|refine aa (haw) ?_|refine aA (fun hg=>haw) ?_|refine aa (q1) ?_|refine aA (fun hg=>q1) ?_|refine aa (q2) ?_|refine aA (fun hg=>q2) ?_);and_intros;all_goals first|(refine hK _ ?_;clear hK K)|try exact ai)|((first|apply dC|apply dE);(case hf=>rfl);(case hc=>exact du);(all_goals first|(intro hb;(try simp only [nR] at hb))|skip))|exact bd|(refine aH (fun hb => ?_) (fun hb => ?_);all_goals try exact ax)|refine eo (fun KB hB => ?_)|(refine hB _ ?_;clear hB KB)|refine gM (S:=Sg) (by assumption) ?_|(refine bF ?_;(try clear hB KB);(try clear hK K)))
 rw [w1,w2];rfl
end Go.Proofs.YtdjmpacladhijaaGreatDoor
