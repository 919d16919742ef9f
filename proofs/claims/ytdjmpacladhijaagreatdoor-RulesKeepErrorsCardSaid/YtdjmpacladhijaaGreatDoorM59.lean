/- Part of the proof: H4. -/
import Derived.Test.YtdjmpacladhijaaGreatDoorM49
import Derived.Test.YtdjmpacladhijaaGreatDoorM55
set_option linter.unusedSimpArgs false
set_option linter.unusedVariables false
set_option maxHeartbeats 4000000
set_option maxRecDepth 16000
namespace Go.Proofs.YtdjmpacladhijaaGreatDoor
open Go Go.SL
open Go.RowKit (wrap64)
attribute [local go_sem] Int.toNat_natCast vI jZ HU yA
theorem Yw (s:Script):(fc s).length≤10 * s.ops.length:=by
 unfold fc;split
 ·exact Fv s _
 ·exact Nat.zero_le _
theorem Hj (c : Scene) (hc : SceneOk c) (l : List Int) (hl : l.length ≤ 4611686018427387904) (pick which : Int) (p : Pixel) (hp : 0 ≤ p.c0 ∧ 0 ≤ p.c1 ∧ 0 ≤ p.c2) :
  aB Sg 7 [ag (fW c), .c (.p (dq l)),I pick,I which,ag (aU p)] (fun x=>x = .b (B true)):=by
 have ht:True:=trivial;have hg:=kE c hc;have hi:=gK c;have hgood:=(kF c).len;have hb:=BN (aI c) l (kj c) hl (by omega) (by show (aT c).length≤_;omega);have hs:=Ce c l;have H:=Av c l;have ho:=vR c l;have hO:=Of.biasE c l;generalize hS:dX (aI c) l=s at *
 have him:=H.im0;have hiw:s.images.length≤1000000000:=H.im;have hm:=bD which (s.images.length:Int) (by omega) (by omega);have b1:=Int.emod_nonneg which (show (s.images.length:Int)≠0 by omega);have b2:=Int.emod_lt_of_pos which (show 0<(s.images.length:Int) by omega);obtain ⟨k,hk⟩:=Int.eq_ofNat_of_zero_le b1;rw [hk] at hm;have hkl:k<s.images.length:=by omega
 obtain ⟨s1,hsx⟩:∃ s1:Script,s1=kg s k p (cH s k).w:=⟨_,rfl⟩
 have hse:ay s1=[PI s.bits,PI s.canvas.x0,PI s.canvas.y0,PI s.canvas.x1,PI s.canvas.y1,PI s.tileW,PI s.tileH,dq s.order,qq s1.images,kU s.ops]:=by rw [hsx];rfl
 have hs1:ScriptLen s1:=hsx ▸ GD hs k p _;have H1:Sml s1:=hsx ▸ Ip H k p _;have V1:VOps s1:=hsx ▸ CN hO.V k p _;have ho1:s1.ops=s.ops:=by rw [hsx];rfl
 have hop1:∀ o ∈ s1.ops,0≤o.opacity:=by rw [ho1];exact hO.op
 have E1:EvOk s1:=Nh hO.ev hO.V hO.im hp (k:=k) (w:=(cH s k).w) (by rw [hsx];rfl) V1 hop1;have hcv:s1.canvas=s.canvas:=by rw [hsx];rfl
 have hsm:Small s1.canvas:=by rw [hcv];exact hO.small
 have hrx:=KZ s1 hs1;have hrb:=Yw s1;have ho3:s1.ops.length≤1000:=by rw [ho1];omega
 have haw:=um;have r1:=gJ s1 E1 (fun _=>hsm);refine az Tryz.func7 [.tmp 10] ?_;repeat' (first|with_reducible exact cz|refine bL ?_|((with_reducible refine aX (id:=3) (fun K hW => ?_));(try simp (maxSteps:=999999)(disch:=omega) only [go_sem]);and_intros;all_goals first|(refine hK _ ?_;clear hK K)|try exact ai)|((first|refine an (fun K hK => ?_)|refine pj ?_|refine aa (hg) ?_|refine aA (fun hg=>hg) ?_|refine KX (hb) ?_|refine aa (hm) ?_|refine aA (fun hg=>hm) ?_);and_intros;all_goals first|(refine hK _ ?_;clear hK K)|try exact ai)|((first|apply dC|apply dE);(case hf=>rfl);(case hc=>exact du);(all_goals first|(intro hb;(try simp only [nR] at hb))|skip))|exact bd|(refine aH (fun hb => ?_) (fun hb => ?_);all_goals try exact ax)|refine eo (fun KB hB => ?_)|(refine hB _ ?_;clear hB KB)|refine gM (S:=Sg) (by assumption) ?_|(refine bF ?_;(try clear hB KB);(try clear hK K)))
 refine hW _ (aP [(2, .b (I pick)),(10, .b (B false)),(11, .b (.c (.ptr 1 0)))] [(1, .fix ((ay s1).map CV.p))] 2) ?_ ?_
 ·clear hW;rw [hse];refine ar [(1,some 3)] ?_ ?_;and_intros;all_goals try exact ak
  ·rw [hsx];exact List.length_set.symm
  ·intro i hi j hj;show PV.le _ (aQ aF s1.images i j);rw [hsx];show PV.le _ (aQ aF (s.images.set k _) i j);rw [RP hkl];by_cases e:i=k
   ·subst e;rw [if_pos rfl,if_pos rfl];have hivl:j=0∨j=1∨j=2∨j=3∨j=4∨j=5∨j=6∨j=7∨j=8∨j=9∨j=10∨j=11∨j=12∨j=13∨j=14∨j=15∨j=16∨j=17∨j=18∨j=19∨j=20∨j=21∨j=22∨j=23∨j=24∨j=25∨j=26∨j=27:=by omega
    rcases hivl with rfl|rfl|rfl|rfl|rfl|rfl|rfl|rfl|rfl|rfl|rfl|rfl|rfl|rfl|rfl|rfl|rfl|rfl|rfl|rfl|rfl|rfl|rfl|rfl|rfl|rfl|rfl|rfl <;> exact PV.le_refl _
   ·rw [if_neg e,if_neg e];exact PV.le_refl _
 clear hW;clear hsx hse;by_cases hz:(fc s1).length=0
 ·have hz2:(((fc s1).length:Int) == 0)=true:=by rw [hz];rfl
  repeat' (first|with_reducible exact cz|refine aj hz2 ?_|refine bL ?_|((first|refine an (fun K hK => ?_)|refine pj ?_|refine aa (hrx) ?_|refine aA (fun hg=>hrx) ?_|refine aa (haw) ?_|refine aA (fun hg=>haw) ?_);and_intros;all_goals first|(refine hK _ ?_;clear hK K)|try exact ai)|((first|apply dC|apply dE);(case hf=>rfl);(case hc=>exact du);(all_goals first|(intro hb;(try simp only [nR] at hb))|skip))|exact bd|(refine aH (fun hb => ?_) (fun hb => ?_);all_goals try exact ax)|refine eo (fun KB hB => ?_)|(refine hB _ ?_;clear hB KB)|refine gM (S:=Sg) (by assumption) ?_|(refine bF ?_;(try clear hB KB);(try clear hK K)))
  all_goals rfl
 have hz2:(((fc s1).length:Int) == 0)=false:=beq_eq_false_iff_ne.2 (by omega);have hm2:=bD pick ((fc s1).length:Int) (by omega) (by omega);have c1:=Int.emod_nonneg pick (show ((fc s1).length:Int)≠0 by omega);have c2:=Int.emod_lt_of_pos pick (show 0<((fc s1).length:Int) by omega);have hxm:((fc s1).getD (pick % ((fc s1).length:Int)).toNat default) ∈ fc s1:=by rw [List.getD_eq_getElem?_getD,List.getElem?_eq_getElem (by omega)];exact List.getElem_mem _
 have hxa:=vF.1 hxm;have hle:=EY V1.wf hxa.2;have hap:=IE s1 V1 hs1 H1 ((fc s1).getD (pick % ((fc s1).length:Int)).toNat default) hxa.2 (by omega);obtain ⟨V2,ho2⟩:=xp V1 hop1 hxa.2;have E2:EvOk (oj s1 ((fc s1).getD (pick % ((fc s1).length:Int)).toNat default)):=⟨⟨E1.len.order,E1.len.images,Nat.le_trans V2.cnt (by decide)⟩,ho2,fun _=>E1.im V1.frame⟩
 have hck:=An V1 V2 rfl rfl;have r2:=gJ _ E2 (fun _=>hsm);rw [hck] at r2;generalize oj s1 ((fc s1).getD (pick % ((fc s1).length:Int)).toNat default)=t at *
 generalize jE s1=M at *
 generalize jE t=N at *
 generalize (bz s1).1=e at *
 generalize (bz s1).2=a at *
 repeat' (first|with_reducible exact cz|refine aj hz2 ?_|refine bL ?_|((first|refine an (fun K hK => ?_)|refine pj ?_|refine aa (hrx) ?_|refine aA (fun hg=>hrx) ?_);and_intros;all_goals first|(refine hK _ ?_;clear hK K)|try exact ai)|((first|apply dC|apply dE);(case hf=>rfl);(case hc=>exact du);(all_goals first|(intro hb;(try simp only [nR] at hb))|skip))|exact bd|(refine aH (fun hb => ?_) (fun hb => ?_);all_goals try exact ax)|refine eo (fun KB hB => ?_)|(refine hB _ ?_;clear hB KB)|refine gM (S:=Sg) (by assumption) ?_|(refine bF ?_;(try clear hB KB);(try clear hK K)))
 refine cM (id:=7) (.br 0 (.br 1 (.br 2 (.br 3 (.br 4 (.br 5 (.br 6 (.br 7 (.br 8 (.br 9 (.br 10 (.br 11 (.br 12 (.br 13 (.br 14 .leaf .nil) .nil) .nil) .nil) .nil) .nil) (.br 12 (.br 8 (.br 9 (.br 10 (.br 11 (.br 13 (.br 14 .leaf .nil) .nil) .nil) .nil) .nil) .nil) .nil)) .nil) .nil) (.br 12 (.br 5 (.br 6 (.br 7 (.br 8 (.br 9 (.br 10 (.br 11 (.br 13 (.br 14 .leaf .nil) .nil) .nil) .nil) .nil) .nil) .nil) .nil) .nil) .nil)) .nil) .nil) .nil) .nil) .nil) (by decide +kernel) bZ (fun K0 hW => ?_);refine (fun (tl:∀ st,Le st (aP [(10, .b (B false)),(11, .b (.c (.ptr 1 0))),(14, .b (.c (.ptr 2 0))),(15, .b (I 0))] [(1, .fix ((ay s1).map CV.p)),(2, .fix ((ay t).map CV.p))] 3)→K0 st) => ?_) (fun st hl=>hW st _ hl ?_)
 ·clear hW;repeat' (first|exact bp|(refine bO (fun K' hK' => ?_) ?_)|(refine aZ (tl _ ?_);clear tl)|((first|refine aa (hm2) ?_|refine aA (fun hg=>hm2) ?_|refine aa (hap) ?_|refine aA (fun hg=>hap) ?_);(try simp (maxSteps:=999999)(disch:=omega) only [go_sem]);and_intros;(all_goals first|(refine hK' _ ?_;clear hK' K')|trivial|omega|exact Nat.le_of_ble_eq_true rfl|exact ai|skip))|(simp (maxSteps:=999999)(disch:=omega) only [go_sem];and_intros;(all_goals first|(refine hK' _ ?_;clear hK' K')|trivial|omega|exact Nat.le_of_ble_eq_true rfl|exact ai|skip)))
  all_goals
   refine ar [(1,some 1),(2,some 2)] ?_ ?_;and_intros;all_goals try exact ak
 clear hW;repeat' (first|with_reducible exact cz|refine aj ht ?_|refine bL ?_|((first|refine an (fun K hK => ?_)|refine pj ?_|refine aa (haw) ?_|refine aA (fun hg=>haw) ?_|refine aa (r1) ?_|refine aA (fun hg=>r1) ?_|refine aa (r2) ?_|refine aA (fun hg=>r2) ?_);and_intros;all_goals first|(refine hK _ ?_;clear hK K)|try exact ai)|((first|apply dC|apply dE);(case hf=>rfl);(case hc=>exact du);(all_goals first|(intro hb;(try simp only [nR] at hb))|skip))|exact bd|(refine aH (fun hb => ?_) (fun hb => ?_);all_goals try exact ax)|refine eo (fun KB hB => ?_)|(refine hB _ ?_;clear hB KB)|refine gM (S:=Sg) (by assumption) ?_|(refine bF ?_;(try clear hB KB);(try clear hK K)))
 simp only [beq_self_eq_true,Bool.and_self,Bool.true_and,Bool.and_true]
end Go.Proofs.YtdjmpacladhijaaGreatDoor
