/- Part of the proof: H4. -/
import Derived.Test.YtdjmpacladhijaaGreatDoorM55
import Derived.Test.YtdjmpacladhijaaGreatDoorM58
set_option linter.unusedSimpArgs false
set_option linter.unusedVariables false
set_option maxHeartbeats 4000000
set_option maxRecDepth 16000
namespace Go.Proofs.YtdjmpacladhijaaGreatDoor
open Go Go.SL
open Go.RowKit (wrap64)
attribute [local go_sem] Int.toNat_natCast vI jZ HU yA
theorem FS (c : Scene) (hc : SceneOk c) (l : List Int) (hl : l.length ≤ 4611686018427387904) (which : Int) (p : Pixel) (hp : 0 ≤ p.c0 ∧ 0 ≤ p.c1 ∧ 0 ≤ p.c2) (wi : Int) :
  aB Sg 9 [ag (fW c), .c (.p (dq l)),I which,ag (aU p),I wi] (fun x=>x = .b (B true)):=by
 have ht:True:=trivial;have hg:=kE c hc;have hi:=gK c;have hgood:=(kF c).len;have hb:=BN (aI c) l (kj c) hl (by omega) (by show (aT c).length≤_;omega);have hs:=Ce c l;have H:=Av c l;have ho:=vR c l;have hO:=Of.biasE c l;generalize hS:dX (aI c) l=s at *
 have him:=H.im0;have hiw:s.images.length≤1000000000:=H.im;have hm:=bD which (s.images.length:Int) (by omega) (by omega);have b1:=Int.emod_nonneg which (show (s.images.length:Int)≠0 by omega);have b2:=Int.emod_lt_of_pos which (show 0<(s.images.length:Int) by omega);obtain ⟨k,hk⟩:=Int.eq_ofNat_of_zero_le b1;rw [hk] at hm;have hkl:k<s.images.length:=by omega
 have hm3:=cj wi 3 (by omega);have hm9:=cj (IntKind.i64.wrap (wi.tdiv 3)) 9 (by omega);have haw:=zG;obtain ⟨sA,hsA⟩:∃ sA:Script,sA=kg s k p (cH s k).w:=⟨_,rfl⟩
 obtain ⟨wn,hwn⟩:∃ wn:Int,wn=if eO wi 3=0 then IntKind.i64.wrap (eO (IntKind.i64.wrap (wi.tdiv 3)) 9 - 4) else (cH s k).w:=⟨_,rfl⟩
 obtain ⟨s1,hsx⟩:∃ s1:Script,s1=kg s k p wn:=⟨_,rfl⟩
 have hse:ay s1=[PI s.bits,PI s.canvas.x0,PI s.canvas.y0,PI s.canvas.x1,PI s.canvas.y1,PI s.tileW,PI s.tileH,dq s.order,qq s1.images,kU s.ops]:=by rw [hsx];rfl
 have hs1:ScriptLen s1:=hsx ▸ GD hs k p _;have H1:Sml s1:=hsx ▸ Ip H k p _;have V1:VOps s1:=hsx ▸ CN hO.V k p _;have ho1:s1.ops=s.ops:=by rw [hsx];rfl
 have hop1:∀ o ∈ s1.ops,0≤o.opacity:=by rw [ho1];exact hO.op
 have E1:EvOk s1:=Nh hO.ev hO.V hO.im hp (k:=k) (w:=wn) (by rw [hsx];rfl) V1 hop1;have hcv:s1.canvas=s.canvas:=by rw [hsx];rfl
 have hsm:Small s1.canvas:=by rw [hcv];exact hO.small
 have hsi:=nV s1 hs1 H1 (by rw [ho1];omega);obtain ⟨V2,ho2⟩:=IS (eX fH s1.ops+1) V1 hop1;have E2:EvOk (cl s1 (nQ s1).1):=⟨⟨E1.len.order,E1.len.images,Nat.le_trans V2.cnt (by decide)⟩,ho2,fun _=>E1.im V1.frame⟩
 have hck:bz (cl s1 (nQ s1).1)=bz s1:=An V1 V2 rfl rfl;have r1:=gJ s1 E1 (fun _=>hsm);have r2:=gJ _ E2 (fun _=>hsm);rw [hck] at r2;have hlA:sA.images.length=s.images.length:=by rw [hsA];exact List.length_set
 have hl1:s1.images.length=s.images.length:=by rw [hsx];exact List.length_set
 have hset:∀ a,a<s.images.length→∀ j,j<28→(aF (s1.images.getD a default)).getD j .any=if a=k∧j=0 then PI wn else (aF (sA.images.getD a default)).getD j .any:=fun a ha j hj=>by
  have q1:s1.images.getD a default=if a=k then { cH s k with color:=p,w:=wn } else s.images.getD a default:=by rw [hsx];exact zk hkl
  have q2:sA.images.getD a default=if a=k then { cH s k with color:=p,w:=(cH s k).w } else s.images.getD a default:=by rw [hsA];exact zk hkl
  rw [q1,q2];by_cases e:a=k
  ·rw [if_pos e,if_pos e];cases j with
   | zero=>rw [if_pos ⟨e,rfl⟩];rfl
   | succ j=>rw [if_neg (by omega)];rfl
  ·rw [if_neg e,if_neg e,if_neg (fun q=>e q.1)]
 refine az Tryz.func9 [.tmp 10] ?_;repeat' (first|with_reducible exact cz|refine bL ?_|((with_reducible refine aX (id:=3) (fun K hW => ?_));(try simp (maxSteps:=999999)(disch:=omega) only [go_sem]);and_intros;all_goals first|(refine hK _ ?_;clear hK K)|try exact ai)|((first|refine an (fun K hK => ?_)|refine pj ?_|refine aa (hg) ?_|refine aA (fun hg=>hg) ?_|refine KX (hb) ?_|refine aa (hm) ?_|refine aA (fun hg=>hm) ?_);and_intros;all_goals first|(refine hK _ ?_;clear hK K)|try exact ai)|((first|apply dC|apply dE);(case hf=>rfl);(case hc=>exact du);(all_goals first|(intro hb;(try simp only [nR] at hb))|skip))|exact bd|(refine aH (fun hb => ?_) (fun hb => ?_);all_goals try exact ax)|refine eo (fun KB hB => ?_)|(refine hB _ ?_;clear hB KB)|refine gM (S:=Sg) (by assumption) ?_|(refine bF ?_;(try clear hB KB);(try clear hK K)))
 refine hW _ (aP [(4, .b (I wi)),(10, .b (B false)),(11, .b (.c (.ptr 2 0))),(12, .b (I k))] [(1, .arr 49 28 s.images.length (aQ aF sA.images)),(2, .fix [.p (PI s.bits), .p (PI s.canvas.x0), .p (PI s.canvas.y0), .p (PI s.canvas.x1), .p (PI s.canvas.y1), .p (PI s.tileW), .p (PI s.tileH), .p (dq s.order), .own 1 s.images.length, .p (kU s.ops)])] 3) ?_ ?_
 ·clear hW;refine ar [(1,some 2),(2,some 3)] ?_ ?_;and_intros;all_goals try exact ak
  refine .inr fun i hi j hj => ?_;show PV.le _ (aQ aF sA.images i j);rw [hsA];show PV.le _ (aQ aF (s.images.set k _) i j);rw [RP hkl];by_cases e:i=k
  ·subst e;rw [if_pos rfl,if_pos rfl];have hivl:j=0∨j=1∨j=2∨j=3∨j=4∨j=5∨j=6∨j=7∨j=8∨j=9∨j=10∨j=11∨j=12∨j=13∨j=14∨j=15∨j=16∨j=17∨j=18∨j=19∨j=20∨j=21∨j=22∨j=23∨j=24∨j=25∨j=26∨j=27:=by omega
   rcases hivl with rfl|rfl|rfl|rfl|rfl|rfl|rfl|rfl|rfl|rfl|rfl|rfl|rfl|rfl|rfl|rfl|rfl|rfl|rfl|rfl|rfl|rfl|rfl|rfl|rfl|rfl|rfl|rfl <;> exact PV.le_refl _
  ·rw [if_neg e,if_neg e];exact PV.le_refl _
 clear hW;refine gQ ?_;refine an fun K hK => ?_;refine aa hm3 ?_;refine hK _ ?_;clear hK K;refine zL (t:=(eO wi 3 == 0)) (aP [(10, .b (B false)),(11, .b (.c (.ptr 2 0)))] [(2, .fix [.p (PI s.bits), .p (PI s.canvas.x0), .p (PI s.canvas.y0), .p (PI s.canvas.x1), .p (PI s.canvas.y1), .p (PI s.tileW), .p (PI s.tileH), .p (dq s.order), .p (qq s1.images), .p (kU s.ops)])] 3) ?_ ?_ ?_ ?_
 ·exact ba
 ·intro h0;rw [beq_iff_eq] at h0;rw [if_pos h0] at hwn;refine nc (id:=5) (.br 0 (.br 1 (.br 2 (.br 3 (.br 4 (.br 5 (.br 6 (.br 7 (.br 8 (.br 9 .leaf .nil) .nil) .nil) .nil) .nil) .nil) .nil) .nil) .nil) .nil) (by decide +kernel) ?_ (fun K0 hW => ?_)
  ·exact bZ
  replace hW:=ka hW;repeat' (first|exact bp|(refine bO (fun K' hK' => ?_) ?_)|(refine aZ (hW _ ?_);clear hW)|((first|refine aa (hm9) ?_|refine aA (fun hg=>hm9) ?_);(try simp (maxSteps:=999999)(disch:=omega) only [go_sem]);and_intros;(all_goals first|(refine hK' _ ?_;clear hK' K')|trivial|omega|exact Nat.le_of_ble_eq_true rfl|exact ai|skip))|(simp (maxSteps:=999999)(disch:=omega) only [go_sem];and_intros;(all_goals first|(refine hK' _ ?_;clear hK' K')|trivial|omega|exact Nat.le_of_ble_eq_true rfl|exact ai|skip)))
  all_goals
   refine gi ?_;try rw [ae]
   refine ⟨_, ?_,rfl⟩;refine ar [(2,some 2)] ?_ ?_;and_intros;all_goals try exact ak
  all_goals first|exact hl1.symm|refine fun i hi j hj => ?_
  all_goals skip
  all_goals skip
  show PV.le _ ((aF (s1.images.getD i default)).getD j .any);rw [hset i hi j hj,hwn];by_cases e:i=k
  ·rw [if_pos e];by_cases e2:j=0
   ·rw [if_pos (by omega),if_pos ⟨e,e2⟩,e2];exact PV.le_refl _
   ·rw [if_neg (by omega),if_neg (fun q=>e2 q.2),e];have hivl:j=0∨j=1∨j=2∨j=3∨j=4∨j=5∨j=6∨j=7∨j=8∨j=9∨j=10∨j=11∨j=12∨j=13∨j=14∨j=15∨j=16∨j=17∨j=18∨j=19∨j=20∨j=21∨j=22∨j=23∨j=24∨j=25∨j=26∨j=27:=by omega
    rcases hivl with rfl|rfl|rfl|rfl|rfl|rfl|rfl|rfl|rfl|rfl|rfl|rfl|rfl|rfl|rfl|rfl|rfl|rfl|rfl|rfl|rfl|rfl|rfl|rfl|rfl|rfl|rfl|rfl <;> exact PV.le_refl _
  ·rw [if_neg e,if_neg (fun q=>e q.1)];exact PV.le_refl _
 ·intro h0;rw [beq_eq_false_iff_ne] at h0;rw [if_neg h0] at hwn;repeat' (first|with_reducible exact cz|refine bL ?_|((first|refine an (fun K hK => ?_)|refine pj ?_);and_intros;all_goals first|(refine hK _ ?_;clear hK K)|try exact ai)|((first|apply dC|apply dE);(case hf=>rfl);(case hc=>exact du);(all_goals first|(intro hb;(try simp only [nR] at hb))|skip))|exact bd|(refine aH (fun hb => ?_) (fun hb => ?_);all_goals try exact ax)|refine eo (fun KB hB => ?_)|(refine hB _ ?_;clear hB KB)|refine gM (S:=Sg) (by assumption) ?_|(refine bF ?_;(try clear hB KB);(try clear hK K)))
  try rw [ae]
  refine ⟨_, ?_,rfl⟩;refine ar [(2,some 2)] ?_ ?_;and_intros;all_goals try exact ak
  ·intro i hi j hj;show PV.le ((aF (sA.images.getD i default)).getD j .any) ((aF (s1.images.getD i default)).getD j .any);rw [hset i hi j hj];by_cases e:i=k∧j=0
   ·rw [if_pos e,hwn,e.2,e.1,hsA];show PV.le ((aF ((s.images.set k _).getD k default)).getD 0 .any) _;rw [zk hkl,if_pos rfl];exact PV.le_refl _
   ·rw [if_neg e];exact PV.le_refl _
 rw [show ([.p (PI s.bits), .p (PI s.canvas.x0), .p (PI s.canvas.y0), .p (PI s.canvas.x1), .p (PI s.canvas.y1), .p (PI s.tileW), .p (PI s.tileH), .p (dq s.order), .p (qq s1.images), .p (kU s.ops)]:List CV)=(ay s1).map CV.p by rw [hse];rfl];clear hset hsx hsA hse;generalize jE s1=M at *
 generalize cl s1 (nQ s1).1=t at *
 generalize jE t=N at *
 generalize (bz s1).1=e at *
 generalize (bz s1).2=a at *
 repeat' (first|with_reducible exact cz|refine aj ht ?_|refine bL ?_|((first|refine an (fun K hK => ?_)|refine pj ?_|refine aa (hsi) ?_|refine aA (fun hg=>hsi) ?_|refine aa (r1) ?_|refine aA (fun hg=>r1) ?_|refine aa (r2) ?_|refine aA (fun hg=>r2) ?_|refine aa (haw) ?_|refine aA (fun hg=>haw) ?_);and_intros;all_goals first|(refine hK _ ?_;clear hK K)|try exact ai)|((first|apply dC|apply dE);(case hf=>rfl);(case hc=>exact du);(all_goals first|(intro hb;(try simp only [nR] at hb))|skip))|exact bd|(refine aH (fun hb => ?_) (fun hb => ?_);all_goals try exact ax)|refine eo (fun KB hB => ?_)|(refine hB _ ?_;clear hB KB)|refine gM (S:=Sg) (by assumption) ?_|(refine bF ?_;(try clear hB KB);(try clear hK K)))
 simp only [beq_self_eq_true,Bool.and_self,Bool.true_and,Bool.and_true]
end Go.Proofs.YtdjmpacladhijaaGreatDoor
