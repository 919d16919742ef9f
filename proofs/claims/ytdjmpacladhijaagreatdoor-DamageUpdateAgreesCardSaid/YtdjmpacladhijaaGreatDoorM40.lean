/- Part of the proof: RJ. -/
import Derived.Test.YtdjmpacladhijaaGreatDoorM38
import Derived.Test.YtdjmpacladhijaaGreatDoorM39
set_option linter.unusedSimpArgs false
set_option linter.unusedVariables false
set_option maxHeartbeats 8000000
set_option maxRecDepth 16000
namespace Go.Proofs.YtdjmpacladhijaaGreatDoor
open Go Go.SL
open Go.RowKit (wrap64)
attribute [local go_sem] Nat.add_zero nK Int.toNat_natCast dQ
theorem InR.small {t c:Rect} (h:InR t c) (hc:Small c):Small t:=by
 obtain ⟨h1,h2,h3,h4,h5,h6⟩:=h;obtain ⟨c1,c2,c3,c4,c5,c6⟩:=hc;exact ⟨by omega,by omega,by omega,by omega,by omega,by omega⟩
theorem Yy {sz n:Nat} {f g:Nat→Nat→PV} (h:∀ i,i<n→∀ j,j<sz→PV.le (f i j) (g i j)):PV.le (.lst sz n f) (.lst sz n g):=fun _ _ u hu=>by
 obtain ⟨a,c,e,hn,hb⟩:=hu;refine ⟨a,c,e,hn,fun h0 => ?_⟩;obtain ⟨b,o,ha,hok,hc⟩:=hb h0;refine ⟨b,o,ha,hok,fun i hi j hj => ?_⟩;obtain ⟨x,h1,h2,h3⟩:=hc i hi j hj;exact ⟨x,h1,h2,h i hi j hj _ _ _ h3⟩
theorem QC {st : St} {K : SV → St → Prop} {q : Prop} {w h : Int} {n : Nat} {f : Nat → Pixel} (l : List Pixel) (hl : l.length = n) (hn : n ≤ 16777216) (he : ∀ i, i < n → l.getD i default = f i) {M : Image} {b : Bool} (hM : bR w h l = M) (hb : dg w h l.length = b) (hk : q)
  (wk:q→K (.tup [ag (aF M),B b]) st:=by (first|(intro h;first|(simp (maxSteps:=999999)(disch:=omega) only [go_sem];exact h)|exact h)|fail)):dY Sg st 46 [I w,I h, .c (.p (.lst 5 n (rj aU f)))] (Sl.of K):=by
 subst hl;subst hM;subst hb;refine ZM (FP w h l hn) ⟨fun _ _ _ _ q=>q,fun _ _ _ _ q=>q,fun ρ ok w u hu=>Yy (f:=rj aU f) (g:=aQ aU l) (fun i hi j hj => ?_) ok w u hu,trivial⟩ ⟨trivial,trivial,trivial,trivial⟩ (wk hk);show PV.le ((aU (f i)).getD j .any) ((aU (l.getD i default)).getD j .any);rw [he i hi];exact PV.le_refl _
theorem Lg (s:Script) (r:Rect) (E:EvOk s) (hc:(bz s).1=0→Small s.canvas):aB Sg 45 [ag (ay s),ag (aS r)] (fun x=>x = .tup [ag (aF (Bi s r)),I (mj s r)]):=by
 have ht:True:=trivial;have h1:=qP s E.len (fun h=>⟨iW h,fun m hm=>(E.im h m hm).1⟩);have h2:=cq r;have h3:=lP s.canvas r;by_cases h0:(bz s).1=0
 ·have hsm:=hc h0;obtain ⟨hf,V,hI,hm⟩:=E.zero h0;have C:∀ x y,jo s.canvas x y→Pt s (aN s.bits) x y:=fun x y hx=>E.ptz h0 hx;by_cases he:aM r=true
  ·have hr:mj s r=20:=by unfold mj;rw [if_neg (by omega),if_pos (.inl he)]
   have hr2:Bi s r=ft:=by unfold Bi;rw [if_neg (by omega)]
   rw [hr,hr2];rw [h0] at h1;rw [he] at h2;refine bo ?_;refine az Tryz.func45 [.cell 4 49, .tmp 5] ?_;repeat' (first|refine aj ht ?_|refine aw ?_|refine an (fun K hK => ?_)|refine aa (h1) ?_|refine aa (h2) ?_|refine aA (fun hg=>h3) ?_|(refine aq hK ?_;try clear hK K))
   refine cJ ⟨dG ?_,cD trivial,trivial⟩;simp only [List.map_cons,List.map_nil,bM,cA];and_intros;all_goals first|exact .inl rfl|exact .inl trivial|exact .inr bP|trivial|skip
  have he:aM r=false:=by simpa using he
  rw [he] at h2;by_cases hcv:cS s.canvas r=true
  ·have hi:=pZ he hcv;have hsr:=hi.small hsm;obtain ⟨i1,i2,i3,i4,i5,i6⟩:=id hi;have hr:mj s r=0:=by unfold mj;rw [if_neg (by omega),if_neg (by rw [he,hcv];simp)]
   have hr2:Bi s r=bR (r.x1 - r.x0) (r.y1 - r.y0) (cT s r ((r.x1 - r.x0) * (r.y1 - r.y0)).toNat):=by unfold Bi;rw [if_pos hr]
   obtain ⟨W,hW⟩:∃ W:Nat,(W:Int)=r.x1 - r.x0:=⟨(r.x1 - r.x0).toNat,by omega⟩
   obtain ⟨H,hH⟩:∃ H:Nat,(H:Int)=r.y1 - r.y0:=⟨(r.y1 - r.y0).toNat,by omega⟩
   have eWH:((r.x1 - r.x0) * (r.y1 - r.y0)).toNat=(r.y1 - r.y0).toNat * (r.x1 - r.x0).toNat:=by
    have e1:(r.x1 - r.x0).toNat=W:=by omega
    have e2:(r.y1 - r.y0).toNat=H:=by omega
    rw [e1,e2,← hW,← hH,← Int.natCast_mul,Int.toNat_natCast,Nat.mul_comm]
   have h20:(r.y1 - r.y0).toNat * (r.x1 - r.x0).toNat≤20:=Nat.le_trans (Nat.mul_le_mul (show (r.y1 - r.y0).toNat≤4 by have:=hsr.h;omega) (show (r.x1 - r.x0).toNat≤5 by have:=hsr.w;omega)) (by decide);rw [hr,hr2];rw [h0] at h1;rw [hcv] at h3;obtain ⟨s1,s2,s3,s4,s5,s6⟩:=id hsr;generalize hM:bR (r.x1 - r.x0) (r.y1 - r.y0) (cT s r ((r.x1 - r.x0) * (r.y1 - r.y0)).toNat)=M;generalize hB:dg (r.x1 - r.x0) (r.y1 - r.y0) (cT s r ((r.x1 - r.x0) * (r.y1 - r.y0)).toNat).length=B0;refine az Tryz.func45 [.cell 4 49, .tmp 5] ?_;repeat' (first|refine aj ht ?_|refine aw ?_|((with_reducible refine aX (id:=4) (fun K hW => ?_));(try simp (maxSteps:=999999)(disch:=omega) only [go_sem]);and_intros;all_goals first|(refine hK _ ?_;clear hK K)|try exact ai)|refine an (fun K hK => ?_)|refine aa (h1) ?_|refine aa (h2) ?_|refine aA (fun hg=>h3) ?_|(refine aq hK ?_;try clear hK K))
   refine hW _ (aP [(2, .b (.c (.ptr 0 0))),(3, .b (.c (.ptr 1 0))),(4, .b (.c (.ptr 2 0))),(5, .b (I 0)),(27, .t false)] [(0, .fix ((ay s).map CV.p)),(1, .fix ((aS r).map CV.p)),(2, .fix (List.replicate 28 (.p .any)))] 3) ?_ ?_
   ·clear hW;refine ar [(0,some 0),(1,some 1),(2,some 2)] ?_ ?_;and_intros;all_goals try exact ak
   clear hW;repeat' (first|refine aj ht ?_|refine aC ?_)
   refine Uw (id:=6) (.ho 0 true (.ho 2 true (.ho 5 true (.ho 7 true (.ho 1 false (.ho 3 false (.ho 4 true (.ho 6 false (.ho 8 false (.ho 9 true (.ho 10 false (.ho 12 false (.br 11 (.br 13 (.br 14 (.ho 15 true (.ho 16 true (.ho 17 true (.br 18 (.br 19 (.ho 20 true .leaf) .nil) .nil)))) (.br 18 (.br 14 (.ho 15 true (.ho 16 true (.ho 17 true (.br 19 (.ho 20 true .leaf) .nil)))) .nil) .nil)) (.br 18 (.br 13 (.br 14 (.ho 15 true (.ho 16 true (.ho 17 true (.br 19 (.ho 20 true .leaf) .nil)))) .nil) .nil) .nil)) (.br 18 (.br 11 (.br 13 (.br 14 (.ho 15 true (.ho 16 true (.ho 17 true (.br 19 (.ho 20 true .leaf) .nil)))) .nil) .nil) .nil) .nil)))))))))))))) (by decide +kernel) (fun K0 hW => ?_);replace hW:=ka hW;repeat' (first|exact KY|(refine Kq (fun K' hK' => ?_))|(refine Sf (fun K' hK' => ?_) ?_)|(refine Fh (hW _ ?_);clear hW)|((first|refine EU s V ?_|refine uG 3 4 0 0 _ s r (aN s.bits) (by decide) (Nat.le_refl _) hi hsm C E.len ?_|refine uG 4 5 0 0 _ s r (aN s.bits) (by decide) (Nat.le_refl _) hi hsm C E.len ?_|refine QC (cT s r ((r.x1 - r.x0) * (r.y1 - r.y0)).toNat) (iS.trans eWH) (Nat.le_trans h20 (by decide)) (fun i hi=>ir (Nat.lt_of_lt_of_eq hi eWH.symm)) hM hB ?_);(try simp (maxSteps:=999999)(disch:=omega) only [go_sem]);and_intros;(all_goals first|(refine hK' _ ?_;clear hK' K')|(refine hK' _ ?_ ?_;clear hK' K';focus ((try simp only [List.map_cons,List.map_nil,pR]);and_intros;(all_goals first|exact xF|(simp (maxSteps:=999999)(disch:=omega) only [go_sem];and_intros;(all_goals first|exact pI (by (first|(simp (maxSteps:=999999)(disch:=omega) only [go_sem];done)|(simp (maxSteps:=999999)(disch:=omega) only [go_sem];rfl)|rfl))|trivial|omega|skip))|skip)))|trivial|omega|exact Nat.le_of_ble_eq_true rfl|exact ai|skip))|(simp (maxSteps:=999999)(disch:=omega) only [go_sem];and_intros;(all_goals first|(refine hK' _ ?_;clear hK' K')|(refine hK' _ ?_ ?_;clear hK' K';focus ((try simp only [List.map_cons,List.map_nil,pR]);and_intros;(all_goals first|exact xF|(simp (maxSteps:=999999)(disch:=omega) only [go_sem];and_intros;(all_goals first|exact pI (by (first|(simp (maxSteps:=999999)(disch:=omega) only [go_sem];done)|(simp (maxSteps:=999999)(disch:=omega) only [go_sem];rfl)|rfl))|trivial|omega|skip))|skip)))|trivial|omega|exact Nat.le_of_ble_eq_true rfl|exact ai|skip)))
   ·refine gi ?_;repeat' (refine aC ?_)
    rfl
   ·refine gi ?_;repeat' (refine aC ?_)
    rfl
   ·refine gi ?_;repeat' (refine aC ?_)
    rfl
   ·refine gi ?_;repeat' (refine aC ?_)
    rfl
  ·have hcv:cS s.canvas r=false:=by simpa using hcv
   have hr:mj s r=20:=by unfold mj;rw [if_neg (by omega),if_pos (.inr hcv)]
   have hr2:Bi s r=ft:=by unfold Bi;rw [if_neg (by omega)]
   rw [hr,hr2];rw [h0] at h1;rw [hcv] at h3;refine bo ?_;refine az Tryz.func45 [.cell 4 49, .tmp 5] ?_;repeat' (first|refine aj ht ?_|refine aw ?_|refine an (fun K hK => ?_)|refine aa (h1) ?_|refine aa (h2) ?_|refine aA (fun hg=>h3) ?_|(refine aq hK ?_;try clear hK K))
   refine cJ ⟨dG ?_,cD trivial,trivial⟩;simp only [List.map_cons,List.map_nil,bM,cA];and_intros;all_goals first|exact .inl rfl|exact .inl trivial|exact .inr bP|trivial|skip
 ·have g0:((bz s).1 != 0)=true:=bne_iff_ne.2 h0;have hr:mj s r=(bz s).1:=by unfold mj;rw [if_pos h0]
  have hr2:Bi s r=ft:=by unfold Bi;rw [if_neg (by omega)]
  rw [hr,hr2];refine bo ?_;refine az Tryz.func45 [.cell 4 49, .tmp 5] ?_;repeat' (first|refine aj g0 ?_|refine aw ?_|refine an (fun K hK => ?_)|refine aa (h1) ?_|(refine aq hK ?_;try clear hK K))
  refine cJ ⟨dG ?_,cD trivial,trivial⟩;simp only [List.map_cons,List.map_nil,bM,cA];and_intros;all_goals first|exact .inl rfl|exact .inl trivial|exact .inr bP|trivial|skip
end Go.Proofs.YtdjmpacladhijaaGreatDoor
