/- Part of the proof: H7. -/
import Derived.Test.YtdjmpacladhijaaGreatDoorM40
set_option linter.unusedSimpArgs false
set_option linter.unusedVariables false
set_option maxHeartbeats 4000000
set_option maxRecDepth 16000
namespace Go.Proofs.YtdjmpacladhijaaGreatDoor
open Go Go.SL
open Go.RowKit (wrap64)
attribute [local go_sem] Int.toNat_natCast
theorem Uc {x0 y0 X0 Y0 : Int} {W rw q p i : Nat} (hx : -2000 ≤ X0 ∧ X0 ≤ x0 ∧ x0 ≤ 2000) (hy : -2000 ≤ Y0 ∧ Y0 ≤ y0 ∧ y0 ≤ 2000) (hW : W ≤ 5) (hq : q ≤ 4) (hp : p ≤ 5) (hyq : y0 - Y0 + q ≤ 4) :
  (y0+(q:Int) - Y0) * (W:Int)+x0+(p:Int) - X0=((((y0 - Y0).toNat+q) * W+(x0 - X0).toNat+p:Nat):Int)∧0≤(y0+(q:Int) - Y0) * (W:Int)∧(y0+(q:Int) - Y0) * (W:Int)≤20:=by
 obtain ⟨a,ha⟩:∃ a:Nat,(a:Int)=y0 - Y0:=⟨(y0 - Y0).toNat,by omega⟩
 obtain ⟨b,hb⟩:∃ b:Nat,(b:Int)=x0 - X0:=⟨(x0 - X0).toNat,by omega⟩
 have e1:(y0 - Y0).toNat=a:=by omega
 have e2:(x0 - X0).toNat=b:=by omega
 have e3:y0+(q:Int) - Y0=((a+q:Nat):Int):=by omega
 have h20:(a+q) * W≤4 * 5:=Nat.mul_le_mul (by omega) hW;rw [e1,e2,e3,← Int.natCast_mul];omega
theorem Pa (old : Image) (s : Script) (r : Rect) (E : EvOk s) (hc : (bz s).1 = 0 → Small s.canvas) (h0 : (bz s).1 = 0) (hf : aV old = true) (hww : old.w = s.canvas.x1 - s.canvas.x0) (hhh : old.h = s.canvas.y1 - s.canvas.y0) (hcv : cS s.canvas r = true) (he : aM r = false) :
  aB Sg 17 [ag (aF old),ag (ay s),ag (aS r)] (fun x=>x = .tup [ag (aF (BZ old s r)),I 0]):=by
 have ht:True:=trivial;have h1:=qP s E.len (fun h=>⟨iW h,fun m hm=>(E.im h m hm).1⟩);have hsm:=hc h0;obtain ⟨x0,x1,y0,y1,hw,hh⟩:=id hsm;obtain ⟨W,hW⟩:∃ W:Nat,(W:Int)=s.canvas.x1 - s.canvas.x0:=⟨(s.canvas.x1 - s.canvas.x0).toNat,by omega⟩
 obtain ⟨H,hH⟩:∃ H:Nat,(H:Int)=s.canvas.y1 - s.canvas.y0:=⟨(s.canvas.y1 - s.canvas.y0).toNat,by omega⟩
 have hb20:H * W≤20:=Nat.le_trans (Nat.mul_le_mul (show H≤4 by omega) (show W≤5 by omega)) (by decide);have hHW1:1≤H * W:=Nat.mul_le_mul (show 1≤H by omega) (show 1≤W by omega);have eWH:(s.canvas.x1 - s.canvas.x0) * (s.canvas.y1 - s.canvas.y0)=((H * W:Nat):Int):=by rw [← hW,← hH,Int.natCast_mul,Int.mul_comm]
 have eN:wB s.canvas=H * W:=by unfold wB;rw [eWH];omega
 rw [h0] at h1;have hpx:=lQ old hf;have ew:old.w.toNat=W:=by omega
 have eh:old.h.toNat=H:=by omega
 rw [ew,eh] at hpx;have g1:(old.w != s.canvas.x1 - s.canvas.x0)=false:=by rw [bne_eq_false_iff_eq];exact hww
 have g2:(old.h != s.canvas.y1 - s.canvas.y0)=false:=by rw [bne_eq_false_iff_eq];exact hhh
 have g3:(((H * W:Nat):Int) != (s.canvas.x1 - s.canvas.x0) * (s.canvas.y1 - s.canvas.y0))=false:=by rw [bne_eq_false_iff_eq,eWH]
 have h3:=lP s.canvas r;have h2:=cq r;rw [hcv] at h3;unfold BZ za;have eW:(s.canvas.x1 - s.canvas.x0).toNat=W:=by omega
 rw [eN,eW];have fin:∀ l:List Pixel,l.length=H * W→aB Sg 46 [I (s.canvas.x1 - s.canvas.x0),I (s.canvas.y1 - s.canvas.y0), .c (.p (lM l))] (fun r=>r = .tup [ag (aF (bR (s.canvas.x1 - s.canvas.x0) (s.canvas.y1 - s.canvas.y0) l)),B (dg (s.canvas.x1 - s.canvas.x0) (s.canvas.y1 - s.canvas.y0) l.length)]):=fun l hl=>FP _ _ l (by omega);rw [he] at h2;rw [if_neg (by rw [he];decide)];obtain ⟨i1,i2,i3,i4,i5,i6⟩:=pZ he hcv;have hi:InR r s.canvas:=⟨i1,i2,i3,i4,i5,i6⟩
 have hsr:=hi.small hsm;have h4:=Lg s r E hc;have hre:mj s r=0:=by unfold mj;rw [if_neg (by omega),if_neg (by rw [he,hcv];simp)]
 have hrm:Bi s r=jQ s r:=by unfold Bi;rw [if_pos hre];rfl
 rw [hre,hrm] at h4;obtain ⟨rw',hrw⟩:∃ n:Nat,(n:Int)=r.x1 - r.x0:=⟨(r.x1 - r.x0).toNat,by omega⟩
 obtain ⟨rh,hrh⟩:∃ n:Nat,(n:Int)=r.y1 - r.y0:=⟨(r.y1 - r.y0).toNat,by omega⟩
 have erw:(r.x1 - r.x0).toNat=rw':=by omega
 have hN:wB r=rh * rw':=by unfold wB;rw [← hrw,← hrh,← Int.natCast_mul,Int.toNat_natCast,Nat.mul_comm]
 have hfr:aV (jQ s r)=true:=by
  obtain ⟨e,hf,hl⟩:=vY (s:=s) hsr;rw [e];exact mT hf hl
 have h5:=lQ (jQ s r) hfr;obtain ⟨w1,w2⟩:=Gd (s:=s) hsr;have e1:(jQ s r).w.toNat=rw':=by omega
 have e2:(jQ s r).h.toNat=rh:=by omega
 have hpl:nN (jQ s r) (rh * rw')=cT s r (rh * rw'):=YA hsr hrw hrh;rw [e1,e2,hpl] at h5;rw [erw,hN];have hlen:(cT s r (rh * rw')).length=rh * rw':=iS;have hol:(nN old (H * W)).length=H * W:=gA;have hrl:rh * rw'≤20:=Nat.le_trans (Nat.mul_le_mul (show rh≤4 by omega) (show rw'≤5 by omega)) (by decide);have hst:∀ i,(hZ W (r.x0 - s.canvas.x0).toNat (r.y0 - s.canvas.y0).toNat rw' (cT s r (rh * rw')) (nN old (H * W)) i).length=H * W:=fun i=>by rw [kC,hol]
 have h6:=fin _ (hst (rh * rw'));have hidx:∀ i,i<rh * rw'→i / rw'<rh∧i % rw'<rw'∧oS W (r.x0 - s.canvas.x0).toNat (r.y0 - s.canvas.y0).toNat rw' i<H * W:=fun i hi=>eE (by omega) (by omega) hi (by omega);generalize cT s r (rh * rw')=l at *
 generalize nN old (H * W)=o at *
 generalize jQ s r=M at *
 refine az Tryz.func17 [.cell 6 49, .tmp 7] ?_;repeat' (first|with_reducible exact cz|refine aj ht ?_|refine bL ?_|((with_reducible refine aX (id:=16) (fun K hW => ?_));(try simp (maxSteps:=999999)(disch:=omega) only [go_sem]);and_intros;all_goals first|(refine hK _ ?_;clear hK K)|try exact ai)|((first|refine an (fun K hK => ?_)|refine pj ?_|refine aa (h1) ?_|refine aA (fun hg=>h1) ?_|refine gS (hpx) ?_|refine aa (h3) ?_|refine aA (fun hg=>h3) ?_|refine aa (h2) ?_|refine aA (fun hg=>h2) ?_|refine aa (h4) ?_|refine aA (fun hg=>h4) ?_|refine gS (h5) ?_);and_intros;all_goals first|(refine hK _ ?_;clear hK K)|try exact ai)|((first|apply dC|apply dE);(case hf=>rfl);(case hc=>exact du);(all_goals first|(intro hb;(try simp only [nR] at hb))|skip))|exact bd|(refine aH (fun hb => ?_) (fun hb => ?_);all_goals try exact ax)|refine eo (fun KB hB => ?_)|(refine hB _ ?_;clear hB KB)|refine gM (S:=Sg) (by assumption) ?_|(refine bF ?_;(try clear hB KB);(try clear hK K)))
 refine hW _ (aP [(5, .b (.c (.ptr 1 0))),(6, .b (.c (.ptr 2 0))),(7, .b (I 0)),(10, .b (.c (.ptr 3 0))),(11, .b (I (s.canvas.x1 - s.canvas.x0))),(12, .b (I (s.canvas.y1 - s.canvas.y0))),(13, .b (.c (.own 4 (H * W)))),(16, .b (I (r.x1 - r.x0))),(87, .b (.c (.p (lM l)))),(88, .b (I (rh * rw':Nat))),(89, .b (I 0))]
  [(1, .fix ((aS r).map CV.p)),(2, .fix (List.replicate 28 (.p .any))),(3, .fix ((aS s.canvas).map CV.p)),(4, .arr 43 5 (H * W) (aQ aU o))] 5) ?_ ?_
 ·clear hW;refine ar [(1,some 2),(2,some 3),(3,some 4),(4,some 5)] ?_ ?_;and_intros;all_goals try exact ak
  exact fun _ _ _ _=>PV.le_refl _
 clear hW;refine fx fun KB hV => ?_
 refine aK (X:=Nat) (fun i=>aP [(5, .b (.c (.ptr 1 0))),(6, .b (.c (.ptr 2 0))),(7, .b (I 0)),(10, .b (.c (.ptr 3 0))),(11, .b (I (s.canvas.x1 - s.canvas.x0))),(12, .b (I (s.canvas.y1 - s.canvas.y0))),(13, .b (.c (.own 4 (H * W)))),(16, .b (I (r.x1 - r.x0))),(87, .b (.c (.p (lM l)))),(88, .b (I (rh * rw':Nat))),(89, .b (I i))]
  [(1, .fix ((aS r).map CV.p)),(2, .fix (List.replicate 28 (.p .any))),(3, .fix ((aS s.canvas).map CV.p)),(4, .arr 43 5 (H * W) (aQ aU (hZ W (r.x0 - s.canvas.x0).toNat (r.y0 - s.canvas.y0).toNat rw' l o i)))] 5) (fun i=>i≤rh * rw') (fun i=>rh * rw' - i) 0 ?_ ?_ ?_
 ·exact Nat.zero_le _
 ·refine ar [(1,some 1),(2,some 2),(3,some 3),(4,some 4)] ?_ ?_;and_intros;all_goals try exact ak
 intro i hi2;rcases Nat.lt_or_ge i (rh * rw') with h|h
 ·have g4:decide ((i:Int)<(rh * rw':Nat))=true:=decide_eq_true (by omega);obtain ⟨c1,c2,c3⟩:=hidx i h;have hix:=Uc (x0:=r.x0) (y0:=r.y0) (X0:=s.canvas.x0) (Y0:=s.canvas.y0) (W:=W) (rw:=rw') (q:=i / rw') (p:=i % rw') (i:=i) (by omega) (by omega) (by omega) (by omega) (by omega) (by omega);have hq1:((i:Int) / (r.x1 - r.x0))=((i / rw':Nat):Int):=by rw [← hrw,← Int.natCast_ediv]
  have hq2:((i:Int) % (r.x1 - r.x0))=((i % rw':Nat):Int):=by rw [← hrw,← Int.natCast_emod]
  have hix2:IntKind.i64.wrap (IntKind.i64.wrap (IntKind.i64.wrap (IntKind.i64.wrap (IntKind.i64.wrap (IntKind.i64.wrap (r.y0+IntKind.i64.wrap ((i:Int) / (r.x1 - r.x0))) - s.canvas.y0) * (s.canvas.x1 - s.canvas.x0))+r.x0)+(i:Int) % (r.x1 - r.x0)) - s.canvas.x0)=((oS W (r.x0 - s.canvas.x0).toNat (r.y0 - s.canvas.y0).toNat rw' i:Nat):Int):=by
   rw [hq1,hq2,← hW];unfold oS;generalize i / rw'=q at *
   generalize i % rw'=p at *
   obtain ⟨k1,k2,k3⟩:=hix
   rw [eK (n:=(q:Int)) (by omega) (by omega),eK (n:=r.y0+(q:Int)) (by omega) (by omega),eK (n:=r.y0+(q:Int) - s.canvas.y0) (by omega) (by omega),eK (n:=(r.y0+(q:Int) - s.canvas.y0) * (W:Int)) (by omega) (by omega),
    eK (n:=(r.y0+(q:Int) - s.canvas.y0) * (W:Int)+r.x0) (by omega) (by omega),eK (n:=(r.y0+(q:Int) - s.canvas.y0) * (W:Int)+r.x0+(p:Int)) (by omega) (by omega),eK (n:=(r.y0+(q:Int) - s.canvas.y0) * (W:Int)+r.x0+(p:Int) - s.canvas.x0) (by omega) (by omega)]
   exact k1
  have hset:hZ W (r.x0 - s.canvas.x0).toNat (r.y0 - s.canvas.y0).toNat rw' l o (i+1)=(hZ W (r.x0 - s.canvas.x0).toNat (r.y0 - s.canvas.y0).toNat rw' l o i).set (oS W (r.x0 - s.canvas.x0).toNat (r.y0 - s.canvas.y0).toNat rw' i) (l.getD i default):=rfl;have hsl:=hst i;clear hix hq1 hq2;generalize oS W (r.x0 - s.canvas.x0).toNat (r.y0 - s.canvas.y0).toNat rw' i=ix at *
  repeat' (first|with_reducible exact cz|refine aj g4 ?_|((first|((with_reducible refine bT (id:=19) [(95,1),(101,1),(106,1),(113,1),(117,2)] (by decide +kernel) (by decide +kernel) ?_ (fun K hK => ?_));exact bZ)|((with_reducible refine gx (id:=19) [(95,1),(101,1),(106,1),(113,1),(117,2)] (by decide +kernel) (by decide +kernel) ?_ (fun K hK => ?_));exact bZ));(try simp (maxSteps:=999999)(disch:=omega) only [go_sem]);and_intros;(all_goals first|(refine hK _ ba ?_;clear hK K)|exact ai|skip))|refine bL ?_|((first|refine an (fun K hK => ?_)|refine pj ?_);and_intros;all_goals first|(refine hK _ ?_;clear hK K)|try exact ai)|((first|apply dC|apply dE);(case hf=>rfl);(case hc=>exact du);(all_goals first|(intro hb;(try simp only [nR] at hb))|skip))|exact bd|(refine aH (fun hb => ?_) (fun hb => ?_);all_goals try exact ax)|refine eo (fun KB hB => ?_)|(refine hB _ ?_;clear hB KB)|refine gM (S:=Sg) (by assumption) ?_|(refine bF ?_;(try clear hB KB);(try clear hK K)))
  rw [ae];refine ao (i+1) ?_ (by omega) (by omega);refine ar [(1,some 1),(2,some 2),(3,some 3),(4,some 4)] ?_ ?_;and_intros;all_goals try exact ak
  refine .inr fun a ha j hj => ?_;rw [hix2,Int.toNat_natCast];by_cases e:a=ix
  ·have e2:(hZ W (r.x0 - s.canvas.x0).toNat (r.y0 - s.canvas.y0).toNat rw' l o (i+1)).getD a default=l.getD i default:=by rw [hset,e,List.getD_eq_getElem?_getD,List.getElem?_set_self (by rw [hsl];exact c3)];rfl
   rw [if_pos e,if_pos ⟨Nat.zero_le _,hj⟩];rw [e2];have hivl:j=0∨j=1∨j=2∨j=3∨j=4:=by omega
   rcases hivl with rfl|rfl|rfl|rfl|rfl <;> exact PV.le_refl _
  ·have e2:(hZ W (r.x0 - s.canvas.x0).toNat (r.y0 - s.canvas.y0).toNat rw' l o (i+1)).getD a default=(hZ W (r.x0 - s.canvas.x0).toNat (r.y0 - s.canvas.y0).toNat rw' l o i).getD a default:=by rw [hset,List.getD_eq_getElem?_getD,List.getElem?_set_ne (fun q=>e q.symm),← List.getD_eq_getElem?_getD]
   rw [if_neg e,e2];exact PV.le_refl _
 ·have g4:decide ((i:Int)<(rh * rw':Nat))=false:=decide_eq_false (by omega);obtain rfl:i=rh * rw':=by omega
  repeat' (first|with_reducible exact cz|refine aj g4 ?_|refine bL ?_|((first|refine an (fun K hK => ?_)|refine pj ?_);and_intros;all_goals first|(refine hK _ ?_;clear hK K)|try exact ai)|((first|apply dC|apply dE);(case hf=>rfl);(case hc=>exact du);(all_goals first|(intro hb;(try simp only [nR] at hb))|skip))|exact bd|(refine aH (fun hb => ?_) (fun hb => ?_);all_goals try exact ax)|refine eo (fun KB hB => ?_)|(refine hB _ ?_;clear hB KB)|refine gM (S:=Sg) (by assumption) ?_|(refine bF ?_;(try clear hB KB);(try clear hK K)))
  refine hV _ (aP [(6, .b (.c (.ptr 1 0))),(7, .b (I 0)),(11, .b (I (s.canvas.x1 - s.canvas.x0))),(12, .b (I (s.canvas.y1 - s.canvas.y0))),(13, .b (.c (.p (lM (hZ W (r.x0 - s.canvas.x0).toNat (r.y0 - s.canvas.y0).toNat rw' l o (rh * rw'))))))] [(1, .fix (List.replicate 28 (.p .any)))] 2) ?_ ?_
  ·refine ar [(1,some 2)] ?_ ?_;and_intros;all_goals try exact ak
   ·exact (hst _).symm
   ·exact fun _ _ _ _=>PV.le_refl _
  clear hV;repeat' (first|with_reducible exact cz|refine aj ht ?_|refine bL ?_|((first|refine an (fun K hK => ?_)|refine pj ?_|refine aa (h6) ?_|refine aA (fun hg=>h6) ?_);and_intros;all_goals first|(refine hK _ ?_;clear hK K)|try exact ai)|((first|apply dC|apply dE);(case hf=>rfl);(case hc=>exact du);(all_goals first|(intro hb;(try simp only [nR] at hb))|skip))|exact bd|(refine aH (fun hb => ?_) (fun hb => ?_);all_goals try exact ax)|refine eo (fun KB hB => ?_)|(refine hB _ ?_;clear hB KB)|refine gM (S:=Sg) (by assumption) ?_|(refine bF ?_;(try clear hB KB);(try clear hK K)))
  rfl
theorem ug (old:Image) (s:Script) (r:Rect) (E:EvOk s) (hc:(bz s).1=0→Small s.canvas):aB Sg 17 [ag (aF old),ag (ay s),ag (aS r)] (fun x=>x = .tup [ag (aF (lT old s r)),I (fG old s r)]):=by
 have ht:True:=trivial;have h1:=qP s E.len (fun h=>⟨iW h,fun m hm=>(E.im h m hm).1⟩);by_cases h0:(bz s).1=0
 ·have hsm:=hc h0;obtain ⟨x0,x1,y0,y1,hw,hh⟩:=id hsm;obtain ⟨W,hW⟩:∃ W:Nat,(W:Int)=s.canvas.x1 - s.canvas.x0:=⟨(s.canvas.x1 - s.canvas.x0).toNat,by omega⟩
  obtain ⟨H,hH⟩:∃ H:Nat,(H:Int)=s.canvas.y1 - s.canvas.y0:=⟨(s.canvas.y1 - s.canvas.y0).toNat,by omega⟩
  have hb20:H * W≤20:=Nat.le_trans (Nat.mul_le_mul (show H≤4 by omega) (show W≤5 by omega)) (by decide);have hHW1:1≤H * W:=Nat.mul_le_mul (show 1≤H by omega) (show 1≤W by omega);have eWH:(s.canvas.x1 - s.canvas.x0) * (s.canvas.y1 - s.canvas.y0)=((H * W:Nat):Int):=by rw [← hW,← hH,Int.natCast_mul,Int.mul_comm]
  have eN:wB s.canvas=H * W:=by unfold wB;rw [eWH];omega
  rw [h0] at h1;by_cases hfo:aV old=true∧old.w=s.canvas.x1 - s.canvas.x0∧old.h=s.canvas.y1 - s.canvas.y0
  ·obtain ⟨hf,hww,hhh⟩:=hfo;have hpx:=lQ old hf;have ew:old.w.toNat=W:=by omega
   have eh:old.h.toNat=H:=by omega
   rw [ew,eh] at hpx;have g1:(old.w != s.canvas.x1 - s.canvas.x0)=false:=by rw [bne_eq_false_iff_eq];exact hww
   have g2:(old.h != s.canvas.y1 - s.canvas.y0)=false:=by rw [bne_eq_false_iff_eq];exact hhh
   have g3:(((H * W:Nat):Int) != (s.canvas.x1 - s.canvas.x0) * (s.canvas.y1 - s.canvas.y0))=false:=by rw [bne_eq_false_iff_eq,eWH]
   have h3:=lP s.canvas r;have h2:=cq r;by_cases hcv:cS s.canvas r=true
   ·have hr:fG old s r=0:=by unfold fG;rw [if_neg (by omega),if_pos ⟨hf,hww,hhh⟩,if_pos hcv]
    have hr2:lT old s r=BZ old s r:=by unfold lT;rw [if_pos hr]
    rw [hr,hr2];rw [hcv] at h3;unfold BZ za;have eW:(s.canvas.x1 - s.canvas.x0).toNat=W:=by omega
    rw [eN,eW];have fin:∀ l:List Pixel,l.length=H * W→aB Sg 46 [I (s.canvas.x1 - s.canvas.x0),I (s.canvas.y1 - s.canvas.y0), .c (.p (lM l))] (fun r=>r = .tup [ag (aF (bR (s.canvas.x1 - s.canvas.x0) (s.canvas.y1 - s.canvas.y0) l)),B (dg (s.canvas.x1 - s.canvas.x0) (s.canvas.y1 - s.canvas.y0) l.length)]):=fun l hl=>FP _ _ l (by omega);by_cases he:aM r=true
    ·rw [he] at h2;rw [if_pos he];have h4:=fin (nN old (H * W)) gA;have hpl:(nN old (H * W)).length=H * W:=gA;generalize nN old (H * W)=o at *
     refine az Tryz.func17 [.cell 6 49, .tmp 7] ?_;repeat' (first|with_reducible exact cz|refine aj ht ?_|refine bL ?_|((with_reducible refine aX (id:=7) (fun K hW => ?_));(try simp (maxSteps:=999999)(disch:=omega) only [go_sem]);and_intros;all_goals first|(refine hK _ ?_;clear hK K)|try exact ai)|((first|refine an (fun K hK => ?_)|refine pj ?_|refine aa (h1) ?_|refine aA (fun hg=>h1) ?_|refine gS (hpx) ?_);and_intros;all_goals first|(refine hK _ ?_;clear hK K)|try exact ai)|((first|apply dC|apply dE);(case hf=>rfl);(case hc=>exact du);(all_goals first|(intro hb;(try simp only [nR] at hb))|skip))|exact bd|(refine aH (fun hb => ?_) (fun hb => ?_);all_goals try exact ax)|refine eo (fun KB hB => ?_)|(refine hB _ ?_;clear hB KB)|refine gM (S:=Sg) (by assumption) ?_|(refine bF ?_;(try clear hB KB);(try clear hK K)))
     refine hW _ (aP [(5, .b (.c (.ptr 1 0))),(6, .b (.c (.ptr 2 0))),(7, .b (I 0)),(10, .b (.c (.ptr 3 0))),(11, .b (I (s.canvas.x1 - s.canvas.x0))),(12, .b (I (s.canvas.y1 - s.canvas.y0))),(13, .b (.c (.p (lM o)))),(61, .b (B false))]
      [(1, .fix ((aS r).map CV.p)),(2, .fix (List.replicate 28 (.p .any))),(3, .fix ((aS s.canvas).map CV.p))] 4) ?_ ?_
     ·clear hW;refine ar [(1,some 2),(2,some 3),(3,some 4)] ?_ ?_;and_intros;all_goals try exact ak
      ·exact fun _ _ _ _=>PV.le_refl _
      ·exact .inl (by rw [g1,g2,g3];rfl)
     clear hW;repeat' (first|with_reducible exact cz|refine aj ht ?_|refine bL ?_|((first|refine an (fun K hK => ?_)|refine pj ?_|refine aa (h2) ?_|refine aA (fun hg=>h2) ?_|refine aa (h3) ?_|refine aA (fun hg=>h3) ?_|refine aa (h4) ?_|refine aA (fun hg=>h4) ?_);and_intros;all_goals first|(refine hK _ ?_;clear hK K)|try exact ai)|((first|apply dC|apply dE);(case hf=>rfl);(case hc=>exact du);(all_goals first|(intro hb;(try simp only [nR] at hb))|skip))|exact bd|(refine aH (fun hb => ?_) (fun hb => ?_);all_goals try exact ax)|refine eo (fun KB hB => ?_)|(refine hB _ ?_;clear hB KB)|refine gM (S:=Sg) (by assumption) ?_|(refine bF ?_;(try clear hB KB);(try clear hK K)))
     rfl
    ·have he:aM r=false:=by simpa using he
     have hp:=Pa old s r E hc h0 hf hww hhh hcv he;unfold BZ za at hp;rw [eN,eW] at hp;exact hp
   ·have hcv:cS s.canvas r=false:=by simpa using hcv
    have hr:fG old s r=20:=by unfold fG;rw [if_neg (by omega),if_pos ⟨hf,hww,hhh⟩,if_neg (by rw [hcv];decide)]
    have hr2:lT old s r=ft:=by unfold lT;rw [hr,if_neg (by decide)]
    rw [hr,hr2];rw [hcv] at h3;refine bo ?_;refine az Tryz.func17 [.cell 6 49, .tmp 7] ?_;repeat' (first|with_reducible exact cz|refine aj ht ?_|refine bL ?_|((first|refine an (fun K hK => ?_)|refine pj ?_|refine aa (h1) ?_|refine aA (fun hg=>h1) ?_|refine gS (hpx) ?_|refine aa (h3) ?_|refine aA (fun hg=>h3) ?_);and_intros;all_goals first|(refine hK _ ?_;clear hK K)|try exact ai)|((first|apply dC|apply dE);(case hf=>rfl);(case hc=>exact du);(all_goals first|(intro hb;(try simp only [nR] at hb))|skip))|exact bd|(refine aH (fun hb => ?_) (fun hb => ?_);all_goals try exact ax)|refine eo (fun KB hB => ?_)|(refine hB _ ?_;clear hB KB)|refine gM (S:=Sg) (by assumption) ?_|(refine bF ?_;(try clear hB KB);(try clear hK K)))
    refine cJ ⟨dG ?_,cD trivial,trivial⟩;simp only [List.map_cons,List.map_nil,bM,cA];and_intros;all_goals first|exact .inl rfl|exact .inl trivial|exact .inr bP|trivial|skip
  ·have hr:fG old s r=6:=by unfold fG;rw [if_neg (by omega),if_neg hfo]
   have hr2:lT old s r=ft:=by unfold lT;rw [hr,if_neg (by decide)]
   rw [hr,hr2];by_cases hww:old.w=s.canvas.x1 - s.canvas.x0
   ·have g1:(old.w != s.canvas.x1 - s.canvas.x0)=false:=by rw [bne_eq_false_iff_eq];exact hww
    by_cases hhh:old.h=s.canvas.y1 - s.canvas.y0
    ·have g2:(old.h != s.canvas.y1 - s.canvas.y0)=false:=by rw [bne_eq_false_iff_eq];exact hhh
     have hf:aV old=false:=by
      cases h:aV old with
      | false=>rfl
      | true=>exact absurd ⟨h,hww,hhh⟩ hfo
     have hpx:=pT old hf;have g3:((0:Int) != (s.canvas.x1 - s.canvas.x0) * (s.canvas.y1 - s.canvas.y0))=true:=by rw [bne_iff_ne,eWH];omega
     refine bo ?_;refine az Tryz.func17 [.cell 6 49, .tmp 7] ?_;repeat' (first|with_reducible exact cz|refine aj (And.intro g1 (And.intro g2 g3)) ?_|refine bL ?_|((first|refine an (fun K hK => ?_)|refine pj ?_|refine aa (h1) ?_|refine aA (fun hg=>h1) ?_|refine aa (hpx) ?_|refine aA (fun hg=>hpx) ?_);and_intros;all_goals first|(refine hK _ ?_;clear hK K)|try exact ai)|((first|apply dC|apply dE);(case hf=>rfl);(case hc=>exact du);(all_goals first|(intro hb;(try simp only [nR] at hb))|skip))|exact bd|(refine aH (fun hb => ?_) (fun hb => ?_);all_goals try exact ax)|refine eo (fun KB hB => ?_)|(refine hB _ ?_;clear hB KB)|refine gM (S:=Sg) (by assumption) ?_|(refine bF ?_;(try clear hB KB);(try clear hK K)))
     refine cJ ⟨dG ?_,cD trivial,trivial⟩;simp only [List.map_cons,List.map_nil,bM,cA];and_intros;all_goals first|exact .inl rfl|exact .inl trivial|exact .inr bP|trivial|skip
    ·have g2:(old.h != s.canvas.y1 - s.canvas.y0)=true:=by rw [bne_iff_ne];exact hhh
     cases hf:aV old with
     | true =>
      have hpx:=lQ old hf;refine bo ?_;refine az Tryz.func17 [.cell 6 49, .tmp 7] ?_;repeat' (first|with_reducible exact cz|refine aj (And.intro g1 g2) ?_|refine bL ?_|((first|refine an (fun K hK => ?_)|refine pj ?_|refine aa (h1) ?_|refine aA (fun hg=>h1) ?_|refine gS (hpx) ?_);and_intros;all_goals first|(refine hK _ ?_;clear hK K)|try exact ai)|((first|apply dC|apply dE);(case hf=>rfl);(case hc=>exact du);(all_goals first|(intro hb;(try simp only [nR] at hb))|skip))|exact bd|(refine aH (fun hb => ?_) (fun hb => ?_);all_goals try exact ax)|refine eo (fun KB hB => ?_)|(refine hB _ ?_;clear hB KB)|refine gM (S:=Sg) (by assumption) ?_|(refine bF ?_;(try clear hB KB);(try clear hK K)))
      refine cJ ⟨dG ?_,cD trivial,trivial⟩;simp only [List.map_cons,List.map_nil,bM,cA];and_intros;all_goals first|exact .inl rfl|exact .inl trivial|exact .inr bP|trivial|skip
     | false =>
      have hpx:=pT old hf;refine bo ?_;refine az Tryz.func17 [.cell 6 49, .tmp 7] ?_;repeat' (first|with_reducible exact cz|refine aj (And.intro g1 g2) ?_|refine bL ?_|((first|refine an (fun K hK => ?_)|refine pj ?_|refine aa (h1) ?_|refine aA (fun hg=>h1) ?_|refine aa (hpx) ?_|refine aA (fun hg=>hpx) ?_);and_intros;all_goals first|(refine hK _ ?_;clear hK K)|try exact ai)|((first|apply dC|apply dE);(case hf=>rfl);(case hc=>exact du);(all_goals first|(intro hb;(try simp only [nR] at hb))|skip))|exact bd|(refine aH (fun hb => ?_) (fun hb => ?_);all_goals try exact ax)|refine eo (fun KB hB => ?_)|(refine hB _ ?_;clear hB KB)|refine gM (S:=Sg) (by assumption) ?_|(refine bF ?_;(try clear hB KB);(try clear hK K)))
      refine cJ ⟨dG ?_,cD trivial,trivial⟩;simp only [List.map_cons,List.map_nil,bM,cA];and_intros;all_goals first|exact .inl rfl|exact .inl trivial|exact .inr bP|trivial|skip
   ·have g1:(old.w != s.canvas.x1 - s.canvas.x0)=true:=by rw [bne_iff_ne];exact hww
    cases hf:aV old with
    | true =>
     have hpx:=lQ old hf;refine bo ?_;refine az Tryz.func17 [.cell 6 49, .tmp 7] ?_;repeat' (first|with_reducible exact cz|refine aj (And.intro ht g1) ?_|refine bL ?_|((first|refine an (fun K hK => ?_)|refine pj ?_|refine aa (h1) ?_|refine aA (fun hg=>h1) ?_|refine gS (hpx) ?_);and_intros;all_goals first|(refine hK _ ?_;clear hK K)|try exact ai)|((first|apply dC|apply dE);(case hf=>rfl);(case hc=>exact du);(all_goals first|(intro hb;(try simp only [nR] at hb))|skip))|exact bd|(refine aH (fun hb => ?_) (fun hb => ?_);all_goals try exact ax)|refine eo (fun KB hB => ?_)|(refine hB _ ?_;clear hB KB)|refine gM (S:=Sg) (by assumption) ?_|(refine bF ?_;(try clear hB KB);(try clear hK K)))
     refine cJ ⟨dG ?_,cD trivial,trivial⟩;simp only [List.map_cons,List.map_nil,bM,cA];and_intros;all_goals first|exact .inl rfl|exact .inl trivial|exact .inr bP|trivial|skip
    | false =>
     have hpx:=pT old hf;refine bo ?_;refine az Tryz.func17 [.cell 6 49, .tmp 7] ?_;repeat' (first|with_reducible exact cz|refine aj (And.intro ht g1) ?_|refine bL ?_|((first|refine an (fun K hK => ?_)|refine pj ?_|refine aa (h1) ?_|refine aA (fun hg=>h1) ?_|refine aa (hpx) ?_|refine aA (fun hg=>hpx) ?_);and_intros;all_goals first|(refine hK _ ?_;clear hK K)|try exact ai)|((first|apply dC|apply dE);(case hf=>rfl);(case hc=>exact du);(all_goals first|(intro hb;(try simp only [nR] at hb))|skip))|exact bd|(refine aH (fun hb => ?_) (fun hb => ?_);all_goals try exact ax)|refine eo (fun KB hB => ?_)|(refine hB _ ?_;clear hB KB)|refine gM (S:=Sg) (by assumption) ?_|(refine bF ?_;(try clear hB KB);(try clear hK K)))
     refine cJ ⟨dG ?_,cD trivial,trivial⟩;simp only [List.map_cons,List.map_nil,bM,cA];and_intros;all_goals first|exact .inl rfl|exact .inl trivial|exact .inr bP|trivial|skip
 ·have g0:((bz s).1 != 0)=true:=bne_iff_ne.2 h0;have hr:fG old s r=(bz s).1:=by unfold fG;rw [if_pos h0]
  have hr2:lT old s r=ft:=by unfold lT;rw [hr,if_neg h0]
  rw [hr,hr2];refine bo ?_;refine az Tryz.func17 [.cell 6 49, .tmp 7] ?_;repeat' (first|with_reducible exact cz|refine aj g0 ?_|refine bL ?_|((first|refine an (fun K hK => ?_)|refine pj ?_|refine aa (h1) ?_|refine aA (fun hg=>h1) ?_);and_intros;all_goals first|(refine hK _ ?_;clear hK K)|try exact ai)|((first|apply dC|apply dE);(case hf=>rfl);(case hc=>exact du);(all_goals first|(intro hb;(try simp only [nR] at hb))|skip))|exact bd|(refine aH (fun hb => ?_) (fun hb => ?_);all_goals try exact ax)|refine eo (fun KB hB => ?_)|(refine hB _ ?_;clear hB KB)|refine gM (S:=Sg) (by assumption) ?_|(refine bF ?_;(try clear hB KB);(try clear hK K)))
  refine cJ ⟨dG ?_,cD trivial,trivial⟩;simp only [List.map_cons,List.map_nil,bM,cA];and_intros;all_goals first|exact .inl rfl|exact .inl trivial|exact .inr bP|trivial|skip
end Go.Proofs.YtdjmpacladhijaaGreatDoor
