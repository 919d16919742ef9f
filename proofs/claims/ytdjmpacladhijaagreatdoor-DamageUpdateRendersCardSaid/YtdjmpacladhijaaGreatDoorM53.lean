/- Part of the proof: VI. -/
import Derived.Test.YtdjmpacladhijaaGreatDoorM33
set_option linter.unusedSimpArgs false
set_option linter.unusedVariables false
set_option maxHeartbeats 4000000
set_option maxRecDepth 16000
namespace Go.Proofs.YtdjmpacladhijaaGreatDoor
open Go Go.SL
open Go.RowKit (wrap64)
attribute [local go_sem] Int.toNat_natCast
theorem tR {m:Image} {r:Rect} (hf:aV m=true) (h:Part m r):aM r=false∧cS ⟨0,0,m.w,m.h⟩ r=true∧eM r=(r.x1 - r.x0) * (r.y1 - r.y0):=by
 obtain ⟨hfit,b1,b2,b3,b4,b5,b6⟩:=jf hf;obtain ⟨r1,r2,r3,r4,r5,r6⟩:=h;have e:aM r=false:=by rw [gw];omega
 have e2:aM (⟨0,0,m.w,m.h⟩:Rect)=false:=by rw [gw];dsimp only;omega
 refine ⟨e, ?_,by rw [eM,e,if_neg (by decide)]⟩;rw [cS,e,e2];simp only [Bool.false_or,Bool.not_false,Bool.true_and,Bool.and_eq_true,decide_eq_true_eq];omega
theorem Qp {y x W q p n : Nat} (hq : q ≤ 16777216) (hy : y ≤ 16777216) (hx : x ≤ 16777216) (hp : p ≤ 16777216) (h : (y + q) * W + x + p < n) (hn : n ≤ 16777216) :
  IntKind.i64.wrap (IntKind.i64.wrap (IntKind.i64.wrap (IntKind.i64.wrap ((y:Int)+IntKind.i64.wrap (q:Int)) * (W:Int))+(x:Int))+(p:Int))=(((y+q) * W+x+p:Nat):Int):=by
 rw [eK (n:=(q:Int)) (by omega) (by omega),← Int.natCast_add,eK (n:=((y+q:Nat):Int)) (by omega) (by omega),← Int.natCast_mul,eK (n:=(((y+q) * W:Nat):Int)) (by omega) (by omega),← Int.natCast_add,
  eK (n:=(((y+q) * W+x:Nat):Int)) (by omega) (by omega),← Int.natCast_add,eK (n:=(((y+q) * W+x+p:Nat):Int)) (by omega) (by omega)]
theorem KC (m : Image) (r : Rect) (l : List Pixel) (hf : aV m = true) (hr : Part m r) (hl : (l.length : Int) = (r.x1 - r.x0) * (r.y1 - r.y0)) :
  aB Sg 55 [ag (aF m),ag (aS r), .c (.p (lM l))] (fun q=>q = .tup [ag (aF (mc m r l)),I 0]):=by
 have ht:True:=trivial;obtain ⟨hfit,b1,b2,b3,b4,b5,hb⟩:=jf hf;obtain ⟨e1,e2,e3⟩:=tR hf hr;have s1:=jb m.w m.h;have s2:=sR m;have hff:=hf;rw [show aV m=(dD m.w m.h && dT m) from rfl,Bool.and_eq_true] at hff;have s3:=fK r;have s4:=oL ⟨0,0,m.w,m.h⟩ r;have s5:=qI r;have s6:=yb m hf;rw [hff.1] at s1;rw [hff.2] at s2;rw [e1] at s3;rw [e2] at s4;rw [e3,← hl] at s5;have hL:=AS (r:=r) (l:=l) hf;have s7:=kQ m.w m.h (hZ m.w.toNat r.x0.toNat r.y0.toNat (r.x1 - r.x0).toNat l (nN m (m.h.toNat * m.w.toNat)) l.length) (by rw [kC,gA];omega);have hok:dg m.w m.h (hZ m.w.toNat r.x0.toNat r.y0.toNat (r.x1 - r.x0).toNat l (nN m (m.h.toNat * m.w.toNat)) l.length).length=true:=by rw [dg,hfit,decide_eq_true hL];rfl
 have hck:mc m r l=bR m.w m.h (hZ m.w.toNat r.x0.toNat r.y0.toNat (r.x1 - r.x0).toNat l (nN m (m.h.toNat * m.w.toNat)) l.length):=by rw [bR,if_pos hok];rfl
 rw [hok,← hck] at s7;generalize mc m r l=img at *
 obtain ⟨r1,r2,r3,r4,r5,r6⟩:=hr;obtain ⟨rx,hrx⟩:∃ v:Nat,r.x0=v:=⟨r.x0.toNat,by omega⟩
 obtain ⟨ry,hry⟩:∃ v:Nat,r.y0=v:=⟨r.y0.toNat,by omega⟩
 obtain ⟨W,hW⟩:∃ v:Nat,m.w=v:=⟨m.w.toNat,by omega⟩
 obtain ⟨H,hH⟩:∃ v:Nat,m.h=v:=⟨m.h.toNat,by omega⟩
 obtain ⟨w,hw⟩:∃ v:Nat,r.x1 - r.x0=v:=⟨(r.x1 - r.x0).toNat,by omega⟩
 obtain ⟨h,hh⟩:∃ v:Nat,r.y1 - r.y0=v:=⟨(r.y1 - r.y0).toNat,by omega⟩
 have hl2:l.length=h * w:=by
  have:(l.length:Int)=((h * w:Nat):Int):=by rw [hl,hw,hh,Int.natCast_mul,Int.mul_comm]
  omega
 rw [hrx] at hw;simp only [hrx,hry,hW,hH,hw,Int.toNat_natCast] at s6 s7 hb;have hlb:h * w≤H * W:=Nat.mul_le_mul (by omega) (by omega);have hn:(nN m (H * W)).length=H * W:=gA;have hsl:∀ i,(hZ W rx ry w l (nN m (H * W)) i).length=H * W:=fun i=>by rw [kC,gA]
 generalize nN m (H * W)=o at *
 refine az Tryz.func55 [.cell 6 49, .tmp 7] ?_;have g0:((l.length:Int) != l.length)=false:=bne_self_eq_false _;repeat' (first|with_reducible exact cz|refine aj g0 ?_|refine bL ?_|((first|refine an (fun K hK => ?_)|refine pj ?_|refine aa (s1) ?_|refine aA (fun hg=>s1) ?_|refine aa (s2) ?_|refine aA (fun hg=>s2) ?_|refine aa (s3) ?_|refine aA (fun hg=>s3) ?_|refine aa (s4) ?_|refine aA (fun hg=>s4) ?_|refine aa (s5) ?_|refine aA (fun hg=>s5) ?_|refine gS (s6) ?_);and_intros;all_goals first|(refine hK _ ?_;clear hK K)|try exact ai)|((first|apply dC|apply dE);(case hf=>rfl);(case hc=>exact du);(all_goals first|(intro hb;(try simp only [nR] at hb))|skip))|exact bd|(refine aH (fun hb => ?_) (fun hb => ?_);all_goals try exact ax)|refine eo (fun KB hB => ?_)|(refine hB _ ?_;clear hB KB)|refine gM (S:=Sg) (by assumption) ?_|(refine bF ?_;(try clear hB KB);(try clear hK K)))
 refine aK (X:=Nat) (fun i=>aP [(2, .b (.c (.p (lM l)))),(3, .b (.c (.ptr 0 0))),(4, .b (.c (.ptr 1 0))),(6, .b (.c (.ptr 2 0))),(8, .b (.c (.own 3 (H * W)))),(9, .b (I i))]
  [(0, .fix ((aF m).map CV.p)),(1, .fix ((aS r).map CV.p)),(2, .fix (List.replicate 28 (.p .any))),(3, .arr 43 5 (H * W) (aQ aU (hZ W rx ry w l o i)))] 4) (fun i=>i≤l.length) (fun i=>l.length - i) 0 ?_ ?_ ?_
 ·exact Nat.zero_le _
 ·refine ar [(1,some 1),(2,some 2),(3,some 3)] ?_ ?_;and_intros;all_goals try exact ak
 intro i hi;rcases Nat.lt_or_ge i l.length with hil|hge
 ·have g1:decide ((i:Int)<l.length)=true:=decide_eq_true (by omega);obtain ⟨c1,c2,c3⟩:=eE (W:=W) (H:=H) (x0:=rx) (y0:=ry) (rw:=w) (rh:=h) (i:=i) (by omega) (by omega) (by omega) (by omega);have hix:IntKind.i64.wrap (IntKind.i64.wrap (IntKind.i64.wrap (IntKind.i64.wrap (r.y0+IntKind.i64.wrap ((i:Int) / (r.x1 - r.x0))) * m.w)+r.x0)+(i:Int) % (r.x1 - r.x0))=((oS W rx ry w i:Nat):Int):=by
   rw [hrx,hry,hW,hw,← Int.natCast_ediv,← Int.natCast_emod];exact Qp (by omega) (by omega) (by omega) (by omega) c3 hb
  repeat' (first|with_reducible exact cz|refine aj g1 ?_|((first|((with_reducible refine bT (id:=12) [(58,1),(64,1),(67,1),(76,3),(78,2)] (by decide +kernel) (by decide +kernel) ?_ (fun K hK => ?_));exact bZ)|((with_reducible refine gx (id:=12) [(58,1),(64,1),(67,1),(76,3),(78,2)] (by decide +kernel) (by decide +kernel) ?_ (fun K hK => ?_));exact bZ));(try simp (maxSteps:=999999)(disch:=omega) only [go_sem]);and_intros;(all_goals first|(refine hK _ ba ?_;clear hK K)|exact ai|skip))|refine bL ?_|((first|refine an (fun K hK => ?_)|refine pj ?_);and_intros;all_goals first|(refine hK _ ?_;clear hK K)|try exact ai)|((first|apply dC|apply dE);(case hf=>rfl);(case hc=>exact du);(all_goals first|(intro hb;(try simp only [nR] at hb))|skip))|exact bd|(refine aH (fun hb => ?_) (fun hb => ?_);all_goals try exact ax)|refine eo (fun KB hB => ?_)|(refine hB _ ?_;clear hB KB)|refine gM (S:=Sg) (by assumption) ?_|(refine bF ?_;(try clear hB KB);(try clear hK K)))
  rw [ae];refine ao (i+1) ?_ (by omega) (by omega);refine ar [(1,some 1),(2,some 2),(3,some 3)] ?_ ?_;and_intros;all_goals try exact ak
  refine .inr fun a ha j hj => ?_;rw [hix,Int.toNat_natCast];have hset:hZ W rx ry w l o (i+1)=(hZ W rx ry w l o i).set (oS W rx ry w i) (l.getD i default):=rfl;by_cases e:a=oS W rx ry w i
  ·have e2:(hZ W rx ry w l o (i+1)).getD a default=l.getD i default:=by rw [hset,e,List.getD_eq_getElem?_getD,List.getElem?_set_self (by rw [hsl];exact c3)];rfl
   rw [if_pos e,if_pos ⟨Nat.zero_le _,hj⟩];rw [e2];have hivl:j=0∨j=1∨j=2∨j=3∨j=4:=by omega
   rcases hivl with rfl|rfl|rfl|rfl|rfl <;> exact PV.le_refl _
  ·have e2:(hZ W rx ry w l o (i+1)).getD a default=(hZ W rx ry w l o i).getD a default:=by rw [hset,List.getD_eq_getElem?_getD,List.getElem?_set_ne (fun q=>e q.symm),← List.getD_eq_getElem?_getD]
   rw [if_neg e,e2];exact PV.le_refl _
 ·have g1:decide ((i:Int)<l.length)=false:=decide_eq_false (by omega);have hi2:i=l.length:=by omega
  subst hi2;rw [← hW,← hH] at s7;repeat' (first|with_reducible exact cz|refine bL ?_|((with_reducible refine aX (id:=9) (fun K hW => ?_));(try simp (maxSteps:=999999)(disch:=omega) only [go_sem]);and_intros;all_goals first|(refine hK _ ?_;clear hK K)|try exact ai)|((first|refine an (fun K hK => ?_)|refine pj ?_);and_intros;all_goals first|(refine hK _ ?_;clear hK K)|try exact ai)|((first|apply dC|apply dE);(case hf=>rfl);(case hc=>exact du);(all_goals first|(intro hb;(try simp only [nR] at hb))|skip))|exact bd|(refine aH (fun hb => ?_) (fun hb => ?_);all_goals try exact ax)|refine eo (fun KB hB => ?_)|(refine hB _ ?_;clear hB KB)|refine gM (S:=Sg) (by assumption) ?_|(refine bF ?_;(try clear hB KB);(try clear hK K)))
  refine hW _ (aP [(3, .b (.c (.ptr 0 0))),(6, .b (.c (.ptr 1 0))),(49, .b (B (decide ((l.length:Int)<l.length)))),(8, .b (.c (.p (lM (hZ W rx ry w l o l.length)))))] [(0, .fix ((aF m).map CV.p)),(1, .fix (List.replicate 28 (.p .any)))] 2) ?_ ?_
  ·refine ar [(1,some 2)] ?_ ?_;and_intros;all_goals try exact ak
   ·exact (hsl _).symm
   ·exact fun i hi j hj=>PV.le_refl _
  clear hW;repeat' (first|with_reducible exact cz|refine aj g1 ?_|refine bL ?_|((first|refine an (fun K hK => ?_)|refine pj ?_|refine aa (s7) ?_|refine aA (fun hg=>s7) ?_);and_intros;all_goals first|(refine hK _ ?_;clear hK K)|try exact ai)|((first|apply dC|apply dE);(case hf=>rfl);(case hc=>exact du);(all_goals first|(intro hb;(try simp only [nR] at hb))|skip))|exact bd|(refine aH (fun hb => ?_) (fun hb => ?_);all_goals try exact ax)|refine eo (fun KB hB => ?_)|(refine hB _ ?_;clear hB KB)|refine gM (S:=Sg) (by assumption) ?_|(refine bF ?_;(try clear hB KB);(try clear hK K)))
  rfl
end Go.Proofs.YtdjmpacladhijaaGreatDoor
