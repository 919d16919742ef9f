/- Part of the proof: VC, RK, RN, BrW, H8, HB. -/
import Derived.Test.YtdjmpacladhijaaGreatDoorM31
import Derived.Test.YtdjmpacladhijaaGreatDoorM41
set_option linter.unusedSimpArgs false
set_option linter.unusedVariables false
set_option maxHeartbeats 8000000
set_option maxRecDepth 16000
namespace Go.Proofs.YtdjmpacladhijaaGreatDoor
open Go Go.SL
open Go.RowKit (wrap64)
section
attribute [local go_sem] HM Ks Int.toNat_natCast
theorem TQ (s:Script) (x y m:Int) (C:Pt s m x y) (hs:ScriptLen s) (hx:i64 x) (hy:i64 y):aB Sg 52 [ag (ay s),I x,I y] (fun r=>r = .b (ag (aU (ch s x y)))):=by
 have ht:True:=trivial;have hr:=Zw s x y m C hs hx hy;have ha:=oK C s.ops.length (Nat.le_refl _);obtain ⟨t,r,e⟩:=ha.ne;have hv:ch s x y=bU t.acc t.back m:=by
  have e2:ep m (bg s x y) s.ops [base]=t :: r:=by rw [← e];unfold jP;rw [List.take_length]
  unfold ch;rw [C.mx,e2];rfl
 rw [e] at ha hr;have hre:=Kh m (fun _ j=>(Nf t).getD j .any) t (fun j _=>rfl) C.hm ha.v.head.v;rw [hv];have hr:aB Sg 94 [ag (ay s),I x,I y] (fun q=>q = .tup [.c (.p .any),HM m t]):=hr;generalize bU t.acc t.back m=q at *
 refine az Tryz.func52 [.cell 6 43] ?_;repeat' (first|refine an (fun K hK => ?_)|refine aa (hr) ?_|refine aa (hre) ?_|refine aw ?_|(refine aq hK ?_;try clear hK K))
 rfl
end
theorem Dk:ImgLen ft:=⟨Nat.zero_le _,Nat.zero_le _,Nat.zero_le _,Nat.zero_le _,Nat.zero_le _⟩
section
structure K4 where
 a:Int
 b:Int
 c:Int
 d:Int
def Vu (n:K4):List PV:=[PI n.a,PI n.b,PI n.c,PI n.d]
attribute [local go_sem] Int.toNat_natCast Vu
def TB (r:Rect) (n:K4):Rect :=
 ⟨r.x0+n.a % (r.x1 - r.x0),r.y0+n.b % (r.y1 - r.y0),r.x0+n.a % (r.x1 - r.x0)+1+n.c % (r.x1 - r.x0 - n.a % (r.x1 - r.x0)),r.y0+n.b % (r.y1 - r.y0)+1+n.d % (r.y1 - r.y0 - n.b % (r.y1 - r.y0))⟩
theorem RJ (r:Rect) (hr:Small r) (n:K4):aB Sg 13 [ag (aS r),ag (Vu n)] (fun q=>q = .b (ag (aS (TB r n)))):=by
 have ht:True:=trivial;obtain ⟨h1,h2,h3,h4,hw,hh⟩:=hr;have a1:=Int.emod_nonneg n.a (show r.x1 - r.x0≠0 by omega);have a2:=Int.emod_lt_of_pos n.a (show 0<r.x1 - r.x0 by omega);have b1:=Int.emod_nonneg n.b (show r.y1 - r.y0≠0 by omega);have b2:=Int.emod_lt_of_pos n.b (show 0<r.y1 - r.y0 by omega);have c1:=Int.emod_nonneg n.c (show r.x1 - r.x0 - n.a % (r.x1 - r.x0)≠0 by omega);have c2:=Int.emod_lt_of_pos n.c (show 0<r.x1 - r.x0 - n.a % (r.x1 - r.x0) by omega);have d1:=Int.emod_nonneg n.d (show r.y1 - r.y0 - n.b % (r.y1 - r.y0)≠0 by omega);have d2:=Int.emod_lt_of_pos n.d (show 0<r.y1 - r.y0 - n.b % (r.y1 - r.y0) by omega);have s1:=bD n.a (r.x1 - r.x0) (by omega) (by omega);have s2:=bD n.b (r.y1 - r.y0) (by omega) (by omega);have s3:=bD n.c (r.x1 - r.x0 - n.a % (r.x1 - r.x0)) (by omega) (by omega);have s4:=bD n.d (r.y1 - r.y0 - n.b % (r.y1 - r.y0)) (by omega) (by omega);unfold TB;generalize n.c % (r.x1 - r.x0 - n.a % (r.x1 - r.x0))=u3 at *
 generalize n.d % (r.y1 - r.y0 - n.b % (r.y1 - r.y0))=u4 at *
 generalize n.a % (r.x1 - r.x0)=u1 at *
 generalize n.b % (r.y1 - r.y0)=u2 at *
 refine az Tryz.func13 [.cell 4 35] ?_;repeat' (first|refine an (fun K hK => ?_)|refine aa (s1) ?_|refine aa (s2) ?_|refine aa (s3) ?_|refine aa (s4) ?_|refine aw ?_|(refine aq hK ?_;try clear hK K))
 rfl
def Rj (n:K4):Rect :=
 ⟨n.a % 12 - 6,n.b % 12 - 6,if (n.a.tdiv 12) % 30=29 then 1073741824+n.c % 3 - 1 else n.a % 12 - 6+n.c % 8 - 1,n.b % 12 - 6+n.d % 8 - 1⟩
theorem QK (n:K4) (hn:i64 n.a):aB Sg 16 [ag (Vu n)] (fun q=>q = .b (ag (aS (Rj n)))):=by
 have ht:True:=trivial;have s1:=bD n.a 12 (by omega) (by omega);have s2:=bD n.b 12 (by omega) (by omega);have s3:=bD n.c 8 (by omega) (by omega);have s4:=bD n.d 8 (by omega) (by omega);have s5:=bD n.c 3 (by omega) (by omega);have hq:IntKind.i64.wrap (n.a.tdiv 12)=n.a.tdiv 12:=If hn.1 hn.2 (by decide);have s6:aB Sg 14 [I (IntKind.i64.wrap (n.a.tdiv 12)),I 30] (fun r=>r = .b (I ((n.a.tdiv 12) % 30))):=by rw [hq];exact bD (n.a.tdiv 12) 30 (by omega) (by omega)
 have a1:0≤n.a % 12∧n.a % 12<12:=by omega
 have a2:0≤n.b % 12∧n.b % 12<12:=by omega
 have a3:0≤n.c % 8∧n.c % 8<8:=by omega
 have a4:0≤n.d % 8∧n.d % 8<8:=by omega
 have a5:0≤n.c % 3∧n.c % 3<3:=by omega
 unfold Rj;generalize n.c % 3=u5 at *
 generalize n.c % 8=u3 at *
 generalize n.d % 8=u4 at *
 generalize n.a % 12=u1 at *
 generalize n.b % 12=u2 at *
 by_cases h:(n.a.tdiv 12) % 30=29
 ·have g1:((n.a.tdiv 12) % 30 == 29)=true:=beq_iff_eq.2 h;rw [if_pos h];refine az Tryz.func16 [.cell 2 35] ?_;repeat' (refine aC ?_)
  refine Dq (id:=1) (aP [(1, .b (.c (.ptr 0 0))),(2, .b (.c (.ptr 1 0))),(3, .b (.c (.ptr 2 0)))] [(0, .fix ((Vu n).map CV.p)),(1, .fix (List.replicate 4 (.p .any))),(2, .fix ([PI (u1 - 6),PI (u2 - 6),PI 0,PI 0].map CV.p))] 3) (.ho 0 true (.ho 4 true (.ho 1 false (.ho 5 false (.br 2 (.ho 3 true (.br 6 (.ho 7 true (.ho 8 true (.br 9 (.br 10 .leaf .nil) .nil))) (.br 9 (.br 6 (.ho 7 true (.ho 8 true (.br 10 .leaf .nil))) .nil) .nil))) (.br 9 (.br 2 (.ho 3 true (.br 6 (.ho 7 true (.ho 8 true (.br 10 .leaf .nil))) .nil)) .nil) .nil)))))) (by decide +kernel) (fun K0 hW => ?_) ?_
  ·repeat' (first|exact KY|(refine Kq (fun K' hK' => ?_))|(refine Sf (fun K' hK' => ?_) ?_)|(refine Fh (hW _ ?_);clear hW)|((first|refine aa (s1) ?_|refine aa (s2) ?_);(try simp (maxSteps:=999999)(disch:=omega) only [go_sem]);and_intros;(all_goals first|(refine hK' _ ?_;clear hK' K')|(refine hK' _ ?_ ?_;clear hK' K';focus ((try simp only [List.map_cons,List.map_nil,pR]);and_intros;(all_goals first|exact xF|(simp (maxSteps:=999999)(disch:=omega) only [go_sem];and_intros;(all_goals first|exact pI (by (first|(simp (maxSteps:=999999)(disch:=omega) only [go_sem];done)|(simp (maxSteps:=999999)(disch:=omega) only [go_sem];rfl)|rfl))|trivial|omega|skip))|skip)))|trivial|omega|exact Nat.le_of_ble_eq_true rfl|exact ai|skip))|(simp (maxSteps:=999999)(disch:=omega) only [go_sem];and_intros;(all_goals first|(refine hK' _ ?_;clear hK' K')|(refine hK' _ ?_ ?_;clear hK' K';focus ((try simp only [List.map_cons,List.map_nil,pR]);and_intros;(all_goals first|exact xF|(simp (maxSteps:=999999)(disch:=omega) only [go_sem];and_intros;(all_goals first|exact pI (by (first|(simp (maxSteps:=999999)(disch:=omega) only [go_sem];done)|(simp (maxSteps:=999999)(disch:=omega) only [go_sem];rfl)|rfl))|trivial|omega|skip))|skip)))|trivial|omega|exact Nat.le_of_ble_eq_true rfl|exact ai|skip)))
   ·refine ar [(0,some 0),(1,some 1),(2,some 2)] ?_ ?_;and_intros;all_goals try exact ak
   ·refine ar [(0,some 0),(1,some 1),(2,some 2)] ?_ ?_;and_intros;all_goals try exact ak
   ·refine ar [(0,some 0),(1,some 1),(2,some 2)] ?_ ?_;and_intros;all_goals try exact ak
  repeat' (first|refine aj g1 ?_|refine aw ?_|refine an (fun K hK => ?_)|refine aa (s3) ?_|refine aa (s4) ?_|refine aa (s5) ?_|refine aa (s6) ?_|(refine aq hK ?_;try clear hK K))
  rfl
 ·have g1:((n.a.tdiv 12) % 30 == 29)=false:=beq_eq_false_iff_ne.2 h;rw [if_neg h];refine az Tryz.func16 [.cell 2 35] ?_;repeat' (refine aC ?_)
  refine Dq (id:=1) (aP [(1, .b (.c (.ptr 0 0))),(2, .b (.c (.ptr 1 0))),(3, .b (.c (.ptr 2 0)))] [(0, .fix ((Vu n).map CV.p)),(1, .fix (List.replicate 4 (.p .any))),(2, .fix ([PI (u1 - 6),PI (u2 - 6),PI 0,PI 0].map CV.p))] 3) (.ho 0 true (.ho 4 true (.ho 1 false (.ho 5 false (.br 2 (.ho 3 true (.br 6 (.ho 7 true (.ho 8 true (.br 9 (.br 10 .leaf .nil) .nil))) (.br 9 (.br 6 (.ho 7 true (.ho 8 true (.br 10 .leaf .nil))) .nil) .nil))) (.br 9 (.br 2 (.ho 3 true (.br 6 (.ho 7 true (.ho 8 true (.br 10 .leaf .nil))) .nil)) .nil) .nil)))))) (by decide +kernel) (fun K0 hW => ?_) ?_
  ·repeat' (first|exact KY|(refine Kq (fun K' hK' => ?_))|(refine Sf (fun K' hK' => ?_) ?_)|(refine Fh (hW _ ?_);clear hW)|((first|refine aa (s1) ?_|refine aa (s2) ?_);(try simp (maxSteps:=999999)(disch:=omega) only [go_sem]);and_intros;(all_goals first|(refine hK' _ ?_;clear hK' K')|(refine hK' _ ?_ ?_;clear hK' K';focus ((try simp only [List.map_cons,List.map_nil,pR]);and_intros;(all_goals first|exact xF|(simp (maxSteps:=999999)(disch:=omega) only [go_sem];and_intros;(all_goals first|exact pI (by (first|(simp (maxSteps:=999999)(disch:=omega) only [go_sem];done)|(simp (maxSteps:=999999)(disch:=omega) only [go_sem];rfl)|rfl))|trivial|omega|skip))|skip)))|trivial|omega|exact Nat.le_of_ble_eq_true rfl|exact ai|skip))|(simp (maxSteps:=999999)(disch:=omega) only [go_sem];and_intros;(all_goals first|(refine hK' _ ?_;clear hK' K')|(refine hK' _ ?_ ?_;clear hK' K';focus ((try simp only [List.map_cons,List.map_nil,pR]);and_intros;(all_goals first|exact xF|(simp (maxSteps:=999999)(disch:=omega) only [go_sem];and_intros;(all_goals first|exact pI (by (first|(simp (maxSteps:=999999)(disch:=omega) only [go_sem];done)|(simp (maxSteps:=999999)(disch:=omega) only [go_sem];rfl)|rfl))|trivial|omega|skip))|skip)))|trivial|omega|exact Nat.le_of_ble_eq_true rfl|exact ai|skip)))
   ·refine ar [(0,some 0),(1,some 1),(2,some 2)] ?_ ?_;and_intros;all_goals try exact ak
   ·refine ar [(0,some 0),(1,some 1),(2,some 2)] ?_ ?_;and_intros;all_goals try exact ak
   ·refine ar [(0,some 0),(1,some 1),(2,some 2)] ?_ ?_;and_intros;all_goals try exact ak
  repeat' (first|refine aj g1 ?_|refine aw ?_|refine an (fun K hK => ?_)|refine aa (s3) ?_|refine aa (s4) ?_|refine aa (s6) ?_|(refine aq hK ?_;try clear hK K))
  rfl
end
section
open Go Go.SL Go.ChangeShapes Go.WideShapes Go.ChangeAt Go.RowKit
theorem a6N:ri Sg.P 30 Vu (fun n=>i64 n.a):=by
 refine ri.to (gI ?_ ?_ (aO dt rfl (aO dt rfl (aO dt rfl (aO dt rfl jz))))) (fun (a,b,c,d,_)=>(⟨a,b,c,d⟩:K4)) (fun _=>rfl) ?_
 ·kernel_rfl
 ·kernel_rfl
 ·rintro _ ⟨h1,_⟩;exact h1
end
section
attribute [local go_sem] Int.toNat_natCast
theorem UA {x0 y0 X0 Y0 : Int} {W q p : Nat} (hx : -2000 ≤ X0 ∧ X0 ≤ x0 ∧ x0 ≤ 2000) (hy : -2000 ≤ Y0 ∧ Y0 ≤ y0 ∧ y0 ≤ 2000) (hW : W ≤ 5) (hq : q ≤ 4) (hp : p ≤ 5) (hyq : y0 - Y0 + q ≤ 4) :
  (y0+(q:Int) - Y0) * (W:Int)+(x0+(p:Int)) - X0=((((y0 - Y0).toNat+q) * W+(x0 - X0).toNat+p:Nat):Int)∧0≤(y0+(q:Int) - Y0) * (W:Int)∧(y0+(q:Int) - Y0) * (W:Int)≤20:=by
 obtain ⟨a,ha⟩:∃ a:Nat,(a:Int)=y0 - Y0:=⟨(y0 - Y0).toNat,by omega⟩
 obtain ⟨b,hb⟩:∃ b:Nat,(b:Int)=x0 - X0:=⟨(x0 - X0).toNat,by omega⟩
 have e1:(y0 - Y0).toNat=a:=by omega
 have e2:(x0 - X0).toNat=b:=by omega
 have e3:y0+(q:Int) - Y0=((a+q:Nat):Int):=by omega
 have h20:(a+q) * W≤4 * 5:=Nat.mul_le_mul (by omega) hW;rw [e1,e2,e3,← Int.natCast_mul];omega
theorem KP (old : Image) (s : Script) (r : Rect) (E : EvOk s) (h0 : (bz s).1 = 0) (hsm : Small s.canvas) (hf : aV old = true) (hww : old.w = s.canvas.x1 - s.canvas.x0) (hhh : old.h = s.canvas.y1 - s.canvas.y0) (hcv : cS s.canvas r = true) :
  aB Sg 18 [ag (aF old),ag (ay s),ag (aS r)] (fun x=>x = .tup [ag (aF (BZ old s r)),I 0]):=by
 have ht:True:=trivial;have h1:=Am s E.len (fun h=>⟨iW h,fun m hm=>(E.im h m hm).1⟩);rw [h0] at h1;obtain ⟨x0,x1,y0,y1,hw,hh⟩:=id hsm;obtain ⟨W,hW⟩:∃ W:Nat,(W:Int)=s.canvas.x1 - s.canvas.x0:=⟨(s.canvas.x1 - s.canvas.x0).toNat,by omega⟩
 obtain ⟨H,hH⟩:∃ H:Nat,(H:Int)=s.canvas.y1 - s.canvas.y0:=⟨(s.canvas.y1 - s.canvas.y0).toNat,by omega⟩
 have hb20:H * W≤20:=Nat.le_trans (Nat.mul_le_mul (show H≤4 by omega) (show W≤5 by omega)) (by decide);have eWH:(s.canvas.x1 - s.canvas.x0) * (s.canvas.y1 - s.canvas.y0)=((H * W:Nat):Int):=by rw [← hW,← hH,Int.natCast_mul,Int.mul_comm]
 have eN:wB s.canvas=H * W:=by unfold wB;rw [eWH];omega
 have eW:(s.canvas.x1 - s.canvas.x0).toNat=W:=by omega
 have h2:=mM old;have h3:=oL s.canvas r;have h4:=yb old hf;have h5:=fK r;have ew:old.w.toNat=W:=by omega
 have eh:old.h.toNat=H:=by omega
 rw [ew,eh] at h4;rw [hf] at h2;rw [hcv] at h3;have g1:(old.w != s.canvas.x1 - s.canvas.x0)=false:=by rw [bne_eq_false_iff_eq];exact hww
 have g2:(old.h != s.canvas.y1 - s.canvas.y0)=false:=by rw [bne_eq_false_iff_eq];exact hhh
 have fin:∀ l:List Pixel,l.length=H * W→aB Sg 11 [I (s.canvas.x1 - s.canvas.x0),I (s.canvas.y1 - s.canvas.y0), .c (.p (lM l))] (fun r=>r = .tup [ag (aF (bR (s.canvas.x1 - s.canvas.x0) (s.canvas.y1 - s.canvas.y0) l)),B (dg (s.canvas.x1 - s.canvas.x0) (s.canvas.y1 - s.canvas.y0) l.length)]):=fun l hl=>kQ _ _ l (by omega);unfold BZ za;rw [eN,eW];have hol:(nN old (H * W)).length=H * W:=gA;by_cases he:aM r=true
 ·rw [he] at h5;rw [if_pos he];have h6:=fin _ hol;generalize nN old (H * W)=o at *
  refine az Tryz.func18 [.cell 6 49, .tmp 7] ?_;repeat' (first|with_reducible exact cz|refine aj (And.intro g1 g2) ?_|refine bL ?_|((with_reducible refine aX (id:=10) (fun K hW => ?_));(try simp (maxSteps:=999999)(disch:=omega) only [go_sem]);and_intros;all_goals first|(refine hK _ ?_;clear hK K)|try exact ai)|((first|refine an (fun K hK => ?_)|refine pj ?_|refine aa (h1) ?_|refine aA (fun hg=>h1) ?_|refine aa (h2) ?_|refine aA (fun hg=>h2) ?_|refine aa (h3) ?_|refine aA (fun hg=>h3) ?_|refine gS (h4) ?_);and_intros;all_goals first|(refine hK _ ?_;clear hK K)|try exact ai)|((first|apply dC|apply dE);(case hf=>rfl);(case hc=>exact du);(all_goals first|(intro hb;(try simp only [nR] at hb))|skip))|exact bd|(refine aH (fun hb => ?_) (fun hb => ?_);all_goals try exact ax)|refine eo (fun KB hB => ?_)|(refine hB _ ?_;clear hB KB)|refine gM (S:=Sg) (by assumption) ?_|(refine bF ?_;(try clear hB KB);(try clear hK K)))
  refine hW _ (aP [(5, .b (.c (.ptr 1 0))),(6, .b (.c (.ptr 2 0))),(7, .b (I 0)),(10, .b (I (s.canvas.x1 - s.canvas.x0))),(11, .b (I (s.canvas.y1 - s.canvas.y0))),(12, .b (.c (.p (lM o)))),(13, .b (I r.y0))]
   [(1, .fix ((aS r).map CV.p)),(2, .fix (List.replicate 28 (.p .any)))] 3) ?_ ?_
  ·clear hW;refine ar [(1,some 2),(2,some 3)] ?_ ?_;and_intros;all_goals try exact ak
   all_goals exact fun _ _ _ _=>PV.le_refl _
  clear hW;refine fx fun KB hV => ?_
  refine aK (X:=Nat) (fun _=>aP [(5, .b (.c (.ptr 1 0))),(6, .b (.c (.ptr 2 0))),(7, .b (I 0)),(10, .b (I (s.canvas.x1 - s.canvas.x0))),(11, .b (I (s.canvas.y1 - s.canvas.y0))),(12, .b (.c (.p (lM o)))),(13, .b (I r.y0))]
   [(1, .fix ((aS r).map CV.p)),(2, .fix (List.replicate 28 (.p .any)))] 3) (fun _=>True) (fun _=>0) 0 trivial ?_ ?_
  ·refine ar [(1,some 1),(2,some 2)] ?_ ?_;and_intros;all_goals try exact ak
  intro _ _
  have key:∀ st,Le st (aP [(6, .b (.c (.ptr 1 0))),(7, .b (I 0)),(10, .b (I (s.canvas.x1 - s.canvas.x0))),(11, .b (I (s.canvas.y1 - s.canvas.y0))),(12, .b (.c (.p (lM o))))] [(1, .fix (List.replicate 28 (.p .any)))] 2)→KB st:=fun st hl=>hV st _ hl (by
   clear hV;repeat' (first|with_reducible exact cz|refine aj ht ?_|refine bL ?_|((first|refine an (fun K hK => ?_)|refine pj ?_|refine aa (h6) ?_|refine aA (fun hg=>h6) ?_);and_intros;all_goals first|(refine hK _ ?_;clear hK K)|try exact ai)|((first|apply dC|apply dE);(case hf=>rfl);(case hc=>exact du);(all_goals first|(intro hb;(try simp only [nR] at hb))|skip))|exact bd|(refine aH (fun hb => ?_) (fun hb => ?_);all_goals try exact ax)|refine eo (fun KB hB => ?_)|(refine hB _ ?_;clear hB KB)|refine gM (S:=Sg) (by assumption) ?_|(refine bF ?_;(try clear hB KB);(try clear hK K)))
   rfl)
  clear hV;by_cases hy:r.y0<r.y1
  ·have g3:decide (r.y0<r.y1)=true:=decide_eq_true hy;repeat' (first|with_reducible exact cz|refine aj g3 ?_|refine bL ?_|((first|refine an (fun K hK => ?_)|refine pj ?_|refine aa (h5) ?_|refine aA (fun hg=>h5) ?_);and_intros;all_goals first|(refine hK _ ?_;clear hK K)|try exact ai)|((first|apply dC|apply dE);(case hf=>rfl);(case hc=>exact du);(all_goals first|(intro hb;(try simp only [nR] at hb))|skip))|exact bd|(refine aH (fun hb => ?_) (fun hb => ?_);all_goals try exact ax)|refine eo (fun KB hB => ?_)|(refine hB _ ?_;clear hB KB)|refine gM (S:=Sg) (by assumption) ?_|(refine bF ?_;(try clear hB KB);(try clear hK K)))
   refine key _ ?_;refine ar [(1,some 2)] ?_ ?_;and_intros;all_goals try exact ak
  ·have g3:decide (r.y0<r.y1)=false:=decide_eq_false hy;repeat' (first|with_reducible exact cz|refine aj g3 ?_|refine bL ?_|((first|refine an (fun K hK => ?_)|refine pj ?_|refine aa (h5) ?_|refine aA (fun hg=>h5) ?_);and_intros;all_goals first|(refine hK _ ?_;clear hK K)|try exact ai)|((first|apply dC|apply dE);(case hf=>rfl);(case hc=>exact du);(all_goals first|(intro hb;(try simp only [nR] at hb))|skip))|exact bd|(refine aH (fun hb => ?_) (fun hb => ?_);all_goals try exact ax)|refine eo (fun KB hB => ?_)|(refine hB _ ?_;clear hB KB)|refine gM (S:=Sg) (by assumption) ?_|(refine bF ?_;(try clear hB KB);(try clear hK K)))
   refine key _ ?_;refine ar [(1,some 2)] ?_ ?_;and_intros;all_goals try exact ak
 ·have he:aM r=false:=by simpa using he
  rw [he] at h5;rw [if_neg (by rw [he];decide)];have hi:=pZ he hcv;obtain ⟨i1,i2,i3,i4,i5,i6⟩:=id hi;obtain ⟨rw',hrw⟩:∃ n:Nat,(n:Int)=r.x1 - r.x0:=⟨(r.x1 - r.x0).toNat,by omega⟩
  obtain ⟨rh,hrh⟩:∃ n:Nat,(n:Int)=r.y1 - r.y0:=⟨(r.y1 - r.y0).toNat,by omega⟩
  have erw:(r.x1 - r.x0).toNat=rw':=by omega
  have hN:wB r=rh * rw':=by unfold wB;rw [← hrw,← hrh,← Int.natCast_mul,Int.toNat_natCast,Nat.mul_comm]
  rw [erw,hN];have h0w:0<rw':=by omega
  have hrl:rh * rw'≤20:=Nat.le_trans (Nat.mul_le_mul (show rh≤4 by omega) (show rw'≤5 by omega)) (by decide);have hlen:(cT s r (rh * rw')).length=rh * rw':=iS;have hst:∀ i,(hZ W (r.x0 - s.canvas.x0).toNat (r.y0 - s.canvas.y0).toNat rw' (cT s r (rh * rw')) (nN old (H * W)) i).length=H * W:=fun i=>by rw [kC,hol]
  have h6:=fin _ (hst (rh * rw'));have hsetk : ∀ a k, a < rh → k < rw' → hZ W (r.x0 - s.canvas.x0).toNat (r.y0 - s.canvas.y0).toNat rw' (cT s r (rh * rw')) (nN old (H * W)) (a * rw' + (k + 1)) =
    (hZ W (r.x0 - s.canvas.x0).toNat (r.y0 - s.canvas.y0).toNat rw' (cT s r (rh * rw')) (nN old (H * W)) (a * rw'+k)).set (((r.y0 - s.canvas.y0).toNat+a) * W+(r.x0 - s.canvas.x0).toNat+k) (ch s (r.x0+(k:Nat)) (r.y0+(a:Nat))):=fun a k ha hk=>by
   have hlt:a * rw'+k<rh * rw':=by
    have:(a+1) * rw'≤rh * rw':=Nat.mul_le_mul ha (Nat.le_refl _);rw [Nat.succ_mul] at this;omega
   have e1:(a * rw'+k) / rw'=a:=by rw [Nat.mul_comm,Nat.mul_add_div h0w,Nat.div_eq_of_lt hk,Nat.add_zero]
   have e2:(a * rw'+k) % rw'=k:=by rw [Nat.mul_comm,Nat.mul_add_mod,Nat.mod_eq_of_lt hk]
   show (hZ W _ _ rw' _ _ (a * rw'+k)).set (oS W _ _ rw' (a * rw'+k)) ((cT s r (rh * rw')).getD (a * rw'+k) default)=_;rw [ir hlt,rY hrw hk];unfold oS;rw [e1,e2]
  have hidx:∀ a k,a<rh→k<rw'→((r.y0 - s.canvas.y0).toNat+a) * W+(r.x0 - s.canvas.x0).toNat+k<H * W:=fun a k ha hk=>by
   have:((r.y0 - s.canvas.y0).toNat+a+1) * W≤H * W:=Nat.mul_le_mul (by omega) (Nat.le_refl _);rw [Nat.succ_mul] at this;omega
  have hval:∀ x y,jo s.canvas x y→aB Sg 52 [ag (ay s),I x,I y] (fun r=>r = .b (ag (aU (ch s x y)))):=fun x y hxy=>by
   obtain ⟨p1,p2,p3,p4⟩:=id hxy;exact TQ s x y _ (E.ptz h0 hxy) E.len ⟨by omega,by omega⟩ ⟨by omega,by omega⟩
  have hpt:∀ a k,a<rh→k<rw'→jo s.canvas (r.x0+(k:Nat)) (r.y0+(a:Nat)):=fun a k ha hk=>hi.pt (by unfold jo;omega);generalize cT s r (rh * rw')=l at *
  generalize nN old (H * W)=o at *
  refine az Tryz.func18 [.cell 6 49, .tmp 7] ?_;repeat' (first|with_reducible exact cz|refine aj (And.intro g1 g2) ?_|refine bL ?_|((with_reducible refine aX (id:=10) (fun K hW => ?_));(try simp (maxSteps:=999999)(disch:=omega) only [go_sem]);and_intros;all_goals first|(refine hK _ ?_;clear hK K)|try exact ai)|((first|refine an (fun K hK => ?_)|refine pj ?_|refine aa (h1) ?_|refine aA (fun hg=>h1) ?_|refine aa (h2) ?_|refine aA (fun hg=>h2) ?_|refine aa (h3) ?_|refine aA (fun hg=>h3) ?_|refine gS (h4) ?_);and_intros;all_goals first|(refine hK _ ?_;clear hK K)|try exact ai)|((first|apply dC|apply dE);(case hf=>rfl);(case hc=>exact du);(all_goals first|(intro hb;(try simp only [nR] at hb))|skip))|exact bd|(refine aH (fun hb => ?_) (fun hb => ?_);all_goals try exact ax)|refine eo (fun KB hB => ?_)|(refine hB _ ?_;clear hB KB)|refine gM (S:=Sg) (by assumption) ?_|(refine bF ?_;(try clear hB KB);(try clear hK K)))
  refine hW _ (aP [(4, .b (.c (.ptr 1 0))),(5, .b (.c (.ptr 2 0))),(6, .b (.c (.ptr 3 0))),(7, .b (I 0)),(10, .b (I (s.canvas.x1 - s.canvas.x0))),(11, .b (I (s.canvas.y1 - s.canvas.y0))),(12, .b (.c (.own 4 (H * W)))),(13, .b (I r.y0))]
   [(1, .fix ((ay s).map CV.p)),(2, .fix ((aS r).map CV.p)),(3, .fix (List.replicate 28 (.p .any))),(4, .arr 43 5 (H * W) (aQ aU o))] 5) ?_ ?_
  ·clear hW;refine ar [(1,some 1),(2,some 2),(3,some 3),(4,some 4)] ?_ ?_;and_intros;all_goals try exact ak
  clear hW;refine fx fun KB hV => ?_
  refine aK (X:=Nat) (fun a=>aP [(4, .b (.c (.ptr 1 0))),(5, .b (.c (.ptr 2 0))),(6, .b (.c (.ptr 3 0))),(7, .b (I 0)),(10, .b (I (s.canvas.x1 - s.canvas.x0))),(11, .b (I (s.canvas.y1 - s.canvas.y0))),(12, .b (.c (.own 4 (H * W)))),(13, .b (I (r.y0+a)))]
   [(1, .fix ((ay s).map CV.p)),(2, .fix ((aS r).map CV.p)),(3, .fix (List.replicate 28 (.p .any))),(4, .arr 43 5 (H * W) (aQ aU (hZ W (r.x0 - s.canvas.x0).toNat (r.y0 - s.canvas.y0).toNat rw' l o (a * rw'))))] 5) (fun a=>a≤rh) (fun a=>rh - a) 0 ?_ ?_ ?_
  ·exact Nat.zero_le _
  ·rw [Nat.zero_mul];refine ar [(1,some 1),(2,some 2),(3,some 3),(4,some 4)] ?_ ?_;and_intros;all_goals try exact ak
   all_goals exact .inl (congrArg (fun z=>PV.val (Value.int IntKind.i64 z)) (by omega))
  intro a ha;rcases Nat.lt_or_ge a rh with hlt|hge
  ·have g3:decide (r.y0+(a:Int)<r.y1)=true:=decide_eq_true (by omega);repeat' (first|with_reducible exact cz|refine aj g3 ?_|refine bL ?_|((with_reducible refine aX (id:=13) (fun K hW => ?_));(try simp (maxSteps:=999999)(disch:=omega) only [go_sem]);and_intros;all_goals first|(refine hK _ ?_;clear hK K)|try exact ai)|((first|refine an (fun K hK => ?_)|refine pj ?_|refine aa (h5) ?_|refine aA (fun hg=>h5) ?_);and_intros;all_goals first|(refine hK _ ?_;clear hK K)|try exact ai)|((first|apply dC|apply dE);(case hf=>rfl);(case hc=>exact du);(all_goals first|(intro hb;(try simp only [nR] at hb))|skip))|exact bd|(refine aH (fun hb => ?_) (fun hb => ?_);all_goals try exact ax)|refine eo (fun KB hB => ?_)|(refine hB _ ?_;clear hB KB)|refine gM (S:=Sg) (by assumption) ?_|(refine bF ?_;(try clear hB KB);(try clear hK K)))
   refine hW _ (aP [(4, .b (.c (.ptr 1 0))),(5, .b (.c (.ptr 2 0))),(6, .b (.c (.ptr 3 0))),(7, .b (I 0)),(10, .b (I (s.canvas.x1 - s.canvas.x0))),(11, .b (I (s.canvas.y1 - s.canvas.y0))),(12, .b (.c (.own 4 (H * W)))),(13, .b (I (r.y0+a))),(14, .b (I r.x0))]
    [(1, .fix ((ay s).map CV.p)),(2, .fix ((aS r).map CV.p)),(3, .fix (List.replicate 28 (.p .any))),(4, .arr 43 5 (H * W) (aQ aU (hZ W (r.x0 - s.canvas.x0).toNat (r.y0 - s.canvas.y0).toNat rw' l o (a * rw'))))] 5) ?_ ?_
   ·clear hW;refine ar [(1,some 1),(2,some 2),(3,some 3),(4,some 4)] ?_ ?_;and_intros;all_goals try exact ak
   clear hW;refine wj ?_
   refine aK (X:=Nat) (fun k=>aP [(4, .b (.c (.ptr 1 0))),(5, .b (.c (.ptr 2 0))),(6, .b (.c (.ptr 3 0))),(7, .b (I 0)),(10, .b (I (s.canvas.x1 - s.canvas.x0))),(11, .b (I (s.canvas.y1 - s.canvas.y0))),(12, .b (.c (.own 4 (H * W)))),(13, .b (I (r.y0+a))),(14, .b (I (r.x0+k)))]
    [(1, .fix ((ay s).map CV.p)),(2, .fix ((aS r).map CV.p)),(3, .fix (List.replicate 28 (.p .any))),(4, .arr 43 5 (H * W) (aQ aU (hZ W (r.x0 - s.canvas.x0).toNat (r.y0 - s.canvas.y0).toNat rw' l o (a * rw'+k))))] 5) (fun k=>k≤rw') (fun k=>rw' - k) 0 ?_ ?_ ?_
   ·exact Nat.zero_le _
   ·refine ar [(1,some 1),(2,some 2),(3,some 3),(4,some 4)] ?_ ?_;and_intros;all_goals try exact ak
    all_goals exact .inl (congrArg (fun z=>PV.val (Value.int IntKind.i64 z)) (by omega))
   intro k hk;rcases Nat.lt_or_ge k rw' with hkl|hkg
   ·have g6:decide (r.x0+(k:Int)<r.x1)=true:=decide_eq_true (by omega);have hv:=hval _ _ (hpt a k hlt hkl);obtain ⟨k1,k2,k3⟩:=UA (x0:=r.x0) (y0:=r.y0) (X0:=s.canvas.x0) (Y0:=s.canvas.y0) (W:=W) (q:=a) (p:=k) (by omega) (by omega) (by omega) (by omega) (by omega) (by omega);have c3:=hidx a k hlt hkl;have hset:=hsetk a k hlt hkl;have hsl:=hst (a * rw'+k);have hix2:IntKind.i64.wrap (IntKind.i64.wrap (IntKind.i64.wrap ((r.y0+(a:Int) - s.canvas.y0) * (s.canvas.x1 - s.canvas.x0))+(r.x0+(k:Int))) - s.canvas.x0)=((((r.y0 - s.canvas.y0).toNat+a) * W+(r.x0 - s.canvas.x0).toNat+k:Nat):Int):=by
     rw [← hW,eK (n:=(r.y0+(a:Int) - s.canvas.y0) * (W:Int)) (by omega) (by omega),eK (n:=(r.y0+(a:Int) - s.canvas.y0) * (W:Int)+(r.x0+(k:Int))) (by omega) (by omega),eK (n:=(r.y0+(a:Int) - s.canvas.y0) * (W:Int)+(r.x0+(k:Int)) - s.canvas.x0) (by omega) (by omega)];exact k1
    generalize ((r.y0 - s.canvas.y0).toNat+a) * W+(r.x0 - s.canvas.x0).toNat+k=ix at *
    generalize ch s (r.x0+(k:Nat)) (r.y0+(a:Nat))=pv at *
    repeat' (first|with_reducible exact cz|refine aj g6 ?_|((first|((with_reducible refine bT (id:=16) [(87,1),(88,1),(95,1),(96,1),(103,2)] (by decide +kernel) (by decide +kernel) ?_ (fun K hK => ?_));exact bZ)|((with_reducible refine gx (id:=16) [(87,1),(88,1),(95,1),(96,1),(103,2)] (by decide +kernel) (by decide +kernel) ?_ (fun K hK => ?_));exact bZ));(try simp (maxSteps:=999999)(disch:=omega) only [go_sem]);and_intros;(all_goals first|(refine hK _ ba ?_;clear hK K)|exact ai|skip))|refine bL ?_|((first|refine an (fun K hK => ?_)|refine pj ?_|refine aa (hv) ?_|refine aA (fun hg=>hv) ?_);and_intros;all_goals first|(refine hK _ ?_;clear hK K)|try exact ai)|((first|apply dC|apply dE);(case hf=>rfl);(case hc=>exact du);(all_goals first|(intro hb;(try simp only [nR] at hb))|skip))|exact bd|(refine aH (fun hb => ?_) (fun hb => ?_);all_goals try exact ax)|refine eo (fun KB hB => ?_)|(refine hB _ ?_;clear hB KB)|refine gM (S:=Sg) (by assumption) ?_|(refine bF ?_;(try clear hB KB);(try clear hK K)))
    refine hK _ ba ?_;clear hK;repeat' (first|with_reducible exact cz|refine aj g6 ?_|refine bL ?_|((first|refine an (fun K hK => ?_)|refine pj ?_);and_intros;all_goals first|(refine hK _ ?_;clear hK K)|try exact ai)|((first|apply dC|apply dE);(case hf=>rfl);(case hc=>exact du);(all_goals first|(intro hb;(try simp only [nR] at hb))|skip))|exact bd|(refine aH (fun hb => ?_) (fun hb => ?_);all_goals try exact ax)|refine eo (fun KB hB => ?_)|(refine hB _ ?_;clear hB KB)|refine gM (S:=Sg) (by assumption) ?_|(refine bF ?_;(try clear hB KB);(try clear hK K)))
    rw [ae];refine ao (k+1) ?_ (by omega) (by omega);refine ar [(1,some 1),(2,some 2),(3,some 3),(4,some 4)] ?_ ?_;and_intros;all_goals try exact ak
    ·exact .inl (congrArg (fun z=>PV.val (Value.int IntKind.i64 z)) (by omega))
    ·refine .inr fun b hb j hj => ?_;rw [hix2,Int.toNat_natCast];show PV.le _ ((aU ((hZ W _ _ rw' l o (a * rw'+(k+1))).getD b default)).getD j .any);rw [hset];generalize hZ W (r.x0 - s.canvas.x0).toNat (r.y0 - s.canvas.y0).toNat rw' l o (a * rw'+k)=Z at *
     by_cases e:b=ix
     ·have e2:(Z.set ix pv).getD b default=pv:=by rw [e,List.getD_eq_getElem?_getD,List.getElem?_set_self (by rw [hsl];exact c3)];rfl
      rw [if_pos e,if_pos ⟨Nat.zero_le _,hj⟩,e2];have hivl:j=0∨j=1∨j=2∨j=3∨j=4:=by omega
      rcases hivl with rfl|rfl|rfl|rfl|rfl <;> exact PV.le_refl _
     ·have e2:(Z.set ix pv).getD b default=Z.getD b default:=by rw [List.getD_eq_getElem?_getD,List.getElem?_set_ne (fun q=>e q.symm),← List.getD_eq_getElem?_getD]
      rw [if_neg e,e2];exact PV.le_refl _
   ·have g6:decide (r.x0+(k:Int)<r.x1)=false:=decide_eq_false (by omega);obtain rfl:k=rw':=by omega
    repeat' (first|with_reducible exact cz|refine aj g6 ?_|refine bL ?_|((first|refine an (fun K hK => ?_)|refine pj ?_);and_intros;all_goals first|(refine hK _ ?_;clear hK K)|try exact ai)|((first|apply dC|apply dE);(case hf=>rfl);(case hc=>exact du);(all_goals first|(intro hb;(try simp only [nR] at hb))|skip))|exact bd|(refine aH (fun hb => ?_) (fun hb => ?_);all_goals try exact ax)|refine eo (fun KB hB => ?_)|(refine hB _ ?_;clear hB KB)|refine gM (S:=Sg) (by assumption) ?_|(refine bF ?_;(try clear hB KB);(try clear hK K)))
    rw [ae];refine ao (a+1) ?_ (by omega) (by omega);rw [Nat.succ_mul];refine ar [(1,some 1),(2,some 2),(3,some 3),(4,some 4)] ?_ ?_;and_intros;all_goals try exact ak
    exact .inl (congrArg (fun z=>PV.val (Value.int IntKind.i64 z)) (by omega))
  ·have g3:decide (r.y0+(a:Int)<r.y1)=false:=decide_eq_false (by omega);obtain rfl:a=rh:=by omega
   repeat' (first|with_reducible exact cz|refine aj g3 ?_|refine bL ?_|((first|refine an (fun K hK => ?_)|refine pj ?_|refine aa (h5) ?_|refine aA (fun hg=>h5) ?_);and_intros;all_goals first|(refine hK _ ?_;clear hK K)|try exact ai)|((first|apply dC|apply dE);(case hf=>rfl);(case hc=>exact du);(all_goals first|(intro hb;(try simp only [nR] at hb))|skip))|exact bd|(refine aH (fun hb => ?_) (fun hb => ?_);all_goals try exact ax)|refine eo (fun KB hB => ?_)|(refine hB _ ?_;clear hB KB)|refine gM (S:=Sg) (by assumption) ?_|(refine bF ?_;(try clear hB KB);(try clear hK K)))
   refine hV _ (aP [(6, .b (.c (.ptr 1 0))),(7, .b (I 0)),(10, .b (I (s.canvas.x1 - s.canvas.x0))),(11, .b (I (s.canvas.y1 - s.canvas.y0))),(12, .b (.c (.p (lM (hZ W (r.x0 - s.canvas.x0).toNat (r.y0 - s.canvas.y0).toNat rw' l o (a * rw'))))))] [(1, .fix (List.replicate 28 (.p .any)))] 2) ?_ ?_
   ·refine ar [(1,some 3)] ?_ ?_;and_intros;all_goals try exact ak
    ·exact (hst _).symm
    ·exact fun _ _ _ _=>PV.le_refl _
   clear hV;repeat' (first|with_reducible exact cz|refine aj ht ?_|refine bL ?_|((first|refine an (fun K hK => ?_)|refine pj ?_|refine aa (h6) ?_|refine aA (fun hg=>h6) ?_);and_intros;all_goals first|(refine hK _ ?_;clear hK K)|try exact ai)|((first|apply dC|apply dE);(case hf=>rfl);(case hc=>exact du);(all_goals first|(intro hb;(try simp only [nR] at hb))|skip))|exact bd|(refine aH (fun hb => ?_) (fun hb => ?_);all_goals try exact ax)|refine eo (fun KB hB => ?_)|(refine hB _ ?_;clear hB KB)|refine gM (S:=Sg) (by assumption) ?_|(refine bF ?_;(try clear hB KB);(try clear hK K)))
   rfl
theorem Bt (old:Image) (s:Script) (r:Rect) (E:EvOk s) (hc:(bz s).1=0→Small s.canvas):aB Sg 18 [ag (aF old),ag (ay s),ag (aS r)] (fun x=>x = .tup [ag (aF (lT old s r)),I (fG old s r)]):=by
 have ht:True:=trivial;have h1:=Am s E.len (fun h=>⟨iW h,fun m hm=>(E.im h m hm).1⟩);have h2:=mM old;have h3:=oL s.canvas r;by_cases h0:(bz s).1=0
 ·have hsm:=hc h0;obtain ⟨x0,x1,y0,y1,hw,hh⟩:=id hsm;by_cases hfo:aV old=true∧old.w=s.canvas.x1 - s.canvas.x0∧old.h=s.canvas.y1 - s.canvas.y0
  ·obtain ⟨hf,hww,hhh⟩:=hfo;by_cases hcv:cS s.canvas r=true
   ·have hr:fG old s r=0:=by unfold fG;rw [if_neg (by omega),if_pos ⟨hf,hww,hhh⟩,if_pos hcv]
    have hr2:lT old s r=BZ old s r:=by unfold lT;rw [if_pos hr]
    rw [hr,hr2];exact KP old s r E h0 hsm hf hww hhh hcv
   ·have hcv:cS s.canvas r=false:=by simpa using hcv
    have hr:fG old s r=20:=by unfold fG;rw [if_neg (by omega),if_pos ⟨hf,hww,hhh⟩,if_neg (by rw [hcv];decide)]
    have hr2:lT old s r=ft:=by unfold lT;rw [hr,if_neg (by decide)]
    have g1:(old.w != s.canvas.x1 - s.canvas.x0)=false:=by rw [bne_eq_false_iff_eq];exact hww
    have g2:(old.h != s.canvas.y1 - s.canvas.y0)=false:=by rw [bne_eq_false_iff_eq];exact hhh
    rw [hr,hr2];rw [h0] at h1;rw [hf] at h2;rw [hcv] at h3;refine bo ?_;refine az Tryz.func18 [.cell 6 49, .tmp 7] ?_;repeat' (first|with_reducible exact cz|refine aj (And.intro g1 g2) ?_|refine bL ?_|((first|refine an (fun K hK => ?_)|refine pj ?_|refine aa (h1) ?_|refine aA (fun hg=>h1) ?_|refine aa (h2) ?_|refine aA (fun hg=>h2) ?_|refine aa (h3) ?_|refine aA (fun hg=>h3) ?_);and_intros;all_goals first|(refine hK _ ?_;clear hK K)|try exact ai)|((first|apply dC|apply dE);(case hf=>rfl);(case hc=>exact du);(all_goals first|(intro hb;(try simp only [nR] at hb))|skip))|exact bd|(refine aH (fun hb => ?_) (fun hb => ?_);all_goals try exact ax)|refine eo (fun KB hB => ?_)|(refine hB _ ?_;clear hB KB)|refine gM (S:=Sg) (by assumption) ?_|(refine bF ?_;(try clear hB KB);(try clear hK K)))
    refine cJ ⟨dG ?_,cD trivial,trivial⟩;simp only [List.map_cons,List.map_nil,bM,cA];and_intros;all_goals first|exact .inl rfl|exact .inl trivial|exact .inr bP|trivial|skip
  ·have hr:fG old s r=6:=by unfold fG;rw [if_neg (by omega),if_neg hfo]
   have hr2:lT old s r=ft:=by unfold lT;rw [hr,if_neg (by decide)]
   rw [hr,hr2];rw [h0] at h1;cases hf:aV old with
   | false =>
    rw [hf] at h2;refine bo ?_;refine az Tryz.func18 [.cell 6 49, .tmp 7] ?_;repeat' (first|with_reducible exact cz|refine aj ht ?_|refine bL ?_|((first|refine an (fun K hK => ?_)|refine pj ?_|refine aa (h1) ?_|refine aA (fun hg=>h1) ?_|refine aa (h2) ?_|refine aA (fun hg=>h2) ?_);and_intros;all_goals first|(refine hK _ ?_;clear hK K)|try exact ai)|((first|apply dC|apply dE);(case hf=>rfl);(case hc=>exact du);(all_goals first|(intro hb;(try simp only [nR] at hb))|skip))|exact bd|(refine aH (fun hb => ?_) (fun hb => ?_);all_goals try exact ax)|refine eo (fun KB hB => ?_)|(refine hB _ ?_;clear hB KB)|refine gM (S:=Sg) (by assumption) ?_|(refine bF ?_;(try clear hB KB);(try clear hK K)))
    refine cJ ⟨dG ?_,cD trivial,trivial⟩;simp only [List.map_cons,List.map_nil,bM,cA];and_intros;all_goals first|exact .inl rfl|exact .inl trivial|exact .inr bP|trivial|skip
   | true =>
    rw [hf] at h2;by_cases hww:old.w=s.canvas.x1 - s.canvas.x0
    ·have g1:(old.w != s.canvas.x1 - s.canvas.x0)=false:=by rw [bne_eq_false_iff_eq];exact hww
     have g2:(old.h != s.canvas.y1 - s.canvas.y0)=true:=by rw [bne_iff_ne];exact fun q=>hfo ⟨hf,hww,q⟩
     refine bo ?_;refine az Tryz.func18 [.cell 6 49, .tmp 7] ?_;repeat' (first|with_reducible exact cz|refine aj (And.intro g1 g2) ?_|refine bL ?_|((first|refine an (fun K hK => ?_)|refine pj ?_|refine aa (h1) ?_|refine aA (fun hg=>h1) ?_|refine aa (h2) ?_|refine aA (fun hg=>h2) ?_);and_intros;all_goals first|(refine hK _ ?_;clear hK K)|try exact ai)|((first|apply dC|apply dE);(case hf=>rfl);(case hc=>exact du);(all_goals first|(intro hb;(try simp only [nR] at hb))|skip))|exact bd|(refine aH (fun hb => ?_) (fun hb => ?_);all_goals try exact ax)|refine eo (fun KB hB => ?_)|(refine hB _ ?_;clear hB KB)|refine gM (S:=Sg) (by assumption) ?_|(refine bF ?_;(try clear hB KB);(try clear hK K)))
     refine cJ ⟨dG ?_,cD trivial,trivial⟩;simp only [List.map_cons,List.map_nil,bM,cA];and_intros;all_goals first|exact .inl rfl|exact .inl trivial|exact .inr bP|trivial|skip
    ·have g1:(old.w != s.canvas.x1 - s.canvas.x0)=true:=by rw [bne_iff_ne];exact hww
     refine bo ?_;refine az Tryz.func18 [.cell 6 49, .tmp 7] ?_;repeat' (first|with_reducible exact cz|refine aj (And.intro ht g1) ?_|refine bL ?_|((first|refine an (fun K hK => ?_)|refine pj ?_|refine aa (h1) ?_|refine aA (fun hg=>h1) ?_|refine aa (h2) ?_|refine aA (fun hg=>h2) ?_);and_intros;all_goals first|(refine hK _ ?_;clear hK K)|try exact ai)|((first|apply dC|apply dE);(case hf=>rfl);(case hc=>exact du);(all_goals first|(intro hb;(try simp only [nR] at hb))|skip))|exact bd|(refine aH (fun hb => ?_) (fun hb => ?_);all_goals try exact ax)|refine eo (fun KB hB => ?_)|(refine hB _ ?_;clear hB KB)|refine gM (S:=Sg) (by assumption) ?_|(refine bF ?_;(try clear hB KB);(try clear hK K)))
     refine cJ ⟨dG ?_,cD trivial,trivial⟩;simp only [List.map_cons,List.map_nil,bM,cA];and_intros;all_goals first|exact .inl rfl|exact .inl trivial|exact .inr bP|trivial|skip
 ·have g0:((bz s).1 != 0)=true:=bne_iff_ne.2 h0;have hr:fG old s r=(bz s).1:=by unfold fG;rw [if_pos h0]
  have hr2:lT old s r=ft:=by unfold lT;rw [hr,if_neg h0]
  rw [hr,hr2];refine bo ?_;refine az Tryz.func18 [.cell 6 49, .tmp 7] ?_;repeat' (first|with_reducible exact cz|refine aj g0 ?_|refine bL ?_|((first|refine an (fun K hK => ?_)|refine pj ?_|refine aa (h1) ?_|refine aA (fun hg=>h1) ?_);and_intros;all_goals first|(refine hK _ ?_;clear hK K)|try exact ai)|((first|apply dC|apply dE);(case hf=>rfl);(case hc=>exact du);(all_goals first|(intro hb;(try simp only [nR] at hb))|skip))|exact bd|(refine aH (fun hb => ?_) (fun hb => ?_);all_goals try exact ax)|refine eo (fun KB hB => ?_)|(refine hB _ ?_;clear hB KB)|refine gM (S:=Sg) (by assumption) ?_|(refine bF ?_;(try clear hB KB);(try clear hK K)))
  refine cJ ⟨dG ?_,cD trivial,trivial⟩;simp only [List.map_cons,List.map_nil,bM,cA];and_intros;all_goals first|exact .inl rfl|exact .inl trivial|exact .inr bP|trivial|skip
end
section
attribute [local go_sem] Int.toNat_natCast Vu jZ HU Um
theorem LR {old:Image} {s:Script} {r:Rect} (hc:(bz s).1=0→Small s.canvas):ImgLen (lT old s r):=by
 unfold lT;split
 ·rename_i h;have h0:(bz s).1=0:=Decidable.byContradiction fun q=>by unfold fG at h;rw [if_pos q] at h;exact q h
  obtain ⟨x0,x1,y0,y1,hw,hh⟩:=hc h0;have hb:wB s.canvas≤20:=by
   have:=Int.mul_le_mul hw.2 hh.2 (by omega) (by decide:(0:Int)≤5);unfold wB;omega
  have hl:(za old s r).length≤20:=by rw [AU];exact hb
  unfold BZ bR;split
  ·refine ⟨?_, ?_, ?_, ?_, ?_⟩ <;> (show (List.map _ _).length≤_;grind)
  ·exact Dk
 ·exact Dk
theorem Vg {s:Script} (E:EvOk s) (hf:bJ s=0) (hn:s.ops.length≤4096) {o:Op} (ho:0≤o.opacity):EvOk { s with ops:=s.ops ++ [o] } :=
 ⟨⟨E.len.order,E.len.images,by show (s.ops ++ [o]).length≤_;rw [List.length_append];simp;omega⟩,fun q hq=>by
  rcases List.mem_append.1 hq with h|h
  ·exact E.op q h
  ·rw [List.mem_singleton.1 h];exact ho,fun _ m hm=>E.im hf m hm⟩
theorem EG (c : Scene) (hc : SceneOk c) (r : Row) (hr : RowOk r) (n k : K4) (hk : i64 k.a) (what : Int) (o : Op) (ho : 0 ≤ o.opacity) :
  aB Sg 3 [ag (fW c),ag (CD r),ag (Vu n),ag (Vu k),I what,ag (cC o)] (fun q=>q = .b (B true)):=by
 have ht:True:=trivial;have hO:=a0y c;have E:=hO.ev;have hsm:=hO.small;have hfr:=hO.V.frame;have hcnt:=hO.V.cnt;have hm:=cj what 6 (by omega);have hw:eO what 6=0∨eO what 6=1∨eO what 6=2∨eO what 6=3∨eO what 6=4∨eO what 6=5:=by
  unfold eO;rw [if_neg (by decide)];omega
 have haw:=uY;have hg:=kE c hc;have hgo:=xY c hc;generalize aI c=s at *
 generalize eO what 6=wh at *
 obtain ⟨x0,x1,y0,y1,hw5,hh4⟩:=id hsm;obtain ⟨W,hW⟩:∃ W:Nat,(W:Int)=s.canvas.x1 - s.canvas.x0:=⟨(s.canvas.x1 - s.canvas.x0).toNat,by omega⟩
 obtain ⟨H,hH⟩:∃ H:Nat,(H:Int)=s.canvas.y1 - s.canvas.y0:=⟨(s.canvas.y1 - s.canvas.y0).toNat,by omega⟩
 have hb20:H * W≤20:=Nat.le_trans (Nat.mul_le_mul (show H≤4 by omega) (show W≤5 by omega)) (by decide);have eWH:(s.canvas.x1 - s.canvas.x0) * (s.canvas.y1 - s.canvas.y0)=((H * W:Nat):Int):=by rw [← hW,← hH,Int.natCast_mul,Int.mul_comm]
 have s1:=oe r ((s.canvas.x1 - s.canvas.x0) * (s.canvas.y1 - s.canvas.y0)) 65535 hr (by omega) (by omega) (by unfold u16;omega);have hpl:(aY r ((s.canvas.x1 - s.canvas.x0) * (s.canvas.y1 - s.canvas.y0)).toNat 65535).length=((s.canvas.x1 - s.canvas.x0) * (s.canvas.y1 - s.canvas.y0)).toNat:=by simp [aY]
 have s2:=kQ (s.canvas.x1 - s.canvas.x0) (s.canvas.y1 - s.canvas.y0) (aY r ((s.canvas.x1 - s.canvas.x0) * (s.canvas.y1 - s.canvas.y0)).toNat 65535) (by omega);have s3:=RJ s.canvas hsm n;have s4:=QK k hk;have s5:=iq (s.canvas.x1 - s.canvas.x0) (s.canvas.y1 - s.canvas.y0) ⟨0,0,0,7,0⟩;have s6:=iq (s.canvas.x1 - s.canvas.x0+1) (s.canvas.y1 - s.canvas.y0) ⟨0,0,0,0,0⟩;have hiw:0≤(bR (s.canvas.x1 - s.canvas.x0) (s.canvas.y1 - s.canvas.y0) (aY r ((s.canvas.x1 - s.canvas.x0) * (s.canvas.y1 - s.canvas.y0)).toNat 65535)).w∧(bR (s.canvas.x1 - s.canvas.x0) (s.canvas.y1 - s.canvas.y0) (aY r ((s.canvas.x1 - s.canvas.x0) * (s.canvas.y1 - s.canvas.y0)).toNat 65535)).w≤5:=by
  unfold bR;split
  ·show 0≤s.canvas.x1 - s.canvas.x0∧s.canvas.x1 - s.canvas.x0≤5;omega
  ·decide
 generalize aY r ((s.canvas.x1 - s.canvas.x0) * (s.canvas.y1 - s.canvas.y0)).toNat 65535=pl at *
 generalize bR (s.canvas.x1 - s.canvas.x0) (s.canvas.y1 - s.canvas.y0) pl=im at *
 generalize TB s.canvas n=pt at *
 generalize Rj k=pt2 at *
 by_cases h3:wh=3
 ·subst h3;clear hw;refine az Tryz.func3 [.tmp 12] ?_;repeat' (first|with_reducible exact cz|refine aj ht ?_|refine bL ?_|((with_reducible refine aX (id:=4) (fun K hW => ?_));(try simp (maxSteps:=999999)(disch:=omega) only [go_sem]);and_intros;all_goals first|(refine hK _ ?_;clear hK K)|try exact ai)|((first|refine an (fun K hK => ?_)|refine pj ?_|refine KX (hgo) ?_|refine aa (s1) ?_|refine aA (fun hg=>s1) ?_|refine aa (s2) ?_|refine aA (fun hg=>s2) ?_|refine aa (s3) ?_|refine aA (fun hg=>s3) ?_);and_intros;all_goals first|(refine hK _ ?_;clear hK K)|try exact ai)|((first|apply dC|apply dE);(case hf=>rfl);(case hc=>exact du);(all_goals first|(intro hb;(try simp only [nR] at hb))|skip))|exact bd|(refine aH (fun hb => ?_) (fun hb => ?_);all_goals try exact ax)|refine eo (fun KB hB => ?_)|(refine hB _ ?_;clear hB KB)|refine gM (S:=Sg) (by assumption) ?_|(refine bF ?_;(try clear hB KB);(try clear hK K)))
  refine hW _ (aP [(4, .b (I what)),(11, .b (.c (.ptr 1 0))),(12, .b (B false)),(13, .b (.c (.ptr 3 0))),(16, .b (.c (.ptr 4 0))),(18, .b (.c (.ptr 5 0)))] [(1, .fix ((cC o).map CV.p)),(2, .arr 33 12 s.ops.length (aQ cC s.ops)),(3, .fix [.p (PI s.bits), .p (PI s.canvas.x0), .p (PI s.canvas.y0), .p (PI s.canvas.x1), .p (PI s.canvas.y1), .p (PI s.tileW), .p (PI s.tileH), .p (dq s.order), .p (qq s.images), .own 2 s.ops.length]),
   (4, .fix ((aF im).map CV.p)),(5, .fix ((aS pt).map CV.p))] 6) ?_ ?_
  ·clear hW;refine ar [(1,some 4),(2,some 5),(3,some 6),(4,some 7),(5,some 8)] ?_ ?_;and_intros;all_goals try exact ak
  clear hW;refine gQ ?_;refine an fun K hK => ?_;refine aa hm ?_;refine hK _ ?_;clear hK K;refine fx fun KB hV => ?_;have tl:∀ (S':Script) (m':Image) (q':Rect),EvOk S'→Small S'.canvas→∀ st,Le st (aP [(12, .b (B false)),(13, .b (.c (.ptr 3 0))),(16, .b (.c (.ptr 4 0))),(18, .b (.c (.ptr 5 0)))] [(3, .fix ((ay S').map CV.p)),(4, .fix ((aF m').map CV.p)),(5, .fix ((aS q').map CV.p))] 6)→KB st:=fun S' m' q' E' hs' st hl=>hV st _ hl ?_
  ·have e0:((3:Int) == 0)=false:=rfl;have e1:((3:Int) == 1)=false:=rfl;have e2:((3:Int) == 2)=false:=rfl;have e3:((3:Int) == 3)=true:=rfl;repeat' (first|with_reducible exact cz|refine aj (And.intro e0 (And.intro e1 (And.intro e2 e3))) ?_|refine bL ?_|((first|refine an (fun K hK => ?_)|refine pj ?_);and_intros;all_goals first|(refine hK _ ?_;clear hK K)|try exact ai)|((first|apply dC|apply dE);(case hf=>rfl);(case hc=>exact du);(all_goals first|(intro hb;(try simp only [nR] at hb))|skip))|exact bd|(refine aH (fun hb => ?_) (fun hb => ?_);all_goals try exact ax)|refine eo (fun KB hB => ?_)|(refine hB _ ?_;clear hB KB)|refine gM (S:=Sg) (by assumption) ?_|(refine bF ?_;(try clear hB KB);(try clear hK K)))
   rw [dJ,ae];refine tl { s with ops:=s.ops ++ [o] } im pt (Vg E hfr hcnt ho) hsm _ ?_;refine ar [(3,some 3),(4,some 4),(5,some 5)] ?_ ?_;and_intros;all_goals try exact ak
   ·show _=(s.ops ++ [o]).length;rw [List.length_append];rfl
   ·refine gD (enc:=cC) (xs:=s.ops) (x:=o) (fun j hj => ?_);have hivl:j=0∨j=1∨j=2∨j=3∨j=4∨j=5∨j=6∨j=7∨j=8∨j=9∨j=10∨j=11:=by omega
    rcases hivl with rfl|rfl|rfl|rfl|rfl|rfl|rfl|rfl|rfl|rfl|rfl|rfl <;> rfl
  ·clear hV;have hc':(bz S').1=0→Small S'.canvas:=fun _=>hs';have q1:=ug m' S' q' E' hc';have q2:=Bt m' S' q' E' hc';have q7:=mJ (lT m' S' q') (LR hc');generalize lT m' S' q'=M at *
   generalize fG m' S' q'=e at *
   repeat' (first|with_reducible exact cz|refine aj ht ?_|refine bL ?_|((first|refine an (fun K hK => ?_)|refine pj ?_|refine aa (q1) ?_|refine aA (fun hg=>q1) ?_|refine aa (q2) ?_|refine aA (fun hg=>q2) ?_|refine aa (haw) ?_|refine aA (fun hg=>haw) ?_|refine aa (q7) ?_|refine aA (fun hg=>q7) ?_);and_intros;all_goals first|(refine hK _ ?_;clear hK K)|try exact ai)|((first|apply dC|apply dE);(case hf=>rfl);(case hc=>exact du);(all_goals first|(intro hb;(try simp only [nR] at hb))|skip))|exact bd|(refine aH (fun hb => ?_) (fun hb => ?_);all_goals try exact ax)|refine eo (fun KB hB => ?_)|(refine hB _ ?_;clear hB KB)|refine gM (S:=Sg) (by assumption) ?_|(refine bF ?_;(try clear hB KB);(try clear hK K)))
   refine congrArg (fun b=>SV.b (B b)) (?_:_=true);simp only [beq_self_eq_true,Bool.and_self,Bool.true_and,Bool.and_true]
 ·refine az Tryz.func3 [.tmp 12] ?_;repeat' (first|with_reducible exact cz|refine aj ht ?_|refine bL ?_|((with_reducible refine aX (id:=4) (fun K hW => ?_));(try simp (maxSteps:=999999)(disch:=omega) only [go_sem]);and_intros;all_goals first|(refine hK _ ?_;clear hK K)|try exact ai)|((first|refine an (fun K hK => ?_)|refine pj ?_|refine aa (hg) ?_|refine aA (fun hg=>hg) ?_|refine aa (s1) ?_|refine aA (fun hg=>s1) ?_|refine aa (s2) ?_|refine aA (fun hg=>s2) ?_|refine aa (s3) ?_|refine aA (fun hg=>s3) ?_);and_intros;all_goals first|(refine hK _ ?_;clear hK K)|try exact ai)|((first|apply dC|apply dE);(case hf=>rfl);(case hc=>exact du);(all_goals first|(intro hb;(try simp only [nR] at hb))|skip))|exact bd|(refine aH (fun hb => ?_) (fun hb => ?_);all_goals try exact ax)|refine eo (fun KB hB => ?_)|(refine hB _ ?_;clear hB KB)|refine gM (S:=Sg) (by assumption) ?_|(refine bF ?_;(try clear hB KB);(try clear hK K)))
  refine hW _ (aP [(4, .b (I what)),(9, .b (.c (.ptr 1 0))),(12, .b (B false)),(13, .b (.c (.ptr 2 0))),(14, .b (I (s.canvas.x1 - s.canvas.x0))),(15, .b (I (s.canvas.y1 - s.canvas.y0))),(16, .b (.c (.ptr 3 0))),(18, .b (.c (.ptr 4 0)))] [(1, .fix ((Vu k).map CV.p)),(2, .fix ((ay s).map CV.p)),
   (3, .fix ((aF im).map CV.p)),(4, .fix ((aS pt).map CV.p))] 5) ?_ ?_
  ·clear hW;refine ar [(1,some 3),(2,some 5),(3,some 6),(4,some 7)] ?_ ?_;and_intros;all_goals try exact ak
  clear hW;refine gQ ?_;refine an fun K hK => ?_;refine aa hm ?_;refine hK _ ?_;clear hK K;refine fx fun KB hV => ?_;have tl:∀ (S':Script) (m':Image) (q':Rect),EvOk S'→Small S'.canvas→∀ st,Le st (aP [(12, .b (B false)),(13, .b (.c (.ptr 2 0))),(16, .b (.c (.ptr 3 0))),(18, .b (.c (.ptr 4 0)))] [(2, .fix ((ay S').map CV.p)),(3, .fix ((aF m').map CV.p)),(4, .fix ((aS q').map CV.p))] 5)→KB st:=fun S' m' q' E' hs' st hl=>hV st _ hl ?_
  ·rcases hw with hw|hw|hw|hw|hw|hw
   ·subst hw;have e0:((0:Int) == 0)=true:=rfl;repeat' (first|with_reducible exact cz|refine aj e0 ?_|refine bL ?_|((first|refine an (fun K hK => ?_)|refine pj ?_|refine aa (s5) ?_|refine aA (fun hg=>s5) ?_);and_intros;all_goals first|(refine hK _ ?_;clear hK K)|try exact ai)|((first|apply dC|apply dE);(case hf=>rfl);(case hc=>exact du);(all_goals first|(intro hb;(try simp only [nR] at hb))|skip))|exact bd|(refine aH (fun hb => ?_) (fun hb => ?_);all_goals try exact ax)|refine eo (fun KB hB => ?_)|(refine hB _ ?_;clear hB KB)|refine gM (S:=Sg) (by assumption) ?_|(refine bF ?_;(try clear hB KB);(try clear hK K)))
    rw [dJ,ae];refine tl s ⟨s.canvas.x1 - s.canvas.x0,s.canvas.y1 - s.canvas.y0,true,⟨0,0,0,7,0⟩,⟨0,0,0,[]⟩,⟨0,0,0,[]⟩,⟨0,0,0,[]⟩,⟨0,0,0,[]⟩,⟨0,0,0,[]⟩⟩ pt E hsm _ ?_;refine ar [(2,some 2),(3,some 3),(4,some 4)] ?_ ?_;and_intros;all_goals try exact ak
   ·subst hw;have e0:((1:Int) == 0)=false:=rfl;have e1:((1:Int) == 1)=true:=rfl;repeat' (first|with_reducible exact cz|refine aj (And.intro e0 e1) ?_|refine bL ?_|((first|refine an (fun K hK => ?_)|refine pj ?_);and_intros;all_goals first|(refine hK _ ?_;clear hK K)|try exact ai)|((first|apply dC|apply dE);(case hf=>rfl);(case hc=>exact du);(all_goals first|(intro hb;(try simp only [nR] at hb))|skip))|exact bd|(refine aH (fun hb => ?_) (fun hb => ?_);all_goals try exact ax)|refine eo (fun KB hB => ?_)|(refine hB _ ?_;clear hB KB)|refine gM (S:=Sg) (by assumption) ?_|(refine bF ?_;(try clear hB KB);(try clear hK K)))
    rw [dJ,ae];refine tl s { im with w:=im.w+1 } pt E hsm _ ?_;refine ar [(2,some 2),(3,some 3),(4,some 4)] ?_ ?_;and_intros;all_goals try exact ak
   ·subst hw;have e0:((2:Int) == 0)=false:=rfl;have e1:((2:Int) == 1)=false:=rfl;have e2:((2:Int) == 2)=true:=rfl;repeat' (first|with_reducible exact cz|refine aj (And.intro e0 (And.intro e1 e2)) ?_|refine bL ?_|((first|refine an (fun K hK => ?_)|refine pj ?_|refine aa (s4) ?_|refine aA (fun hg=>s4) ?_);and_intros;all_goals first|(refine hK _ ?_;clear hK K)|try exact ai)|((first|apply dC|apply dE);(case hf=>rfl);(case hc=>exact du);(all_goals first|(intro hb;(try simp only [nR] at hb))|skip))|exact bd|(refine aH (fun hb => ?_) (fun hb => ?_);all_goals try exact ax)|refine eo (fun KB hB => ?_)|(refine hB _ ?_;clear hB KB)|refine gM (S:=Sg) (by assumption) ?_|(refine bF ?_;(try clear hB KB);(try clear hK K)))
    rw [dJ,ae];refine tl s im pt2 E hsm _ ?_;refine ar [(2,some 2),(3,some 3),(4,some 4)] ?_ ?_;and_intros;all_goals try exact ak
   ·exact absurd hw h3
   ·subst hw;have e0:((4:Int) == 0)=false:=rfl;have e1:((4:Int) == 1)=false:=rfl;have e2:((4:Int) == 2)=false:=rfl;have e3:((4:Int) == 3)=false:=rfl;have e4:((4:Int) == 4)=true:=rfl;repeat' (first|with_reducible exact cz|refine aj (And.intro e0 (And.intro e1 (And.intro e2 (And.intro e3 e4)))) ?_|refine bL ?_|((first|refine an (fun K hK => ?_)|refine pj ?_|refine aa (s6) ?_|refine aA (fun hg=>s6) ?_);and_intros;all_goals first|(refine hK _ ?_;clear hK K)|try exact ai)|((first|apply dC|apply dE);(case hf=>rfl);(case hc=>exact du);(all_goals first|(intro hb;(try simp only [nR] at hb))|skip))|exact bd|(refine aH (fun hb => ?_) (fun hb => ?_);all_goals try exact ax)|refine eo (fun KB hB => ?_)|(refine hB _ ?_;clear hB KB)|refine gM (S:=Sg) (by assumption) ?_|(refine bF ?_;(try clear hB KB);(try clear hK K)))
    rw [dJ,ae];refine tl s ⟨s.canvas.x1 - s.canvas.x0+1,s.canvas.y1 - s.canvas.y0,true,⟨0,0,0,0,0⟩,⟨0,0,0,[]⟩,⟨0,0,0,[]⟩,⟨0,0,0,[]⟩,⟨0,0,0,[]⟩,⟨0,0,0,[]⟩⟩ pt E hsm _ ?_;refine ar [(2,some 2),(3,some 3),(4,some 4)] ?_ ?_;and_intros;all_goals try exact ak
   ·subst hw;have e0:((5:Int) == 0)=false:=rfl;have e1:((5:Int) == 1)=false:=rfl;have e2:((5:Int) == 2)=false:=rfl;have e3:((5:Int) == 3)=false:=rfl;have e4:((5:Int) == 4)=false:=rfl;repeat' (first|with_reducible exact cz|refine aj (And.intro e0 (And.intro e1 (And.intro e2 (And.intro e3 e4)))) ?_|refine bL ?_|((first|refine an (fun K hK => ?_)|refine pj ?_);and_intros;all_goals first|(refine hK _ ?_;clear hK K)|try exact ai)|((first|apply dC|apply dE);(case hf=>rfl);(case hc=>exact du);(all_goals first|(intro hb;(try simp only [nR] at hb))|skip))|exact bd|(refine aH (fun hb => ?_) (fun hb => ?_);all_goals try exact ax)|refine eo (fun KB hB => ?_)|(refine hB _ ?_;clear hB KB)|refine gM (S:=Sg) (by assumption) ?_|(refine bF ?_;(try clear hB KB);(try clear hK K)))
    refine tl s im pt E hsm _ ?_;refine ar [(2,some 2),(3,some 3),(4,some 4)] ?_ ?_;and_intros;all_goals try exact ak
  ·clear hV;have hc':(bz S').1=0→Small S'.canvas:=fun _=>hs';have q1:=ug m' S' q' E' hc';have q2:=Bt m' S' q' E' hc';have q7:=mJ (lT m' S' q') (LR hc');generalize lT m' S' q'=M at *
   generalize fG m' S' q'=e at *
   repeat' (first|with_reducible exact cz|refine aj ht ?_|refine bL ?_|((first|refine an (fun K hK => ?_)|refine pj ?_|refine aa (q1) ?_|refine aA (fun hg=>q1) ?_|refine aa (q2) ?_|refine aA (fun hg=>q2) ?_|refine aa (haw) ?_|refine aA (fun hg=>haw) ?_|refine aa (q7) ?_|refine aA (fun hg=>q7) ?_);and_intros;all_goals first|(refine hK _ ?_;clear hK K)|try exact ai)|((first|apply dC|apply dE);(case hf=>rfl);(case hc=>exact du);(all_goals first|(intro hb;(try simp only [nR] at hb))|skip))|exact bd|(refine aH (fun hb => ?_) (fun hb => ?_);all_goals try exact ax)|refine eo (fun KB hB => ?_)|(refine hB _ ?_;clear hB KB)|refine gM (S:=Sg) (by assumption) ?_|(refine bF ?_;(try clear hB KB);(try clear hK K)))
   refine congrArg (fun b=>SV.b (B b)) (?_:_=true);simp only [beq_self_eq_true,Bool.and_self,Bool.true_and,Bool.and_true]
end
end Go.Proofs.YtdjmpacladhijaaGreatDoor
