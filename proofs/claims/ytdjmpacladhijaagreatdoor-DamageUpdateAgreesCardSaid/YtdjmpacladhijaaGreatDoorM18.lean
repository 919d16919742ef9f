/- Part of the proof: WA, WD, WE. -/
import Derived.Test.YtdjmpacladhijaaGreatDoorM16
set_option linter.unusedSimpArgs false
set_option linter.unusedVariables false
set_option maxHeartbeats 4000000
set_option maxRecDepth 16000
namespace Go.Proofs.YtdjmpacladhijaaGreatDoor
open Go Go.SL
open Go.RowKit (wrap64)
section
attribute [local go_sem] qE mh
theorem a5g (x:Ex) (h:ExOk x):aB Sg 252 [ag (mh x),cY (en x)] (fun r=>r = .b (B (pa x 2 (2 * en x+1)))):=by
 obtain ⟨p0,p1,q0,q1,r0,r1,d0,d1,_⟩:=id h;have hES:ExS x:=⟨p0,p1,q0,by omega,r0,r1,by omega,d1⟩
 have hs:=xa hES;obtain ⟨_,_,f0,f1⟩:=ki h;obtain ⟨k,ek⟩:∃ k,(2 * en x+1) * x.d - 2 * x.p=k:=⟨_,rfl⟩
 have hu:=a4x ek;generalize pa x 2 (2 * en x+1)=b at *
 generalize en x=F at *
 have hm:0≤(2 * F+1) * x.d∧(2 * F+1) * x.d≤9223372036854775807 * 18446744073709551615:=⟨au (by omega) (by omega),aD (by omega) (by omega) (by omega) (by omega)⟩
 have h1:=vz x.p 2 p0 ⟨by decide,by decide⟩ (by omega) (by omega);rw [Int.mul_comm x.p 2] at h1;have h2:=mK (2 * F+1) x.d ⟨by omega,by omega⟩ ⟨by omega,d1⟩;have hq:=xB x hES;have ht:True:=trivial;by_cases c:(2 * F+1) * x.d<2 * x.p
 ·have h3:=ZK ((2 * F+1) * x.d) (2 * x.p) ⟨hm.1,by omega⟩ ⟨by omega,by omega⟩ c;have hb:b=true:=hu.2 (.inl (by omega));rw [hb];generalize (2 * F+1) * x.d=M at *
  refine az Tryz.func252 [.tmp 4] ?_;repeat' (first|((with_reducible refine aX (id:=1) (fun K hW => ?_));(try simp (maxSteps:=999999)(disch:=omega) only [go_sem]);and_intros;all_goals first|(refine hK _ ?_;clear hK K)|try exact ai)|refine an (fun K hK => ?_)|refine aa (h1) ?_|(refine aq hK ?_;try clear hK K))
  refine hW _ (aP [(1, .b (cY F)),(2, .b (.c (.ptr 0 0))),(5, .b (.c (.ptr 1 0)))] [(0, .fix ((mh x).map CV.p)),(1, .fix ((qE (2 * x.p)).map CV.p))] 2) ?_ ?_
  ·refine ar [(1,some 1)] ?_ ?_;and_intros;all_goals try exact ak
  clear hW;refine cM (id:=2) (.br 0 (.br 1 (.br 2 (.br 3 (.br 4 (.br 6 (.br 5 (.br 7 (.br 8 (.br 9 (.br 10 (.br 11 (.br 12 (.br 13 .leaf .nil) .nil) .nil) .nil) .nil) .nil) (.br 11 (.br 7 (.br 8 (.br 9 (.br 10 (.br 12 (.br 13 .leaf .nil) .nil) .nil) .nil) .nil) .nil) .nil)) (.br 11 (.br 5 (.br 7 (.br 8 (.br 9 (.br 10 (.br 12 (.br 13 .leaf .nil) .nil) .nil) .nil) .nil) .nil) .nil) .nil)) .nil) .nil) .nil) .nil) .nil) .nil) (by decide +kernel) bZ (fun K0 hW => ?_);refine (fun (tl:∀ st,Le st (aP [(8, .b (B false))] [] 1)→K0 st) => ?_) (fun st hl=>hW st _ hl ?_)
  ·clear hW;repeat' (first|exact bp|(refine bO (fun K' hK' => ?_) ?_)|(refine aZ (tl _ ?_);clear tl)|((first|refine aa (h2) ?_|refine aa (h3) ?_);(try simp (maxSteps:=999999)(disch:=omega) only [go_sem]);and_intros;(all_goals first|(refine hK' _ ?_;clear hK' K')|trivial|omega|exact Nat.le_of_ble_eq_true rfl|exact ai|skip))|(simp (maxSteps:=999999)(disch:=omega) only [go_sem];and_intros;(all_goals first|(refine hK' _ ?_;clear hK' K')|trivial|omega|exact Nat.le_of_ble_eq_true rfl|exact ai|skip)))
   all_goals
    refine ar [] ?_ ?_;and_intros;all_goals try exact ak
  clear hW;repeat' (first|with_reducible exact cz|refine aj ht ?_|refine aC ?_)
 ·have h3:=YB ((2 * F+1) * x.d) (2 * x.p) ⟨hm.1,by omega⟩ ⟨by omega,by omega⟩ (by omega);rw [ek] at h3;generalize (2 * F+1) * x.d=M at *
  have h5:=zP k 2 ⟨by omega,by omega⟩ (by decide) (by decide);have hsq:=hs.2.2.2;have hsq0:=hs.2.2.1;have hro:=Fe (x:=x) (n:=k / 2) hES (by omega);have h6:=SK x (k / 2) hES ⟨by omega,by omega⟩;have hok:k % 2=0∨k % 2=1:=by omega
  have hk2:k=2 * (k / 2)+k % 2:=by omega
  generalize k / 2=m at *
  generalize k % 2=o at *
  generalize x.q * x.q * x.r=A at *
  refine az Tryz.func252 [.tmp 4] ?_;repeat' (first|((with_reducible refine aX (id:=1) (fun K hW => ?_));(try simp (maxSteps:=999999)(disch:=omega) only [go_sem]);and_intros;all_goals first|(refine hK _ ?_;clear hK K)|try exact ai)|refine an (fun K hK => ?_)|refine aa (h1) ?_|(refine aq hK ?_;try clear hK K))
  refine hW _ (aP [(1, .b (cY F)),(2, .b (.c (.ptr 0 0))),(5, .b (.c (.ptr 1 0)))] [(0, .fix ((mh x).map CV.p)),(1, .fix ((qE (2 * x.p)).map CV.p))] 2) ?_ ?_
  ·refine ar [(1,some 1)] ?_ ?_;and_intros;all_goals try exact ak
  clear hW;refine cM (id:=2) (.br 0 (.br 1 (.br 2 (.br 3 (.br 4 (.br 6 (.br 5 (.br 7 (.br 8 (.br 9 (.br 10 (.br 11 (.br 12 (.br 13 .leaf .nil) .nil) .nil) .nil) .nil) .nil) (.br 11 (.br 7 (.br 8 (.br 9 (.br 10 (.br 12 (.br 13 .leaf .nil) .nil) .nil) .nil) .nil) .nil) .nil)) (.br 11 (.br 5 (.br 7 (.br 8 (.br 9 (.br 10 (.br 12 (.br 13 .leaf .nil) .nil) .nil) .nil) .nil) .nil) .nil) .nil)) .nil) .nil) .nil) .nil) .nil) .nil) (by decide +kernel) bZ (fun K0 hW => ?_);refine (fun (tl:∀ st,Le st (aP [(2, .b (.c (.ptr 0 0))),(7, .b (.c (.ptr 1 0))),(8, .b (B true))] [(0, .fix ((mh x).map CV.p)),(1, .fix ((qE k).map CV.p))] 2)→K0 st) => ?_) (fun st hl=>hW st _ hl ?_)
  ·clear hW;repeat' (first|exact bp|(refine bO (fun K' hK' => ?_) ?_)|(refine aZ (tl _ ?_);clear tl)|((first|refine aa (h2) ?_|refine aa (h3) ?_);(try simp (maxSteps:=999999)(disch:=omega) only [go_sem]);and_intros;(all_goals first|(refine hK' _ ?_;clear hK' K')|trivial|omega|exact Nat.le_of_ble_eq_true rfl|exact ai|skip))|(simp (maxSteps:=999999)(disch:=omega) only [go_sem];and_intros;(all_goals first|(refine hK' _ ?_;clear hK' K')|trivial|omega|exact Nat.le_of_ble_eq_true rfl|exact ai|skip)))
   all_goals
    refine ar [(1,some 2)] ?_ ?_;and_intros;all_goals try exact ak
  clear hW;by_cases c1:m / 18446744073709551616>0
  ·have g1:decide (m / 18446744073709551616>0)=true:=decide_eq_true c1;have hmm:18446744073709551616 * 18446744073709551616≤m * m:=aD (by omega) (by omega) (by decide) (by omega);have hb:b=false:=by
    rw [← Bool.not_eq_true,hu];rintro (q|⟨_,q⟩)
    ·omega
    ·split at q <;> omega
   rw [hb];repeat' (first|with_reducible exact cz|refine aj g1 ?_|refine aw ?_|refine an (fun K hK => ?_)|refine aa (h5) ?_|(refine aq hK ?_;try clear hK K))
  ·have g1:decide (m / 18446744073709551616>0)=false:=decide_eq_false c1;rcases hok with rfl|rfl
   ·have g2:((0:Int) == 0)=true:=rfl;rw [if_pos rfl] at hu;have hb:b=decide (pD x m≥0):=by
     rw [Bool.eq_iff_iff,hu,decide_eq_true_eq,ge_iff_le,hro];constructor
     ·rintro (q|q)
      ·have:m=0:=by omega
       rw [this];exact hsq0
      ·exact q.2
     ·intro q;rcases Decidable.em (k≤0) with w|w
      ·exact .inl w
      ·exact .inr ⟨by omega,q⟩
    rw [hb];repeat' (first|with_reducible exact cz|refine aj (And.intro g1 g2) ?_|refine aw ?_|refine an (fun K hK => ?_)|refine aa (h5) ?_|refine aa (h6) ?_|(refine aq hK ?_;try clear hK K))
    all_goals skip
   ·have g2:((1:Int) == 0)=false:=rfl;rw [if_neg (by decide)] at hu;have hmm:0≤m * m∧m * m≤18446744073709551615 * 18446744073709551615:=⟨au (by omega) (by omega),aD (by omega) (by omega) (by omega) (by omega)⟩
    have h7:=mK (m % 18446744073709551616) (m % 18446744073709551616) ⟨by omega,by omega⟩ ⟨by omega,by omega⟩;rw [show m % 18446744073709551616 * (m % 18446744073709551616)=m * m by rw [show m % 18446744073709551616=m by omega]] at h7;have h8:=wt (m * m) m hmm.1 (by omega) (by omega);have h9:=Ev A (m * m+m);have hb:b=decide (kT A (m * m+m)>0):=by
     rw [Bool.eq_iff_iff,hu,decide_eq_true_eq];unfold kT;constructor
     ·rintro (q|q)
      ·omega
      ·rw [if_neg (by omega),if_neg (by omega)];decide
     ·intro q;refine .inr ⟨by omega, ?_⟩;split at q
      ·omega
      split at q <;> omega
    rw [hb];generalize m * m=mm at *
    repeat' (first|refine aj (And.intro g1 g2) ?_|refine aw ?_|refine an (fun K hK => ?_)|refine aa (h5) ?_|(refine aq hK ?_;try clear hK K))
    refine cM (id:=10) (.br 0 (.br 1 (.br 2 (.br 3 (.br 5 (.br 4 (.br 6 (.br 7 (.br 8 (.br 9 (.br 10 (.br 11 (.br 12 .leaf .nil) .nil) .nil) .nil) .nil) .nil) (.br 10 (.br 6 (.br 7 (.br 8 (.br 9 (.br 11 (.br 12 .leaf .nil) .nil) .nil) .nil) .nil) .nil) .nil)) (.br 10 (.br 4 (.br 6 (.br 7 (.br 8 (.br 9 (.br 11 (.br 12 .leaf .nil) .nil) .nil) .nil) .nil) .nil) .nil) .nil)) .nil) .nil) .nil) .nil) .nil) (by decide +kernel) bZ (fun K0 hW => ?_);refine (fun (tl:∀ st,Le st (aP [(2, .b (.c (.ptr 0 0))),(8, .b (B true)),(12, .b (.c (.ptr 1 0)))] [(0, .fix ((mh x).map CV.p)),(1, .fix ((qE (mm+m)).map CV.p))] 2)→K0 st) => ?_) (fun st hl=>hW st _ hl ?_)
    ·clear hW;repeat' (first|exact bp|(refine bO (fun K' hK' => ?_) ?_)|(refine aZ (tl _ ?_);clear tl)|((first|refine aa (h7) ?_|refine aa (h8) ?_);(try simp (maxSteps:=999999)(disch:=omega) only [go_sem]);and_intros;(all_goals first|(refine hK' _ ?_;clear hK' K')|trivial|omega|exact Nat.le_of_ble_eq_true rfl|exact ai|skip))|(simp (maxSteps:=999999)(disch:=omega) only [go_sem];and_intros;(all_goals first|(refine hK' _ ?_;clear hK' K')|trivial|omega|exact Nat.le_of_ble_eq_true rfl|exact ai|skip)))
     all_goals
      refine ar [(1,some 3)] ?_ ?_;and_intros;all_goals try exact ak
    clear hW;repeat' (first|(((with_reducible refine bT (id:=11) [] (by decide +kernel) (by decide +kernel) ?_ (fun K hK => ?_));exact bZ);(try simp (maxSteps:=999999)(disch:=omega) only [go_sem]);and_intros;(all_goals first|(refine hK _ ba ?_;clear hK K)|exact ai|skip))|((first|refine aA (fun hg=>hq) ?_|refine aA (fun hg=>h9) ?_);and_intros;all_goals first|(refine hK _ ?_;clear hK K)|try exact ai))
    refine hK _ ba ?_;clear hK;repeat' (first|with_reducible exact cz|refine aC ?_)
    all_goals skip
theorem yx (x:Ex) (h:ExOk x):aB Sg 233 [ag (mh x)] (fun r=>r = .tup [cY (hx x),B true]):=by
 have hf:=Ol x h;have hu:=a5g x h;obtain ⟨_,_,f0,f1⟩:=ki h;unfold hx;generalize pa x 2 (2 * en x+1)=b at *
 generalize en x=F at *
 cases b
 ·have g1:decide (F≥9223372036854775808)=false:=decide_eq_false (by omega);have g0:false=false:=rfl;refine az Tryz.func233 [.tmp 2, .tmp 3] ?_;repeat' (first|with_reducible exact cz|refine aj (And.intro g1 g0) ?_|refine aw ?_|refine an (fun K hK => ?_)|refine aa (hf) ?_|refine aa (hu) ?_|(refine aq hK ?_;try clear hK K))
  all_goals skip
 ·have g1:decide (F+1≥9223372036854775808)=false:=decide_eq_false (by omega);have g0:true=true:=rfl;refine az Tryz.func233 [.tmp 2, .tmp 3] ?_;repeat' (first|with_reducible exact cz|refine aj (And.intro g1 g0) ?_|refine aw ?_|refine an (fun K hK => ?_)|refine aa (hf) ?_|refine aa (hu) ?_|(refine aq hK ?_;try clear hK K))
  all_goals skip
end
section
attribute [local go_sem] qE mh
theorem Rf {p q r d:Int} (h:Q64 p):mh ⟨p,q,r,d⟩=[.val (.int .u64 0), .val (.int .u64 p), .val (.int .u64 q), .val (.int .u64 r), .val (.int .u64 d)]:=by
 obtain ⟨h0,h1⟩:=h;simp only [mh];rw [show p / 18446744073709551616=0 by omega,show p % 18446744073709551616=p by omega]
theorem ct (p d:Int) (h:Q64 p):aB Sg 268 [cY p,cY d] (fun r=>r = .b (ag (mh ⟨p,0,0,d⟩))):=by
 rw [Rf h];refine az Tryz.func268 [.cell 4 274] ?_;repeat' (refine aC ?_)
 all_goals rfl
structure Sm4 (s a d b:Int):Prop where
 s0:0≤s
 sa:s≤a
 am:a≤65535
 d0:0≤d
 db:d≤b
 bm:b≤65535
theorem GO (s a d b:Int) (t:Bool) (h:Sm4 s a d b) (hr:t=false→2 * (b - d) * (a - s)≤a * b):aB Sg 269 [cY s,cY a,cY d,cY b,B t] (fun r=>r = .b (UQ (if t=true then 2 * s * d else a * b - 2 * (b - d) * (a - s)))):=by
 obtain ⟨s0,sa,am,d0,db,bm⟩:=h;have h1:0≤2 * s * d∧2 * s * d≤131070 * 65535:=⟨au (by omega) d0,aD (by omega) (by omega) d0 (by omega)⟩
 have h2:0≤a * b∧a * b≤65535 * 65535:=⟨au (by omega) (by omega),aD (by omega) (by omega) (by omega) (by omega)⟩
 have h3:0≤2 * (b - d) * (a - s)∧2 * (b - d) * (a - s)≤131070 * 65535:=⟨au (by omega) (by omega),aD (by omega) (by omega) (by omega) (by omega)⟩
 have ht:True:=trivial;cases t
 ·have hr:=hr rfl;refine az Tryz.func269 [.tmp 10] ?_;repeat' (first|with_reducible exact cz|refine aj ht ?_|refine aC ?_)
  all_goals rfl
 ·refine az Tryz.func269 [.tmp 10] ?_;repeat' (first|with_reducible exact cz|refine aj ht ?_|refine aC ?_)
  all_goals rfl
theorem Pu (s a d b:Int) (h:Sm4 s a d b):aB Sg 270 [cY s,cY a,cY d,cY b] (fun r=>r = .b (ag (mh (qU s a d b)))):=by
 obtain ⟨s0,sa,am,d0,db,bm⟩:=h;have h1:0≤d * a∧d * a≤65535 * 65535:=⟨au (by omega) (by omega),aD (by omega) (by omega) (by omega) (by omega)⟩
 have h2:0≤a * b∧a * b≤65535 * 65535:=⟨au (by omega) (by omega),aD (by omega) (by omega) (by omega) (by omega)⟩
 have h3:0≤b * (a - s)∧b * (a - s)≤65535 * 65535:=⟨au (by omega) (by omega),aD (by omega) (by omega) (by omega) (by omega)⟩
 have h4:0≤a * a∧a * a≤65535 * 65535:=⟨au (by omega) (by omega),aD (by omega) (by omega) (by omega) (by omega)⟩
 have h5:0≤a * a * d∧a * a * d≤65535 * 65535 * 65535:=⟨au h4.1 d0,aD h4.2 (by omega) d0 (by decide)⟩
 unfold qU;by_cases c1:d=0
 ·have g1:(d == 0)=true:=beq_iff_eq.2 c1;rw [if_pos c1];refine az Tryz.func270 [.cell 8 274] ?_;repeat' (first|refine aj g1 ?_|refine aw ?_|refine an (fun K hK => ?_)|refine aa (ct 0 1 ⟨by decide,by decide⟩) ?_|(refine aq hK ?_;try clear hK K))
  all_goals rfl
 have g1:(d == 0)=false:=beq_eq_false_iff_ne.2 c1;rw [if_neg c1];by_cases c2:b * (a - s)≤d * a
 ·have g2:decide (d * a≥b * (a - s))=true:=decide_eq_true c2;rw [if_pos c2];refine az Tryz.func270 [.cell 8 274] ?_;repeat' (first|refine aj (And.intro g1 g2) ?_|refine aw ?_|refine an (fun K hK => ?_)|refine aa (ct (a * b) 1 ⟨by omega,by omega⟩) ?_|(refine aq hK ?_;try clear hK K))
  all_goals rfl
 ·have g2:decide (d * a≥b * (a - s))=false:=decide_eq_false c2;rw [if_neg c2];refine az Tryz.func270 [.cell 8 274] ?_;repeat' (first|refine aj (And.intro g1 g2) ?_|refine aw ?_|refine an (fun K hK => ?_)|refine aa (ct (a * a * d) (a - s) ⟨by omega,by omega⟩) ?_|(refine aq hK ?_;try clear hK K))
  all_goals rfl
end
section
attribute [local go_sem] qE mh
theorem SU (s a d b:Int) (h:Sm4 s a d b):aB Sg 271 [cY s,cY a,cY d,cY b] (fun r=>r = .b (ag (mh (vZ s a d b)))):=by
 obtain ⟨s0,sa,am,d0,db,bm⟩:=h;have h2:0≤a * b∧a * b≤65535 * 65535:=⟨au (by omega) (by omega),aD (by omega) (by omega) (by omega) (by omega)⟩
 have h3:0≤(b - d) * a∧(b - d) * a≤65535 * 65535:=⟨au (by omega) (by omega),aD (by omega) (by omega) (by omega) (by omega)⟩
 have h4:0≤s * b∧s * b≤65535 * 65535:=⟨au (by omega) (by omega),aD (by omega) (by omega) (by omega) (by omega)⟩
 have h5:0≤a * b * s∧a * b * s≤65535 * 65535 * 65535:=⟨au h2.1 s0,aD h2.2 (by omega) s0 (by decide)⟩
 have h6:0≤(b - d) * a * a∧(b - d) * a * a≤65535 * 65535 * 65535:=⟨au h3.1 (by omega),aD h3.2 (by omega) (by omega) (by decide)⟩
 have ht:=xG s0 sa am d0 db bm;unfold vZ at *
 by_cases c1:d=b
 ·have g1:(d == b)=true:=beq_iff_eq.2 c1;rw [if_pos c1];refine az Tryz.func271 [.cell 8 274] ?_;repeat' (first|refine aj g1 ?_|refine aw ?_|refine an (fun K hK => ?_)|refine aa (ct (a * b) 1 ⟨by omega,by omega⟩) ?_|(refine aq hK ?_;try clear hK K))
  all_goals rfl
 have g1:(d == b)=false:=beq_eq_false_iff_ne.2 c1;rw [if_neg c1] at ht ⊢;by_cases c2:s * b≤(b - d) * a
 ·have g2:decide ((b - d) * a≥s * b)=true:=decide_eq_true c2;rw [if_pos c2];refine az Tryz.func271 [.cell 8 274] ?_;repeat' (first|refine aj (And.intro g1 g2) ?_|refine aw ?_|refine an (fun K hK => ?_)|refine aa (ct 0 1 ⟨by decide,by decide⟩) ?_|(refine aq hK ?_;try clear hK K))
  all_goals rfl
 ·have g2:decide ((b - d) * a≥s * b)=false:=decide_eq_false c2;rw [if_neg c2] at ht ⊢;have hp:=ht.p0;dsimp only at hp;refine az Tryz.func271 [.cell 8 274] ?_;repeat' (first|refine aj (And.intro g1 g2) ?_|refine aw ?_|refine an (fun K hK => ?_)|refine aa (ct (a * b * s - (b - d) * a * a) s ⟨by omega,by omega⟩) ?_|(refine aq hK ?_;try clear hK K))
  all_goals rfl
theorem RX (s a d b:Int) (h:Sm4 s a d b):aB Sg 272 [cY s,cY a,cY d,cY b] (fun r=>r = .b (ag (mh (pb s a d b)))):=by
 obtain ⟨s0,sa,am,d0,db,bm⟩:=h;have ht:=wH s0 sa am d0 db bm;have da:0≤d * a∧d * a≤65535 * 65535:=⟨au (by omega) (by omega),aD (by omega) (by omega) (by omega) (by omega)⟩
 have bb:0≤b * b∧b * b≤65535 * 65535:=⟨au (by omega) (by omega),aD (by omega) (by omega) (by omega) (by omega)⟩
 have p1:0≤16 * d * d∧16 * d * d≤1048560 * 65535:=⟨au (by omega) (by omega),aD (by omega) (by omega) (by omega) (by omega)⟩
 have p2:0≤3 * b * b∧3 * b * b≤196605 * 65535:=⟨au (by omega) (by omega),aD (by omega) (by omega) (by omega) (by omega)⟩
 have p3:0≤12 * d * b∧12 * d * b≤786420 * 65535:=⟨au (by omega) (by omega),aD (by omega) (by omega) (by omega) (by omega)⟩
 have u1:0≤d * a * b∧d * a * b≤65535 * 65535 * 65535:=⟨au da.1 (by omega),aD da.2 bm (by omega) (by omega)⟩
 by_cases h0:b=0
 ·rw [pb,if_pos h0];have g0:(b == 0)=true:=beq_iff_eq.2 h0;refine az Tryz.func272 [.cell 8 274] ?_;repeat' (first|refine aj g0 ?_|refine aw ?_|refine an (fun K hK => ?_)|refine aa (ct 0 1 ⟨by decide,by decide⟩) ?_|(refine aq hK ?_;try clear hK K))
  all_goals rfl
 have g0:(b == 0)=false:=beq_eq_false_iff_ne.2 h0;by_cases h1:2 * s≤a
 ·rw [pb,if_neg h0,if_pos h1] at ht ⊢;have g1:decide (2 * s≤a)=true:=decide_eq_true h1;have p4:0≤(a - 2 * s) * d∧(a - 2 * s) * d≤65535 * 65535:=⟨au (by omega) (by omega),aD (by omega) (by omega) (by omega) (by omega)⟩
  have u2:0≤(a - 2 * s) * d * (b - d)∧(a - 2 * s) * d * (b - d)≤65535 * 65535 * 65535:=⟨au p4.1 (by omega),aD p4.2 (by omega) (by omega) (by decide)⟩
  have u3:=ht.p0;dsimp only at u3;refine az Tryz.func272 [.cell 8 274] ?_;repeat' (first|refine aj (And.intro g0 g1) ?_|refine aw ?_|refine an (fun K hK => ?_)|refine aa (ct (d * a * b - (a - 2 * s) * d * (b - d)) b ⟨by omega,by omega⟩) ?_|(refine aq hK ?_;try clear hK K))
  all_goals rfl
 have g1:decide (2 * s≤a)=false:=decide_eq_false h1;by_cases h2:4 * d≤b
 ·rw [pb,if_neg h0,if_neg h1,if_pos h2] at ht ⊢;have g2:decide (4 * d≤b)=true:=decide_eq_true h2;have p4:0≤(2 * s - a) * d∧(2 * s - a) * d≤65535 * 65535:=⟨au (by omega) (by omega),aD (by omega) (by omega) (by omega) (by omega)⟩
  have p5:=xe d0 h2;have u0:d * a * b * b=d * a * (b * b):=Int.mul_assoc _ _ _;have u2:0≤d * a * (b * b)∧d * a * (b * b)≤65535 * 65535 * (65535 * 65535):=⟨au da.1 bb.1,aD da.2 bb.2 bb.1 (by omega)⟩
  have u3:0≤(2 * s - a) * d * (16 * d * d+3 * b * b - 12 * d * b):=au p4.1 p5.1;have u4:=ht.le;dsimp only at u4;have hab:a * b * (b * b)≤65535 * 65535 * (65535 * 65535):=aD (aD am bm (by omega) (by decide)) bb.2 bb.1 (by decide);rw [← u0] at u2 u4 ⊢;refine az Tryz.func272 [.cell 8 274] ?_;repeat' (first|refine aj (And.intro g0 (And.intro g1 g2)) ?_|refine aw ?_|refine an (fun K hK => ?_)|refine aa (ct (d * a * b * b+(2 * s - a) * d * (16 * d * d+3 * b * b - 12 * d * b)) (b * b) ⟨by omega,by omega⟩) ?_|(refine aq hK ?_;try clear hK K))
  all_goals rfl
 have g2:decide (4 * d≤b)=false:=decide_eq_false h2;rw [pb,if_neg h0,if_neg h1,if_neg h2] at ht ⊢;have p4:0≤2 * d * (a - s)∧2 * d * (a - s)≤131070 * 65535:=⟨au (by omega) (by omega),aD (by omega) (by omega) (by omega) (by omega)⟩
 have p5:0≤d * b∧d * b≤65535 * 65535:=⟨au (by omega) (by omega),aD (by omega) (by omega) (by omega) (by omega)⟩
 rw [Rf ⟨p4.1,by omega⟩];refine az Tryz.func272 [.cell 8 274] ?_;repeat' (first|refine aj (And.intro g0 (And.intro g1 g2)) ?_|refine aw ?_|refine an (fun K hK => ?_)|refine aa (ct (2 * d * (a - s)) 1 ⟨by omega,by omega⟩) ?_|(refine aq hK ?_;try clear hK K))
 rw [show 2 * d * (a - s) / 18446744073709551616=0 by omega,show 2 * d * (a - s) % 18446744073709551616=2 * d * (a - s) by omega];rfl
end
end Go.Proofs.YtdjmpacladhijaaGreatDoor
