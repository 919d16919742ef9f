/- Part of the proof: U7. -/
import Derived.Test.YtcbifofjjpfbcaaGreatDoorM12
set_option linter.unusedSimpArgs false
set_option linter.unusedVariables false
set_option maxHeartbeats 2000000
set_option maxRecDepth 16000
namespace Go.Proofs.YtcbifofjjpfbcaaGreatDoor
open Go Go.SL
open Go.RowKit (wrap64)
attribute [local go_sem] qE ks
theorem yo {p q r d:Int} (h:Q64 p):ks ⟨p,q,r,d⟩=[.val (.int .u64 0), .val (.int .u64 p), .val (.int .u64 q), .val (.int .u64 r), .val (.int .u64 d)]:=by
 obtain ⟨h0,h1⟩:=h;simp only [ks];rw [show p / 18446744073709551616=0 by omega,show p % 18446744073709551616=p by omega]
theorem fq (p:Int) (h:Q64 p):aA Sg 235 [cm p] (fun r=>r = .b (ag (ks ⟨p,0,0,1⟩))):=by
 rw [yo h];refine aD Tryz.func235 [.cell 2 253] ?_;repeat' (refine aC ?_)
 rfl
theorem pb (a b c:Int) (ha:Q64 a) (hb:Q64 b) (hc:Q64 c) (h:a * b * c<340282366920938463463374607431768211456):aA Sg 237 [cm a,cm b,cm c] (fun r=>r = .b (ag (qE (a * b * c)))):=by
 have h1:=xK a b ha hb;have h2:=oK (a * b) c (ao ha.l hb.l) hc h;refine aD Tryz.func237 [.cell 6 251] ?_;repeat' (first|refine an (fun K hK => ?_)|refine aa (h1) ?_|refine aa (h2) ?_|refine ax ?_|(refine aq hK ?_;try clear hK K))
 rfl
theorem qV (a b:Int) (ha:Q64 a) (hb:Q64 b):aA Sg 237 [cm a,cm b,cm 1] (fun r=>r = .b (ag (qE (a * b)))):=by
 have hr:a * b≤18446744073709551615 * 18446744073709551615:=az (by have:=ha.u;omega) (by have:=hb.u;omega) hb.l (by omega);have:=pb a b 1 ha hb ⟨by decide,by decide⟩ (by omega)
 rwa [Int.mul_one] at this
structure Smp4 (s a d b:Int):Prop where
 s0:0≤s
 sa:s≤a
 am:a≤65535
 d0:0≤d
 db:d≤b
 bm:b≤65535
theorem GY (s a d b:Int) (h:Smp4 s a d b):aA Sg 236 [cm s,cm a,cm d,cm b] (fun r=>r = .b (UQ (kI s a d b))):=by
 obtain ⟨s0,sa,am,d0,db,bm⟩:=h;have h1:0≤2 * s * d∧2 * s * d≤131070 * 65535:=⟨ao (by omega) d0,az (by omega) (by omega) d0 (by omega)⟩
 have h2:0≤a * b∧a * b≤65535 * 65535:=⟨ao (by omega) (by omega),az (by omega) (by omega) (by omega) (by omega)⟩
 have h3:0≤2 * (b - d) * (a - s)∧2 * (b - d) * (a - s)≤131070 * 65535:=⟨ao (by omega) (by omega),az (by omega) (by omega) (by omega) (by omega)⟩
 have h4:=mV s0 sa d0 db;unfold kI at *
 refine aD Tryz.func236 [.tmp 8] ?_
 repeat' (first|refine aC ?_|(refine aK (fun hb => ?_) (fun hb => ?_) <;> try exact aE))
 ·rw [if_pos hb]
 ·rw [if_neg (by omega)] at h4;rw [if_neg (by omega)]
theorem PQ (s a d b:Int) (h:Smp4 s a d b):aA Sg 239 [cm s,cm a,cm d,cm b] (fun r=>r = .b (ag (ks (mE s a d b)))):=by
 obtain ⟨s0,sa,am,d0,db,bm⟩:=h;have ht:=sR s0 sa am d0 db bm;have da:0≤d * a∧d * a≤65535 * 65535:=⟨ao (by omega) (by omega),az (by omega) (by omega) (by omega) (by omega)⟩
 have bb:0≤b * b∧b * b≤65535 * 65535:=⟨ao (by omega) (by omega),az (by omega) (by omega) (by omega) (by omega)⟩
 have p1:0≤16 * d * d∧16 * d * d≤1048560 * 65535:=⟨ao (by omega) (by omega),az (by omega) (by omega) (by omega) (by omega)⟩
 have p2:0≤3 * b * b∧3 * b * b≤196605 * 65535:=⟨ao (by omega) (by omega),az (by omega) (by omega) (by omega) (by omega)⟩
 have p3:0≤12 * d * b∧12 * d * b≤786420 * 65535:=⟨ao (by omega) (by omega),az (by omega) (by omega) (by omega) (by omega)⟩
 by_cases h0:b=0
 ·rw [mE,if_pos h0];have g0:(b == 0)=true:=beq_iff_eq.2 h0;refine aD Tryz.func239 [.cell 8 253] ?_;repeat' (first|refine ah g0 ?_|refine ax ?_|refine an (fun K hK => ?_)|refine aa (fq 0 ⟨by decide,by decide⟩) ?_|(refine aq hK ?_;try clear hK K))
  rfl
 have g0:(b == 0)=false:=beq_eq_false_iff_ne.2 h0;by_cases h1:2 * s≤a
 ·rw [mE,if_neg h0,if_pos h1] at ht ⊢;have g1:decide (2 * s≤a)=true:=decide_eq_true h1;have p4:0≤(a - 2 * s) * d∧(a - 2 * s) * d≤65535 * 65535:=⟨ao (by omega) (by omega),az (by omega) (by omega) (by omega) (by omega)⟩
  have w1:=qV (d * a) b ⟨by omega,by omega⟩ ⟨by omega,by omega⟩;have w2:=qV ((a - 2 * s) * d) (b - d) ⟨by omega,by omega⟩ ⟨by omega,by omega⟩;have u1:0≤d * a * b∧d * a * b≤65535 * 65535 * 65535:=⟨ao da.1 (by omega),az da.2 bm (by omega) (by omega)⟩
  have u2:0≤(a - 2 * s) * d * (b - d):=ao p4.1 (by omega);have u3:=ht.p0;dsimp only at u3;have w3:=AQ (d * a * b) ((a - 2 * s) * d * (b - d)) ⟨u1.1,by omega⟩ ⟨u2,by omega⟩ (by omega);refine aD Tryz.func239 [.cell 8 253] ?_;repeat' (first|refine ah (And.intro g0 g1) ?_|refine ax ?_|refine an (fun K hK => ?_)|refine aa (w1) ?_|refine aa (w2) ?_|refine aa (w3) ?_|(refine aq hK ?_;try clear hK K))
  rfl
 have g1:decide (2 * s≤a)=false:=decide_eq_false h1;by_cases h2:4 * d≤b
 ·rw [mE,if_neg h0,if_neg h1,if_pos h2] at ht ⊢;have g2:decide (4 * d≤b)=true:=decide_eq_true h2;have p4:0≤(2 * s - a) * d∧(2 * s - a) * d≤65535 * 65535:=⟨ao (by omega) (by omega),az (by omega) (by omega) (by omega) (by omega)⟩
  have p5:=sE d0 h2;have w1:=qV (d * a) (b * b) ⟨by omega,by omega⟩ ⟨by omega,by omega⟩;have w2:=qV ((2 * s - a) * d) (16 * d * d+3 * b * b - 12 * d * b) ⟨by omega,by omega⟩ ⟨by omega,by omega⟩;have u1:0≤d * a * (b * b)∧d * a * (b * b)≤65535 * 65535 * (65535 * 65535):=⟨ao da.1 bb.1,az da.2 bb.2 bb.1 (by omega)⟩
  have u2:0≤(2 * s - a) * d * (16 * d * d+3 * b * b - 12 * d * b)∧(2 * s - a) * d * (16 * d * d+3 * b * b - 12 * d * b)≤65535 * 65535 * (3 * (65535 * 65535)):=⟨ao p4.1 p5.1,az p4.2 (by omega) p5.1 (by omega)⟩
  have w3:=mZ (d * a * (b * b)) ((2 * s - a) * d * (16 * d * d+3 * b * b - 12 * d * b)) u1.1 u2.1 (by omega);refine aD Tryz.func239 [.cell 8 253] ?_;repeat' (first|refine ah (And.intro g0 (And.intro g1 g2)) ?_|refine ax ?_|refine an (fun K hK => ?_)|refine aa (w1) ?_|refine aa (w2) ?_|refine aa (w3) ?_|(refine aq hK ?_;try clear hK K))
  rfl
 have g2:decide (4 * d≤b)=false:=decide_eq_false h2
 ·rw [mE,if_neg h0,if_neg h1,if_neg h2] at ht ⊢;have p4:0≤2 * d * (a - s)∧2 * d * (a - s)≤131070 * 65535:=⟨ao (by omega) (by omega),az (by omega) (by omega) (by omega) (by omega)⟩
  have p5:0≤d * b∧d * b≤65535 * 65535:=⟨ao (by omega) (by omega),az (by omega) (by omega) (by omega) (by omega)⟩
  rw [yo ⟨p4.1,by omega⟩];refine aD Tryz.func239 [.cell 8 253] ?_;repeat' (first|refine ah (And.intro g0 (And.intro g1 g2)) ?_|refine aC ?_)
  rfl
theorem lK {m:Int} (h:1≤m∧m≤12):ji m=true:=decide_eq_true h
theorem Cx (mode s a d b:Int) (hm:1≤mode∧mode≤12) (h:Smp4 s a d b):aA Sg 217 [I mode,U s,U a,U d,U b] (fun r=>r = .tup [ag (ks (aR mode s a d b)),B true]):=by
 obtain ⟨s0,sa,am,d0,db,bm⟩:=h;have hi:=lB mode;rw [lK hm] at hi;have d1:decide (s>a)=false:=decide_eq_false (by omega);have d2:decide (d>b)=false:=decide_eq_false (by omega);have sb:0≤s * b∧s * b≤65535 * 65535:=⟨ao (by omega) (by omega),az (by omega) (by omega) (by omega) (by omega)⟩
 have sd:0≤s * d∧s * d≤65535 * 65535:=⟨ao (by omega) (by omega),az (by omega) (by omega) (by omega) (by omega)⟩
 have da:0≤d * a∧d * a≤65535 * 65535:=⟨ao (by omega) (by omega),az (by omega) (by omega) (by omega) (by omega)⟩
 have ab:0≤a * b∧a * b≤65535 * 65535:=⟨ao (by omega) (by omega),az (by omega) (by omega) (by omega) (by omega)⟩
 have hv:mode=1∨mode=2∨mode=3∨mode=4∨mode=5∨mode=6∨mode=7∨mode=8∨mode=9∨mode=10∨mode=11∨mode=12:=by omega
 have hso:=PQ s a d b ⟨s0,sa,am,d0,db,bm⟩;have hh1:=GY s a d b ⟨s0,sa,am,d0,db,bm⟩;have hh2:=GY d b s a ⟨d0,db,bm,s0,sa,am⟩;have hmin:(if d * a<s * b then d * a else s * b)=min (s * b) (d * a):=by split <;> omega
 have hmax:(if d * a>s * b then d * a else s * b)=max (s * b) (d * a):=by split <;> omega
 have qmin:Q64 (if d * a<s * b then d * a else s * b):=⟨by split <;> omega,by split <;> omega⟩
 have qmax:Q64 (if d * a>s * b then d * a else s * b):=⟨by split <;> omega,by split <;> omega⟩
 refine aD Tryz.func217 [.cell 10 253, .tmp 11] ?_;rcases hv with rfl|rfl|rfl|rfl|rfl|rfl|rfl|rfl|rfl|rfl|rfl|rfl
 ·repeat' (first|refine ah (And.intro d1 d2) ?_|refine ax ?_|refine an (fun K hK => ?_)|refine aa (hi) ?_|refine aa (fq (s * b) ⟨by omega,by omega⟩) ?_|(refine aq hK ?_;try clear hK K))
  rfl
 ·repeat' (first|refine ah (And.intro d1 d2) ?_|refine ax ?_|refine an (fun K hK => ?_)|refine aa (hi) ?_|refine aa (fq (s * d) ⟨by omega,by omega⟩) ?_|(refine aq hK ?_;try clear hK K))
  rfl
 ·have hn:0≤s * b+d * a - s * d:=by have:=az (Int.le_refl s) db d0 s0;omega
  repeat' (first|refine ah (And.intro d1 d2) ?_|refine ax ?_|refine an (fun K hK => ?_)|refine aa (hi) ?_|refine aa (fq (s * b+d * a - s * d) ⟨by omega,by omega⟩) ?_|(refine aq hK ?_;try clear hK K))
  rfl
 ·have hb:=mV d0 db s0 sa;have hb2:b * a≤65535 * 65535:=by rw [Int.mul_comm];omega
  repeat' (first|refine ah (And.intro d1 d2) ?_|refine ax ?_|refine an (fun K hK => ?_)|refine aa (hi) ?_|refine aa (hh2) ?_|refine aa (fq (kI d b s a) ⟨by omega,by omega⟩) ?_|(refine aq hK ?_;try clear hK K))
  rfl
 ·repeat' (first|refine ah (And.intro d1 d2) ?_|refine ax ?_|refine an (fun K hK => ?_)|refine aa (hi) ?_|refine aa (fq (if d * a<s * b then d * a else s * b) qmin) ?_|(refine aq hK ?_;try clear hK K))
  rw [hmin];rfl
 ·repeat' (first|refine ah (And.intro d1 d2) ?_|refine ax ?_|refine an (fun K hK => ?_)|refine aa (hi) ?_|refine aa (fq (if d * a>s * b then d * a else s * b) qmax) ?_|(refine aq hK ?_;try clear hK K))
  rw [hmax];rfl
 ·have ht:=xi s0 sa am d0 db bm;have e7:aR 7 s a d b=nI s a d b:=rfl;rw [e7];have p1:0≤b * (a - s)∧b * (a - s)≤65535 * 65535:=⟨ao (by omega) (by omega),az (by omega) (by omega) (by omega) (by omega)⟩
  by_cases h1:d=0
  ·have g1:(d == 0)=true:=beq_iff_eq.2 h1;rw [nI,if_pos h1];repeat' (first|refine ah (And.intro d1 (And.intro d2 g1)) ?_|refine ax ?_|refine an (fun K hK => ?_)|refine aa (hi) ?_|refine aa (fq 0 ⟨by decide,by decide⟩) ?_|(refine aq hK ?_;try clear hK K))
   rfl
  have g1:(d == 0)=false:=beq_eq_false_iff_ne.2 h1;by_cases h2:b * (a - s)≤d * a
  ·have g2:decide (d * a≥b * (a - s))=true:=decide_eq_true h2;rw [nI,if_neg h1,if_pos h2];repeat' (first|refine ah (And.intro d1 (And.intro d2 (And.intro g1 g2))) ?_|refine ax ?_|refine an (fun K hK => ?_)|refine aa (hi) ?_|refine aa (fq (a * b) ⟨by omega,by omega⟩) ?_|(refine aq hK ?_;try clear hK K))
   rfl
  ·have g2:decide (d * a≥b * (a - s))=false:=decide_eq_false h2;rw [nI,if_neg h1,if_neg h2];have u1:0≤a * a∧a * a≤65535 * 65535:=⟨ao (by omega) (by omega),az (by omega) (by omega) (by omega) (by omega)⟩
   have u2:0≤a * a * d∧a * a * d≤65535 * 65535 * 65535:=⟨ao u1.1 d0,az u1.2 (by omega) d0 (by omega)⟩
   repeat' (first|refine ah (And.intro d1 (And.intro d2 (And.intro g1 g2))) ?_|refine ax ?_|refine an (fun K hK => ?_)|refine aa (hi) ?_|refine aa (pb a a d ⟨by omega,by omega⟩ ⟨by omega,by omega⟩ ⟨by omega,by omega⟩ (by omega)) ?_|(refine aq hK ?_;try clear hK K))
   rfl
 ·have ht:=sN s0 sa am d0 db bm;have e8:aR 8 s a d b=qO s a d b:=rfl;rw [e8];have p1:0≤(b - d) * a∧(b - d) * a≤65535 * 65535:=⟨ao (by omega) (by omega),az (by omega) (by omega) (by omega) (by omega)⟩
  by_cases h1:d=b
  ·have g1:(d == b)=true:=beq_iff_eq.2 h1;rw [qO,if_pos h1];repeat' (first|refine ah (And.intro d1 (And.intro d2 g1)) ?_|refine ax ?_|refine an (fun K hK => ?_)|refine aa (hi) ?_|refine aa (fq (a * b) ⟨by omega,by omega⟩) ?_|(refine aq hK ?_;try clear hK K))
   rfl
  have g1:(d == b)=false:=beq_eq_false_iff_ne.2 h1;by_cases h2:s * b≤(b - d) * a
  ·have g2:decide ((b - d) * a≥s * b)=true:=decide_eq_true h2;rw [qO,if_neg h1,if_pos h2];repeat' (first|refine ah (And.intro d1 (And.intro d2 (And.intro g1 g2))) ?_|refine ax ?_|refine an (fun K hK => ?_)|refine aa (hi) ?_|refine aa (fq 0 ⟨by decide,by decide⟩) ?_|(refine aq hK ?_;try clear hK K))
   rfl
  ·have g2:decide ((b - d) * a≥s * b)=false:=decide_eq_false h2;rw [qO,if_neg h1,if_neg h2] at ht ⊢;have u1:0≤a * b * s∧a * b * s≤65535 * 65535 * 65535:=⟨ao ab.1 s0,az ab.2 (by omega) s0 (by omega)⟩
   have u2:0≤(b - d) * a * a∧(b - d) * a * a≤65535 * 65535 * 65535:=⟨ao p1.1 (by omega),az p1.2 am (by omega) (by omega)⟩
   have u3:=ht.p0;dsimp only at u3;have w1:=pb a b s ⟨by omega,by omega⟩ ⟨by omega,by omega⟩ ⟨by omega,by omega⟩ (by omega);have w2:=pb (b - d) a a ⟨by omega,by omega⟩ ⟨by omega,by omega⟩ ⟨by omega,by omega⟩ (by omega);have w3:=AQ (a * b * s) ((b - d) * a * a) ⟨u1.1,by omega⟩ ⟨u2.1,by omega⟩ (by omega);repeat' (first|refine ah (And.intro d1 (And.intro d2 (And.intro g1 g2))) ?_|refine ax ?_|refine an (fun K hK => ?_)|refine aa (hi) ?_|refine aa (w1) ?_|refine aa (w2) ?_|refine aa (w3) ?_|(refine aq hK ?_;try clear hK K))
   rfl
 ·have hb:=mV s0 sa d0 db;repeat' (first|refine ah (And.intro d1 d2) ?_|refine ax ?_|refine an (fun K hK => ?_)|refine aa (hi) ?_|refine aa (hh1) ?_|refine aa (fq (kI s a d b) ⟨by omega,by omega⟩) ?_|(refine aq hK ?_;try clear hK K))
  rfl
 ·repeat' (first|refine ah (And.intro d1 d2) ?_|refine ax ?_|refine an (fun K hK => ?_)|refine aa (hi) ?_|refine aa (hso) ?_|(refine aq hK ?_;try clear hK K))
  rfl
 ·have hmm:(if d * a>s * b then d * a else s * b) - (if d * a<s * b then d * a else s * b)=max (s * b) (d * a) - min (s * b) (d * a):=by rw [hmin,hmax]
  repeat' (first|refine ah (And.intro d1 d2) ?_|refine ax ?_|refine an (fun K hK => ?_)|refine aa (hi) ?_|refine aa (fq ((if d * a>s * b then d * a else s * b) - (if d * a<s * b then d * a else s * b)) ⟨by omega,by omega⟩) ?_|(refine aq hK ?_;try clear hK K))
  rw [hmm];rfl
 ·have p1:0≤2 * s * d∧2 * s * d≤131070 * 65535:=⟨ao (by omega) (by omega),az (by omega) (by omega) (by omega) (by omega)⟩
  have p2:2 * s * d≤s * b+d * a:=by
   have q1:=az (Int.le_refl s) db d0 s0;have q2:=az (Int.le_refl d) sa s0 d0;have q3:2 * s * d=s * d+d * s:=by grind
   omega
  repeat' (first|refine ah (And.intro d1 d2) ?_|refine ax ?_|refine an (fun K hK => ?_)|refine aa (hi) ?_|refine aa (fq (s * b+d * a - 2 * s * d) ⟨by omega,by omega⟩) ?_|(refine aq hK ?_;try clear hK K))
  rfl
end Go.Proofs.YtcbifofjjpfbcaaGreatDoor
