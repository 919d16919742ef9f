/- Part of the proof: U7. -/
import Derived.Test.YtdjmpacladhijaaGreatDoorM14
set_option linter.unusedSimpArgs false
set_option linter.unusedVariables false
set_option maxHeartbeats 2000000
set_option maxRecDepth 16000
namespace Go.Proofs.YtdjmpacladhijaaGreatDoor
open Go Go.SL
open Go.RowKit (wrap64)
attribute [local go_sem] qE mh
theorem Dy {p q r d:Int} (h:Q64 p):mh ⟨p,q,r,d⟩=[.val (.int .u64 0), .val (.int .u64 p), .val (.int .u64 q), .val (.int .u64 r), .val (.int .u64 d)]:=by
 obtain ⟨h0,h1⟩:=h;simp only [mh];rw [show p / 18446744073709551616=0 by omega,show p % 18446744073709551616=p by omega]
theorem gz (p:Int) (h:Q64 p):aB Sg 236 [cY p] (fun r=>r = .b (ag (mh ⟨p,0,0,1⟩))):=by
 rw [Dy h];refine az Tryz.func236 [.cell 2 274] ?_;repeat' (refine aC ?_)
 rfl
theorem sY (a b c:Int) (ha:Q64 a) (hb:Q64 b) (hc:Q64 c) (h:a * b * c<340282366920938463463374607431768211456):aB Sg 238 [cY a,cY b,cY c] (fun r=>r = .b (ag (qE (a * b * c)))):=by
 have h1:=zO a b ha hb;have h2:=rT (a * b) c (au ha.l hb.l) hc h;refine az Tryz.func238 [.cell 6 272] ?_;repeat' (first|refine an (fun K hK => ?_)|refine aa (h1) ?_|refine aa (h2) ?_|refine aw ?_|(refine aq hK ?_;try clear hK K))
 rfl
theorem vE (a b:Int) (ha:Q64 a) (hb:Q64 b):aB Sg 238 [cY a,cY b,cY 1] (fun r=>r = .b (ag (qE (a * b)))):=by
 have hr:a * b≤18446744073709551615 * 18446744073709551615:=aD (by have:=ha.u;omega) (by have:=hb.u;omega) hb.l (by omega);have:=sY a b 1 ha hb ⟨by decide,by decide⟩ (by omega)
 rwa [Int.mul_one] at this
structure Smp4 (s a d b:Int):Prop where
 s0:0≤s
 sa:s≤a
 am:a≤65535
 d0:0≤d
 db:d≤b
 bm:b≤65535
theorem Nm (s a d b:Int) (h:Smp4 s a d b):aB Sg 237 [cY s,cY a,cY d,cY b] (fun r=>r = .b (UQ (nj s a d b))):=by
 obtain ⟨s0,sa,am,d0,db,bm⟩:=h;have h1:0≤2 * s * d∧2 * s * d≤131070 * 65535:=⟨au (by omega) d0,aD (by omega) (by omega) d0 (by omega)⟩
 have h2:0≤a * b∧a * b≤65535 * 65535:=⟨au (by omega) (by omega),aD (by omega) (by omega) (by omega) (by omega)⟩
 have h3:0≤2 * (b - d) * (a - s)∧2 * (b - d) * (a - s)≤131070 * 65535:=⟨au (by omega) (by omega),aD (by omega) (by omega) (by omega) (by omega)⟩
 have h4:=qm s0 sa d0 db;unfold nj at *
 refine az Tryz.func237 [.tmp 8] ?_
 repeat' (first|refine aC ?_|(refine aH (fun hb => ?_) (fun hb => ?_) <;> try exact ax))
 ·rw [if_pos hb]
 ·rw [if_neg (by omega)] at h4;rw [if_neg (by omega)]
theorem Xu (s a d b:Int) (h:Smp4 s a d b):aB Sg 240 [cY s,cY a,cY d,cY b] (fun r=>r = .b (ag (mh (pb s a d b)))):=by
 obtain ⟨s0,sa,am,d0,db,bm⟩:=h;have ht:=wH s0 sa am d0 db bm;have da:0≤d * a∧d * a≤65535 * 65535:=⟨au (by omega) (by omega),aD (by omega) (by omega) (by omega) (by omega)⟩
 have bb:0≤b * b∧b * b≤65535 * 65535:=⟨au (by omega) (by omega),aD (by omega) (by omega) (by omega) (by omega)⟩
 have p1:0≤16 * d * d∧16 * d * d≤1048560 * 65535:=⟨au (by omega) (by omega),aD (by omega) (by omega) (by omega) (by omega)⟩
 have p2:0≤3 * b * b∧3 * b * b≤196605 * 65535:=⟨au (by omega) (by omega),aD (by omega) (by omega) (by omega) (by omega)⟩
 have p3:0≤12 * d * b∧12 * d * b≤786420 * 65535:=⟨au (by omega) (by omega),aD (by omega) (by omega) (by omega) (by omega)⟩
 by_cases h0:b=0
 ·rw [pb,if_pos h0];have g0:(b == 0)=true:=beq_iff_eq.2 h0;refine az Tryz.func240 [.cell 8 274] ?_;repeat' (first|refine aj g0 ?_|refine aw ?_|refine an (fun K hK => ?_)|refine aa (gz 0 ⟨by decide,by decide⟩) ?_|(refine aq hK ?_;try clear hK K))
  rfl
 have g0:(b == 0)=false:=beq_eq_false_iff_ne.2 h0;by_cases h1:2 * s≤a
 ·rw [pb,if_neg h0,if_pos h1] at ht ⊢;have g1:decide (2 * s≤a)=true:=decide_eq_true h1;have p4:0≤(a - 2 * s) * d∧(a - 2 * s) * d≤65535 * 65535:=⟨au (by omega) (by omega),aD (by omega) (by omega) (by omega) (by omega)⟩
  have w1:=vE (d * a) b ⟨by omega,by omega⟩ ⟨by omega,by omega⟩;have w2:=vE ((a - 2 * s) * d) (b - d) ⟨by omega,by omega⟩ ⟨by omega,by omega⟩;have u1:0≤d * a * b∧d * a * b≤65535 * 65535 * 65535:=⟨au da.1 (by omega),aD da.2 bm (by omega) (by omega)⟩
  have u2:0≤(a - 2 * s) * d * (b - d):=au p4.1 (by omega);have u3:=ht.p0;dsimp only at u3;have w3:=FM (d * a * b) ((a - 2 * s) * d * (b - d)) ⟨u1.1,by omega⟩ ⟨u2,by omega⟩ (by omega);refine az Tryz.func240 [.cell 8 274] ?_;repeat' (first|refine aj (And.intro g0 g1) ?_|refine aw ?_|refine an (fun K hK => ?_)|refine aa (w1) ?_|refine aa (w2) ?_|refine aa (w3) ?_|(refine aq hK ?_;try clear hK K))
  rfl
 have g1:decide (2 * s≤a)=false:=decide_eq_false h1;by_cases h2:4 * d≤b
 ·rw [pb,if_neg h0,if_neg h1,if_pos h2] at ht ⊢;have g2:decide (4 * d≤b)=true:=decide_eq_true h2;have p4:0≤(2 * s - a) * d∧(2 * s - a) * d≤65535 * 65535:=⟨au (by omega) (by omega),aD (by omega) (by omega) (by omega) (by omega)⟩
  have p5:=xe d0 h2;have w1:=vE (d * a) (b * b) ⟨by omega,by omega⟩ ⟨by omega,by omega⟩;have w2:=vE ((2 * s - a) * d) (16 * d * d+3 * b * b - 12 * d * b) ⟨by omega,by omega⟩ ⟨by omega,by omega⟩;have u1:0≤d * a * (b * b)∧d * a * (b * b)≤65535 * 65535 * (65535 * 65535):=⟨au da.1 bb.1,aD da.2 bb.2 bb.1 (by omega)⟩
  have u2:0≤(2 * s - a) * d * (16 * d * d+3 * b * b - 12 * d * b)∧(2 * s - a) * d * (16 * d * d+3 * b * b - 12 * d * b)≤65535 * 65535 * (3 * (65535 * 65535)):=⟨au p4.1 p5.1,aD p4.2 (by omega) p5.1 (by omega)⟩
  have w3:=qL (d * a * (b * b)) ((2 * s - a) * d * (16 * d * d+3 * b * b - 12 * d * b)) u1.1 u2.1 (by omega);refine az Tryz.func240 [.cell 8 274] ?_;repeat' (first|refine aj (And.intro g0 (And.intro g1 g2)) ?_|refine aw ?_|refine an (fun K hK => ?_)|refine aa (w1) ?_|refine aa (w2) ?_|refine aa (w3) ?_|(refine aq hK ?_;try clear hK K))
  rfl
 have g2:decide (4 * d≤b)=false:=decide_eq_false h2
 ·rw [pb,if_neg h0,if_neg h1,if_neg h2] at ht ⊢;have p4:0≤2 * d * (a - s)∧2 * d * (a - s)≤131070 * 65535:=⟨au (by omega) (by omega),aD (by omega) (by omega) (by omega) (by omega)⟩
  have p5:0≤d * b∧d * b≤65535 * 65535:=⟨au (by omega) (by omega),aD (by omega) (by omega) (by omega) (by omega)⟩
  rw [Dy ⟨p4.1,by omega⟩];refine az Tryz.func240 [.cell 8 274] ?_;repeat' (first|refine aj (And.intro g0 (And.intro g1 g2)) ?_|refine aC ?_)
  rfl
theorem nT {m:Int} (h:1≤m∧m≤12):jn m=true:=decide_eq_true h
theorem GH (mode s a d b:Int) (hm:1≤mode∧mode≤12) (h:Smp4 s a d b):aB Sg 221 [I mode,U s,U a,U d,U b] (fun r=>r = .tup [ag (mh (aR mode s a d b)),B true]):=by
 obtain ⟨s0,sa,am,d0,db,bm⟩:=h;have hi:=oI mode;rw [nT hm] at hi;have d1:decide (s>a)=false:=decide_eq_false (by omega);have d2:decide (d>b)=false:=decide_eq_false (by omega);have sb:0≤s * b∧s * b≤65535 * 65535:=⟨au (by omega) (by omega),aD (by omega) (by omega) (by omega) (by omega)⟩
 have sd:0≤s * d∧s * d≤65535 * 65535:=⟨au (by omega) (by omega),aD (by omega) (by omega) (by omega) (by omega)⟩
 have da:0≤d * a∧d * a≤65535 * 65535:=⟨au (by omega) (by omega),aD (by omega) (by omega) (by omega) (by omega)⟩
 have ab:0≤a * b∧a * b≤65535 * 65535:=⟨au (by omega) (by omega),aD (by omega) (by omega) (by omega) (by omega)⟩
 have hv:mode=1∨mode=2∨mode=3∨mode=4∨mode=5∨mode=6∨mode=7∨mode=8∨mode=9∨mode=10∨mode=11∨mode=12:=by omega
 have hso:=Xu s a d b ⟨s0,sa,am,d0,db,bm⟩;have hh1:=Nm s a d b ⟨s0,sa,am,d0,db,bm⟩;have hh2:=Nm d b s a ⟨d0,db,bm,s0,sa,am⟩;have hmin:(if d * a<s * b then d * a else s * b)=min (s * b) (d * a):=by split <;> omega
 have hmax:(if d * a>s * b then d * a else s * b)=max (s * b) (d * a):=by split <;> omega
 have qmin:Q64 (if d * a<s * b then d * a else s * b):=⟨by split <;> omega,by split <;> omega⟩
 have qmax:Q64 (if d * a>s * b then d * a else s * b):=⟨by split <;> omega,by split <;> omega⟩
 refine az Tryz.func221 [.cell 10 274, .tmp 11] ?_;rcases hv with rfl|rfl|rfl|rfl|rfl|rfl|rfl|rfl|rfl|rfl|rfl|rfl
 ·repeat' (first|refine aj (And.intro d1 d2) ?_|refine aw ?_|refine an (fun K hK => ?_)|refine aa (hi) ?_|refine aa (gz (s * b) ⟨by omega,by omega⟩) ?_|(refine aq hK ?_;try clear hK K))
  rfl
 ·repeat' (first|refine aj (And.intro d1 d2) ?_|refine aw ?_|refine an (fun K hK => ?_)|refine aa (hi) ?_|refine aa (gz (s * d) ⟨by omega,by omega⟩) ?_|(refine aq hK ?_;try clear hK K))
  rfl
 ·have hn:0≤s * b+d * a - s * d:=by have:=aD (Int.le_refl s) db d0 s0;omega
  repeat' (first|refine aj (And.intro d1 d2) ?_|refine aw ?_|refine an (fun K hK => ?_)|refine aa (hi) ?_|refine aa (gz (s * b+d * a - s * d) ⟨by omega,by omega⟩) ?_|(refine aq hK ?_;try clear hK K))
  rfl
 ·have hb:=qm d0 db s0 sa;have hb2:b * a≤65535 * 65535:=by rw [Int.mul_comm];omega
  repeat' (first|refine aj (And.intro d1 d2) ?_|refine aw ?_|refine an (fun K hK => ?_)|refine aa (hi) ?_|refine aa (hh2) ?_|refine aa (gz (nj d b s a) ⟨by omega,by omega⟩) ?_|(refine aq hK ?_;try clear hK K))
  rfl
 ·repeat' (first|refine aj (And.intro d1 d2) ?_|refine aw ?_|refine an (fun K hK => ?_)|refine aa (hi) ?_|refine aa (gz (if d * a<s * b then d * a else s * b) qmin) ?_|(refine aq hK ?_;try clear hK K))
  rw [hmin];rfl
 ·repeat' (first|refine aj (And.intro d1 d2) ?_|refine aw ?_|refine an (fun K hK => ?_)|refine aa (hi) ?_|refine aa (gz (if d * a>s * b then d * a else s * b) qmax) ?_|(refine aq hK ?_;try clear hK K))
  rw [hmax];rfl
 ·have ht:=Ad s0 sa am d0 db bm;have e7:aR 7 s a d b=qU s a d b:=rfl;rw [e7];have p1:0≤b * (a - s)∧b * (a - s)≤65535 * 65535:=⟨au (by omega) (by omega),aD (by omega) (by omega) (by omega) (by omega)⟩
  by_cases h1:d=0
  ·have g1:(d == 0)=true:=beq_iff_eq.2 h1;rw [qU,if_pos h1];repeat' (first|refine aj (And.intro d1 (And.intro d2 g1)) ?_|refine aw ?_|refine an (fun K hK => ?_)|refine aa (hi) ?_|refine aa (gz 0 ⟨by decide,by decide⟩) ?_|(refine aq hK ?_;try clear hK K))
   rfl
  have g1:(d == 0)=false:=beq_eq_false_iff_ne.2 h1;by_cases h2:b * (a - s)≤d * a
  ·have g2:decide (d * a≥b * (a - s))=true:=decide_eq_true h2;rw [qU,if_neg h1,if_pos h2];repeat' (first|refine aj (And.intro d1 (And.intro d2 (And.intro g1 g2))) ?_|refine aw ?_|refine an (fun K hK => ?_)|refine aa (hi) ?_|refine aa (gz (a * b) ⟨by omega,by omega⟩) ?_|(refine aq hK ?_;try clear hK K))
   rfl
  ·have g2:decide (d * a≥b * (a - s))=false:=decide_eq_false h2;rw [qU,if_neg h1,if_neg h2];have u1:0≤a * a∧a * a≤65535 * 65535:=⟨au (by omega) (by omega),aD (by omega) (by omega) (by omega) (by omega)⟩
   have u2:0≤a * a * d∧a * a * d≤65535 * 65535 * 65535:=⟨au u1.1 d0,aD u1.2 (by omega) d0 (by omega)⟩
   repeat' (first|refine aj (And.intro d1 (And.intro d2 (And.intro g1 g2))) ?_|refine aw ?_|refine an (fun K hK => ?_)|refine aa (hi) ?_|refine aa (sY a a d ⟨by omega,by omega⟩ ⟨by omega,by omega⟩ ⟨by omega,by omega⟩ (by omega)) ?_|(refine aq hK ?_;try clear hK K))
   rfl
 ·have ht:=xG s0 sa am d0 db bm;have e8:aR 8 s a d b=vZ s a d b:=rfl;rw [e8];have p1:0≤(b - d) * a∧(b - d) * a≤65535 * 65535:=⟨au (by omega) (by omega),aD (by omega) (by omega) (by omega) (by omega)⟩
  by_cases h1:d=b
  ·have g1:(d == b)=true:=beq_iff_eq.2 h1;rw [vZ,if_pos h1];repeat' (first|refine aj (And.intro d1 (And.intro d2 g1)) ?_|refine aw ?_|refine an (fun K hK => ?_)|refine aa (hi) ?_|refine aa (gz (a * b) ⟨by omega,by omega⟩) ?_|(refine aq hK ?_;try clear hK K))
   rfl
  have g1:(d == b)=false:=beq_eq_false_iff_ne.2 h1;by_cases h2:s * b≤(b - d) * a
  ·have g2:decide ((b - d) * a≥s * b)=true:=decide_eq_true h2;rw [vZ,if_neg h1,if_pos h2];repeat' (first|refine aj (And.intro d1 (And.intro d2 (And.intro g1 g2))) ?_|refine aw ?_|refine an (fun K hK => ?_)|refine aa (hi) ?_|refine aa (gz 0 ⟨by decide,by decide⟩) ?_|(refine aq hK ?_;try clear hK K))
   rfl
  ·have g2:decide ((b - d) * a≥s * b)=false:=decide_eq_false h2;rw [vZ,if_neg h1,if_neg h2] at ht ⊢;have u1:0≤a * b * s∧a * b * s≤65535 * 65535 * 65535:=⟨au ab.1 s0,aD ab.2 (by omega) s0 (by omega)⟩
   have u2:0≤(b - d) * a * a∧(b - d) * a * a≤65535 * 65535 * 65535:=⟨au p1.1 (by omega),aD p1.2 am (by omega) (by omega)⟩
   have u3:=ht.p0;dsimp only at u3;have w1:=sY a b s ⟨by omega,by omega⟩ ⟨by omega,by omega⟩ ⟨by omega,by omega⟩ (by omega);have w2:=sY (b - d) a a ⟨by omega,by omega⟩ ⟨by omega,by omega⟩ ⟨by omega,by omega⟩ (by omega);have w3:=FM (a * b * s) ((b - d) * a * a) ⟨u1.1,by omega⟩ ⟨u2.1,by omega⟩ (by omega);repeat' (first|refine aj (And.intro d1 (And.intro d2 (And.intro g1 g2))) ?_|refine aw ?_|refine an (fun K hK => ?_)|refine aa (hi) ?_|refine aa (w1) ?_|refine aa (w2) ?_|refine aa (w3) ?_|(refine aq hK ?_;try clear hK K))
   rfl
 ·have hb:=qm s0 sa d0 db;repeat' (first|refine aj (And.intro d1 d2) ?_|refine aw ?_|refine an (fun K hK => ?_)|refine aa (hi) ?_|refine aa (hh1) ?_|refine aa (gz (nj s a d b) ⟨by omega,by omega⟩) ?_|(refine aq hK ?_;try clear hK K))
  rfl
 ·repeat' (first|refine aj (And.intro d1 d2) ?_|refine aw ?_|refine an (fun K hK => ?_)|refine aa (hi) ?_|refine aa (hso) ?_|(refine aq hK ?_;try clear hK K))
  rfl
 ·have hmm:(if d * a>s * b then d * a else s * b) - (if d * a<s * b then d * a else s * b)=max (s * b) (d * a) - min (s * b) (d * a):=by rw [hmin,hmax]
  repeat' (first|refine aj (And.intro d1 d2) ?_|refine aw ?_|refine an (fun K hK => ?_)|refine aa (hi) ?_|refine aa (gz ((if d * a>s * b then d * a else s * b) - (if d * a<s * b then d * a else s * b)) ⟨by omega,by omega⟩) ?_|(refine aq hK ?_;try clear hK K))
  rw [hmm];rfl
 ·have p1:0≤2 * s * d∧2 * s * d≤131070 * 65535:=⟨au (by omega) (by omega),aD (by omega) (by omega) (by omega) (by omega)⟩
  have p2:2 * s * d≤s * b+d * a:=by
   have q1:=aD (Int.le_refl s) db d0 s0;have q2:=aD (Int.le_refl d) sa s0 d0;have q3:2 * s * d=s * d+d * s:=by grind
   omega
  repeat' (first|refine aj (And.intro d1 d2) ?_|refine aw ?_|refine an (fun K hK => ?_)|refine aa (hi) ?_|refine aa (gz (s * b+d * a - 2 * s * d) ⟨by omega,by omega⟩) ?_|(refine aq hK ?_;try clear hK K))
  rfl
end Go.Proofs.YtdjmpacladhijaaGreatDoor
