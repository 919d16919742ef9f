/- Part of the proof: U9, W6, W8, W9. -/
import Derived.Test.YtmfblbbemekkoaaGreatDoorK17
set_option linter.unusedSimpArgs false
set_option linter.unusedVariables false
set_option maxHeartbeats 2000000
set_option maxRecDepth 16000
namespace Go.Proofs.YtmfblbbemekkoaaGreatDoor
open Go Go.SL
open Go.RowKit (wrap64)
attribute [local go_sem] dI
theorem PixV.pre {p:Pixel} {m:Int} (h:PixV p m):Pre p.c0 p.a m∧Pre p.c1 p.a m∧Pre p.c2 p.a m:=⟨⟨h.n0,h.l0,h.am⟩,⟨h.n1,h.l1,h.am⟩,⟨h.n2,h.l2,h.am⟩⟩
theorem AccV.pre {x:Acc} {b:Pixel} {m:Int} (h:AccV x b m):Pre x.c0 x.a m∧Pre x.c1 x.a m∧Pre x.c2 x.a m:=⟨⟨h.n0,h.l0,h.am⟩,⟨h.n1,h.l1,h.am⟩,⟨h.n2,h.l2,h.am⟩⟩
end Go.Proofs.YtmfblbbemekkoaaGreatDoor
set_option maxHeartbeats 2000000
set_option maxRecDepth 16000
namespace Go.Proofs.YtmfblbbemekkoaaGreatDoor
open Go Go.SL
open Go.RowKit (wrap64)
attribute [local go_sem] qE
theorem nq (x y:Int) (hx:0≤x) (hy:Q64 y) (h:x * y<340282366920938463463374607431768211456) (hx2:x<340282366920938463463374607431768211456):aD Sg 258 [ag (qE x),bN y] (fun r=>r = .tup [ag (qE (x * y)),B true]):=by
 have ⟨q1,q2⟩:=vy (n:=x) ⟨hx,hx2⟩
 have h1:=ri (x / 18446744073709551616) y q1.l q1.u hy.l hy.u
 have h3:=gx (x % 18446744073709551616) y q2 hy
 have e:x / 18446744073709551616 * y * 18446744073709551616+x % 18446744073709551616 * y=x * y:=by
  have:=Int.mul_ediv_add_emod x 18446744073709551616
  generalize x / 18446744073709551616=a at *
  generalize x % 18446744073709551616=b at *
  rw [← this,Int.add_mul,Int.mul_comm 18446744073709551616 a,Int.mul_right_comm]
 have p0:0≤x / 18446744073709551616 * y:=aq q1.l hy.l
 have r0:0≤x % 18446744073709551616 * y:=aq q2.l hy.l
 have h2:=nf (x / 18446744073709551616 * y * 18446744073709551616) (x % 18446744073709551616 * y) (by omega) r0 (by omega)
 rw [e] at h2
 generalize x % 18446744073709551616 * y=r at *
 generalize x / 18446744073709551616 * y=p at *
 have hp:p<18446744073709551616:=by omega
 rw [show qE (p * 18446744073709551616)=[.val (.int .u64 p), .val (.int .u64 0)] by
  simp only [qE]
  rw [show p * 18446744073709551616 / 18446744073709551616=p by omega,show p * 18446744073709551616 % 18446744073709551616=0 by omega]] at h2
 rw [show p / 18446744073709551616=0 by omega,show p % 18446744073709551616=p by omega] at h1
 have ht:True:=trivial
 refine aC Tryz.func258 [.cell 4 260, .tmp 5] ?_
 repeat' (first|refine aj ht ?_|refine ak ?_|((first|refine ai (fun K hK => ?_)|refine ae (h1) ?_|refine ae (h2) ?_|refine ae (h3) ?_);and_intros;all_goals first|(refine hK _ ?_;clear hK K)|try exact aa)|(refine an ?_;(try clear hB KB);(try clear hK K)))
 rfl
def Fh:Nat→Int
 | 0=>0
 | k+1=>2 ^ k
theorem xC:∀ k:Nat,((2:Int) ^ k).fdiv (2 ^ min 1 64)=Fh k
 | 0=>rfl
 | k+1=>by
  rw [Int.fdiv_eq_ediv_of_nonneg _ (by decide),show ((2:Int) ^ min 1 64)=2 from rfl,Int.pow_succ,Int.mul_ediv_cancel _ (by decide)]
  rfl
theorem CZ {x y:Int}:jn x y≤0↔x≤y:=by
 unfold jn
 repeat' split
 all_goals omega
theorem DF (a:Int) (ha:Q128 a):aD Sg 255 [ag (qE a)] (fun r=>r = .b (bN (uq (fun n=>decide (n * n≤a)) 64 0))):=by
 have ht:True:=trivial
 refine aC Tryz.func255 [.tmp 2] ?_
 repeat' (first|refine ak ?_|(refine ai (fun K hK => ?_);and_intros;all_goals first|(refine hK _ ?_;clear hK K)|try exact aa))
 refine aS (X:=Int × Nat) (fun x=>aZ [(1, .b (.c (.ptr 0 0))),(3, .b (bN x.1)),(4, .b (bN (Fh x.2)))] [(0, .fix ((qE a).map CV.p))] 1)
  (fun x=>x.2≤64∧0≤x.1∧x.1+2 ^ x.2≤18446744073709551616∧x.1 % 2 ^ x.2=0∧uq (fun n=>decide (n * n≤a)) x.2 x.1=uq (fun n=>decide (n * n≤a)) 64 0) (fun x=>x.2) (0,64) ?_ ?_ ?_
 ·exact ⟨by decide,by decide,by decide,by decide,rfl⟩
 ·refine ay [(0,some 0)] ?_ ?_
  and_intros
  all_goals first|exact ao|skip
 ·rintro ⟨n,i⟩ ⟨i64,n0,n1,hm,hs⟩
  dsimp only at i64 n0 n1 hm hs ⊢
  cases i with
  | zero =>
   have g0:decide (Fh 0>0)=false:=rfl
   repeat' (first|refine aj g0 ?_|refine ak ?_|(refine ai (fun K hK => ?_);and_intros;all_goals first|(refine hK _ ?_;clear hK K)|try exact aa)|(refine an ?_;(try clear hB KB);(try clear hK K)))
   rw [← hs];rfl
  | succ k =>
   have hp:(2:Int) ^ (k+1)=2 ^ k+2 ^ k:=by rw [Int.pow_succ];omega
   have hpos:(0:Int)<2 ^ k:=Int.pow_pos (by decide)
   rw [hp] at n1
   have hor:=FS (n:=n) (k:=k) n0 (by omega) hm (by omega)
   have h1:=gx (n+2 ^ k) (n+2 ^ k) ⟨by omega,by omega⟩ ⟨by omega,by omega⟩
   have h2:=uX ((n+2 ^ k) * (n+2 ^ k)) a
   have hm1:n % 2 ^ k=0:=by
    rw [← Int.emod_emod_of_dvd n (show (2:Int) ^ k ∣ 2 ^ (k+1) from ⟨2,by rw [Int.pow_succ]⟩),hm,Int.zero_emod]
   have hm2:(n+2 ^ k) % 2 ^ k=0:=by rw [Int.add_emod_right,hm1]
   have g0:decide (Fh (k+1)>0)=true:=decide_eq_true hpos
   have hb:Fh (k+1)=2 ^ k:=rfl
   rw [hb] at g0 ⊢
   rw [← hor] at h1 h2
   rw [show uq (fun n=>decide (n * n≤a)) (k+1) n=uq (fun n=>decide (n * n≤a)) k (if decide ((n+2 ^ k) * (n+2 ^ k)≤a)=true then n+2 ^ k else n) from rfl] at hs
   by_cases hg:(n+2 ^ k) * (n+2 ^ k)≤a
   ·have g1:decide (jn (Ji .u64 n (2 ^ k) * Ji .u64 n (2 ^ k)) a≤0)=true:=by rw [hor];exact decide_eq_true (CZ.2 hg)
    rw [decide_eq_true hg,if_pos rfl] at hs
    repeat' (first|refine aj (And.intro g0 g1) ?_|refine ak ?_|((first|refine ai (fun K hK => ?_)|refine ae (h1) ?_|refine ae (h2) ?_);and_intros;all_goals first|(refine hK _ ?_;clear hK K)|try exact aa))
    refine au (n+2 ^ k,k) ?_ ⟨by dsimp only;omega,by dsimp only;omega,by dsimp only;omega,hm2,hs⟩ (by dsimp only;omega)
    refine ay [(0,some 0)] ?_ ?_
    and_intros
    all_goals first|exact ao|skip
    ·exact .inl (by rw [hor])
    ·exact .inl (by rw [xC])
   ·have g1:decide (jn (Ji .u64 n (2 ^ k) * Ji .u64 n (2 ^ k)) a≤0)=false:=by rw [hor];exact decide_eq_false (fun q=>hg (CZ.1 q))
    rw [decide_eq_false hg,if_neg (by decide)] at hs
    repeat' (first|refine aj (And.intro g0 g1) ?_|refine ak ?_|((first|refine ai (fun K hK => ?_)|refine ae (h1) ?_|refine ae (h2) ?_);and_intros;all_goals first|(refine hK _ ?_;clear hK K)|try exact aa))
    refine au (n,k) ?_ ⟨by dsimp only;omega,by dsimp only;omega,by dsimp only;omega,hm1,hs⟩ (by dsimp only;omega)
    refine ay [(0,some 0)] ?_ ?_
    and_intros
    all_goals first|exact ao|skip
    exact .inl (by rw [xC])
end Go.Proofs.YtmfblbbemekkoaaGreatDoor
set_option maxHeartbeats 2000000
set_option maxRecDepth 16000
namespace Go.Proofs.YtmfblbbemekkoaaGreatDoor
open Go Go.SL
open Go.RowKit (wrap64)
attribute [local go_sem] qE
theorem DY {x d : Int} (hx : 0 ≤ x) (hd : 0 < d) :
  x / d / 18446744073709551616=x / 18446744073709551616 / d∧x / d % 18446744073709551616=(x / 18446744073709551616 % d * 18446744073709551616+x % 18446744073709551616) / d∧x % d=(x / 18446744073709551616 % d * 18446744073709551616+x % 18446744073709551616) % d:=by
 have e1:=Int.mul_ediv_add_emod (x / 18446744073709551616) d
 have e2:=Int.mul_ediv_add_emod (x / 18446744073709551616 % d * 18446744073709551616+x % 18446744073709551616) d
 have a0:=Int.emod_nonneg (x / 18446744073709551616) (show d≠0 by omega)
 have a1:=Int.emod_lt_of_pos (x / 18446744073709551616) hd
 have b0:=Int.emod_nonneg (x / 18446744073709551616 % d * 18446744073709551616+x % 18446744073709551616) (show d≠0 by omega)
 have b1:=Int.emod_lt_of_pos (x / 18446744073709551616 % d * 18446744073709551616+x % 18446744073709551616) hd
 have c0:0≤(x / 18446744073709551616 % d * 18446744073709551616+x % 18446744073709551616) / d:=Int.ediv_nonneg (by omega) (by omega)
 have c1:(x / 18446744073709551616 % d * 18446744073709551616+x % 18446744073709551616) / d<18446744073709551616:=(Int.ediv_lt_iff_lt_mul hd).2 (by omega)
 generalize (x / 18446744073709551616 % d * 18446744073709551616+x % 18446744073709551616) / d=D at *
 generalize (x / 18446744073709551616 % d * 18446744073709551616+x % 18446744073709551616) % d=R at *
 generalize x / 18446744073709551616 / d=H at *
 have ex:x=d * (H * 18446744073709551616+D)+R:=by
  have:d * (H * 18446744073709551616+D)=d * H * 18446744073709551616+d * D:=by rw [Int.mul_add,Int.mul_assoc]
  omega
 have q1:x / d=H * 18446744073709551616+D:=by
  rw [ex,Int.mul_add_ediv_left _ _ (by omega),Int.ediv_eq_zero_of_lt b0 b1,Int.add_zero]
 have q2:x % d=R:=by
  rw [ex,Int.mul_add_emod_self_left,Int.emod_eq_of_lt b0 b1]
 rw [q1]
 exact ⟨by omega,by omega,q2⟩
theorem rW (x d:Int) (hx:Q128 x) (hd:0<d) (hdu:d<18446744073709551616):aD Sg 257 [ag (qE x),bN d] (fun r=>r = .tup [ag (qE (x / d)),bN (x % d),B true]):=by
 have ⟨q1,q2⟩:=vy hx
 have hr0:=Int.emod_nonneg (x / 18446744073709551616) (show d≠0 by omega)
 have hr1:=Int.emod_lt_of_pos (x / 18446744073709551616) hd
 have h1:=FF (x / 18446744073709551616 % d) (x % 18446744073709551616) d hr0 hr1 hdu q2
 obtain ⟨l1,l2,l3⟩:=DY hx.l hd
 rw [← l2,← l3] at h1
 have g0:(d == 0)=false:=beq_eq_false_iff_ne.2 (by omega)
 have hq:0≤x / 18446744073709551616 / d:=Int.ediv_nonneg q1.l (by omega)
 have hq2:x / 18446744073709551616 / d≤x / 18446744073709551616:=Int.ediv_le_self _ q1.l
 have hq3:=q1.u
 refine aC Tryz.func257 [.cell 4 260, .tmp 5, .tmp 6] ?_
 repeat' (first|refine aj g0 ?_|refine ak ?_|((first|refine ai (fun K hK => ?_)|refine ae (h1) ?_);and_intros;all_goals first|(refine hK _ ?_;clear hK K)|try exact aa)|(refine an ?_;(try clear hB KB);(try clear hK K)))
 rw [l1]
 rfl
end Go.Proofs.YtmfblbbemekkoaaGreatDoor
set_option maxHeartbeats 2000000
set_option maxRecDepth 16000
namespace Go.Proofs.YtmfblbbemekkoaaGreatDoor
open Go Go.SL
open Go.RowKit (wrap64)
attribute [local go_sem] qE mb
theorem Bl (x:Ex) (h:ExOk x):aD Sg 253 [ag (mb x)] (fun r=>r = .b (B true)):=by
 obtain ⟨p0,p1,q0,q1,r0,r1,d0,d1,_⟩:=h
 have g1:decide (x.p / 18446744073709551616<4294967296)=true:=decide_eq_true (by omega)
 have g2:decide (x.q<70368744177664)=true:=decide_eq_true q1
 have g3:decide (x.r<8589934592)=true:=decide_eq_true r1
 have g4:decide (x.d≥1)=true:=decide_eq_true d0
 refine aC Tryz.func253 [.tmp 2] ?_
 repeat' (first|(refine ai (fun K hK => ?_);and_intros;all_goals first|(refine hK _ ?_;clear hK K)|try exact aa)|(refine an ?_;(try clear hB KB);(try clear hK K)))
 rw [g1,g2,g3,g4];rfl
theorem oo (x:Ex) (h:ExS x):aD Sg 256 [ag (mb x)] (fun r=>r = .b (ag (qE (x.q * x.q * x.r)))):=by
 have hs:=sG h
 have h1:=gx x.q x.q ⟨h.q0,by have:=h.q1;omega⟩ ⟨h.q0,by have:=h.q1;omega⟩
 have h2:=nq (x.q * x.q) x.r hs.1 ⟨h.r0,by have:=h.r1;omega⟩ hs.2.2.2 hs.2.1
 generalize x.q * x.q * x.r=A at *
 refine aC Tryz.func256 [.cell 2 260] ?_
 refine kg fun K hK => ?_
 simp (maxSteps:=999999)(disch:=omega) only [go_sem]
 and_intros
 all_goals first|(refine hK _ ?_;clear hK K)|exact aa|skip
 refine jm (id:=1) (.br 0 (.br 1 (.br 2 (.br 3 (.br 5 (.br 6 (.br 4 (.br 7 (.br 8 (.br 9 (.br 10 (.br 11 (.br 12 (.br 13 .leaf .nil) .nil) .nil) .nil) .nil) .nil) (.br 11 (.br 7 (.br 8 (.br 9 (.br 10 (.br 12 (.br 13 .leaf .nil) .nil) .nil) .nil) .nil) .nil) .nil)) (.br 11 (.br 4 (.br 7 (.br 8 (.br 9 (.br 10 (.br 12 (.br 13 .leaf .nil) .nil) .nil) .nil) .nil) .nil) .nil) .nil)) .nil) .nil) .nil) .nil) .nil) .nil) (by decide +kernel) (by (first|(refine And.intro (fun iw hiw => ?_) ?_;(focus ((try simp (maxSteps:=999999)(disch:=omega) only [go_sem] at hiw ⊢);(repeat (refine Eq.trans (if_neg ?_) ?_;(focus omega)));exact hw iw (by omega)));(focus (first|exact Nat.zero_le _|(simp (maxSteps:=999999)(disch:=omega) only [go_sem];done)|(simp (maxSteps:=999999)(disch:=omega) only [go_sem];omega))))|exact eS)) (fun K0 hW => ?_)
 refine (fun (tl:∀ st,Le st (aZ [(2, .b (.c (.ptr 1 0))),(3, .b (.c (.ptr 2 0)))] [(1, .fix [.p .any, .p .any]),(2, .fix ((qE A).map CV.p))] 3)→K0 st) => ?_) (fun st hl=>hW st _ hl ?_)
 ·clear hW
  repeat' (first|exact cz|(refine cZ (fun K' hK' => ?_) ?_)|(refine cj (tl _ ?_);clear tl)|((first|refine ae (h1) ?_|refine ae (h2) ?_);(try simp (maxSteps:=999999)(disch:=omega) only [go_sem]);and_intros;(all_goals first|(refine hK' _ ?_;clear hK' K')|trivial|omega|exact Nat.le_of_ble_eq_true rfl|exact aa|skip))|(simp (maxSteps:=999999)(disch:=omega) only [go_sem];and_intros;(all_goals first|(refine hK' _ ?_;clear hK' K')|trivial|omega|exact Nat.le_of_ble_eq_true rfl|exact aa|skip)))
  all_goals
   refine ay [(1,some 1),(2,some 2)] ?_ ?_
   and_intros
   all_goals first|exact ao|skip
 clear hW
 repeat' (first|(refine ai (fun K hK => ?_);and_intros;all_goals first|(refine hK _ ?_;clear hK K)|try exact aa)|(refine an ?_;(try clear hB KB);(try clear hK K)))
 all_goals rfl
theorem DM (x:Ex) (n:Int) (h:ExS x) (hn:Q128 n):aD Sg 260 [ag (mb x),ag (qE n)] (fun r=>r = .b (I (tU x n))):=by
 have hs:=sG h
 have hn2:=(vy hn).2
 have h1:=oo x h
 have h3:=gx (n % 18446744073709551616) (n % 18446744073709551616) hn2 hn2
 have h4:=uX (x.q * x.q * x.r) (n % 18446744073709551616 * (n % 18446744073709551616))
 refine aC Tryz.func260 [.tmp 4] ?_
 repeat' (first|(((with_reducible refine cr (id:=3) [] (by decide +kernel) (by decide +kernel) ?_ (fun K hK => ?_));(first|(refine And.intro (fun iw hiw => ?_) ?_;(focus ((try simp (maxSteps:=999999)(disch:=omega) only [go_sem] at hiw ⊢);(repeat (refine Eq.trans (if_neg ?_) ?_;(focus omega)));exact hw iw (by omega)));(focus (first|exact Nat.zero_le _|(simp (maxSteps:=999999)(disch:=omega) only [go_sem];done)|(simp (maxSteps:=999999)(disch:=omega) only [go_sem];omega))))|exact eS));(try simp (maxSteps:=999999)(disch:=omega) only [go_sem]);and_intros;(all_goals first|(refine hK _ (by simp (maxSteps:=999999)(disch:=omega) only [go_sem]) ?_;clear hK K)|exact aa|skip))|refine ak ?_|((first|refine ai (fun K hK => ?_)|refine ae (h1) ?_|refine ae (h3) ?_|refine ae (h4) ?_);and_intros;all_goals first|(refine hK _ ?_;clear hK K)|try exact aa)|(refine bc (fun hb => ?_) (fun hb => ?_);all_goals try exact aJ)|(refine an ?_;(try clear hB KB);(try clear hK K)))
 ·rw [tU,if_pos hb]
 ·refine hK _ (by simp (maxSteps:=999999)(disch:=omega) only [go_sem]) ?_
  clear hK
  repeat' (refine an ?_;(try clear hB KB);(try clear hK K))
  rw [tU,if_neg (by omega)]
theorem BQ (x:Ex) (h:ExOk x):aD Sg 245 [ag (mb x)] (fun r=>r = .tup [bN (cD x),B true]):=by
 have hv:=Bl x h
 obtain ⟨p0,p1,q0,q1,r0,r1,d0,d1,_⟩:=id h
 have hES:ExS x:=⟨p0,p1,q0,by omega,r0,r1,by omega,d1⟩
 have hs:=sG hES
 have h1:=oo x hES
 have h2:=DF (x.q * x.q * x.r) ⟨hs.2.2.1,hs.2.2.2⟩
 have hS:=Do (A:=x.q * x.q * x.r) hs.2.2.1 (by have:=hs.2.2.2;exact this)
 have hfl:=vR h hS
 obtain ⟨_,_,f0,f1⟩:=fQ h
 have S0:=hS.s0
 have S1:uq (fun n=>decide (n * n≤x.q * x.q * x.r)) 64 0<18446744073709551616:=by
  refine Int.not_le.1 fun c => ?_
  have:=aw c c (by decide) S0
  have:=hS.le
  have:=hs.2.2.2
  omega
 generalize uq (fun n=>decide (n * n≤x.q * x.q * x.r)) 64 0=S at *
 have h3:=Ll S ⟨S0,S1⟩
 have h4:=nf x.p S p0 S0 (by omega)
 have h5:=rW (x.p+S) x.d ⟨by omega,by omega⟩ (by omega) d1
 rw [← hfl] at h5
 generalize cD x=F at *
 have g1:decide (F / 18446744073709551616>0)=false:=decide_eq_false (by omega)
 have g2:decide (F % 18446744073709551616≥9223372036854775808)=false:=decide_eq_false (by omega)
 have ht:True:=trivial
 generalize x.q * x.q * x.r=A at *
 refine aC Tryz.func245 [.tmp 2, .tmp 3] ?_
 repeat' (first|refine aj ht ?_|refine ak ?_|((first|refine ai (fun K hK => ?_)|refine ae (hv) ?_);and_intros;all_goals first|(refine hK _ ?_;clear hK K)|try exact aa))
 refine jm (id:=3) (.br 0 (.br 1 (.br 2 (.br 3 (.br 4 (.br 5 (.br 6 (.br 7 (.br 8 (.br 9 (.br 10 (.br 11 (.br 12 .leaf .nil) .nil) .nil) .nil) .nil) .nil) (.br 10 (.br 6 (.br 7 (.br 8 (.br 9 (.br 11 (.br 12 .leaf .nil) .nil) .nil) .nil) .nil) .nil) .nil)) (.br 10 (.br 5 (.br 6 (.br 7 (.br 8 (.br 9 (.br 11 (.br 12 .leaf .nil) .nil) .nil) .nil) .nil) .nil) .nil) .nil)) (.br 10 (.br 4 (.br 5 (.br 6 (.br 7 (.br 8 (.br 9 (.br 11 (.br 12 .leaf .nil) .nil) .nil) .nil) .nil) .nil) .nil) .nil) .nil)) (.br 10 (.br 3 (.br 4 (.br 5 (.br 6 (.br 7 (.br 8 (.br 9 (.br 11 (.br 12 .leaf .nil) .nil) .nil) .nil) .nil) .nil) .nil) .nil) .nil) .nil)) .nil) .nil) .nil) (by decide +kernel) (by (first|(refine And.intro (fun iw hiw => ?_) ?_;(focus ((try simp (maxSteps:=999999)(disch:=omega) only [go_sem] at hiw ⊢);(repeat (refine Eq.trans (if_neg ?_) ?_;(focus omega)));exact hw iw (by omega)));(focus (first|exact Nat.zero_le _|(simp (maxSteps:=999999)(disch:=omega) only [go_sem];done)|(simp (maxSteps:=999999)(disch:=omega) only [go_sem];omega))))|exact eS)) (fun K0 hW => ?_)
 refine (fun (tl:∀ st,Le st (aZ [(1, .b (.c (.ptr 0 0))),(4, .b (.c (.ptr 1 0)))] [(0, .fix ((mb x).map CV.p)),(1, .fix ((qE (x.p+S)).map CV.p))] 2)→K0 st) => ?_) (fun st hl=>hW st _ hl ?_)
 ·clear hW
  repeat' (first|exact cz|(refine cZ (fun K' hK' => ?_) ?_)|(refine cj (tl _ ?_);clear tl)|((first|refine ae (h1) ?_|refine ae (h2) ?_|refine ae (h3) ?_|refine ae (h4) ?_);(try simp (maxSteps:=999999)(disch:=omega) only [go_sem]);and_intros;(all_goals first|(refine hK' _ ?_;clear hK' K')|trivial|omega|exact Nat.le_of_ble_eq_true rfl|exact aa|skip))|(simp (maxSteps:=999999)(disch:=omega) only [go_sem];and_intros;(all_goals first|(refine hK' _ ?_;clear hK' K')|trivial|omega|exact Nat.le_of_ble_eq_true rfl|exact aa|skip)))
  all_goals
   refine ay [(1,some 1)] ?_ ?_
   and_intros
   all_goals first|exact ao|skip
 clear hW
 repeat' (first|refine aj (And.intro g1 g2) ?_|refine ak ?_|((first|refine ai (fun K hK => ?_)|refine ae (h5) ?_);and_intros;all_goals first|(refine hK _ ?_;clear hK K)|try exact aa)|(refine an ?_;(try clear hB KB);(try clear hK K)))
 rw [show F % 18446744073709551616=F by omega]
end Go.Proofs.YtmfblbbemekkoaaGreatDoor
