/- Part of the proof: W5, W6, W7, WB, WC. -/
import Derived.Test.YtcbifofjjpfbcaaGreatDoorM12
import Derived.Test.YtcbifofjjpfbcaaGreatDoorM15
set_option linter.unusedSimpArgs false
set_option linter.unusedVariables false
set_option maxHeartbeats 8000000
set_option maxRecDepth 16000
namespace Go.Proofs.YtcbifofjjpfbcaaGreatDoor
open Go Go.SL
open Go.RowKit (wrap64)
section
attribute [local go_sem] qE
theorem UK (n:Int) (h:Q64 n):aA Sg 227 [cm n] (fun r=>r = .b (ag (qE n))):=by
 obtain ⟨h0,h1⟩:=h;refine aD Tryz.func227 [.cell 2 251] ?_;repeat' (refine aC ?_)
 rw [show n / 18446744073709551616=0 by omega,show n % 18446744073709551616=n by omega];rfl
theorem kj (a b:Int) (ha:Q64 a) (hb:Q64 b):aA Sg 212 [cm a,cm b] (fun r=>r = .b (ag (qE (a * b)))):=by
 have h:=pZ a b ha.l ha.u hb.l hb.u;refine aD Tryz.func212 [.cell 4 251] ?_;repeat' (first|refine an (fun K hK => ?_)|refine aa (h) ?_|refine ax ?_|(refine aq hK ?_;try clear hK K))
 rfl
theorem rM (x y:Int) (hx:0≤x) (hy:0≤y) (h:x+y<340282366920938463463374607431768211456):aA Sg 211 [ag (qE x),ag (qE y)] (fun r=>r = .tup [ag (qE (x+y)),B true]):=by
 have qx:=rN (n:=x) ⟨hx,by omega⟩;have qy:=rN (n:=y) ⟨hy,by omega⟩;have h1:=vj (x % 18446744073709551616) (y % 18446744073709551616) 0 qx.2 qy.2 ⟨by decide,by decide⟩;have h2:=vj (x / 18446744073709551616) (y / 18446744073709551616) ((x % 18446744073709551616+y % 18446744073709551616+0) / 18446744073709551616) qx.1 qy.1 ⟨by omega,by omega⟩;refine aD Tryz.func211 [.cell 4 251, .tmp 5] ?_
 repeat' (first|refine ax ?_|refine an (fun K hK => ?_)|refine ni (h1) ?_|refine ni (h2) ?_|(refine aK (fun hb => ?_) (fun hb => ?_) <;> try exact aE)|(refine aq hK ?_;try clear hK K))
 rw [show (x / 18446744073709551616 + y / 18446744073709551616 + (x % 18446744073709551616 + y % 18446744073709551616 + 0) / 18446744073709551616) % 18446744073709551616 = (x + y) / 18446744073709551616 by clear h1 h2; omega,
   show (x % 18446744073709551616+y % 18446744073709551616+0) % 18446744073709551616=(x+y) % 18446744073709551616 by clear h1 h2;omega]
 rfl
theorem NJ (x y:Int) (hx:Q128 x) (hy:Q128 y) (h:y≤x):aA Sg 232 [ag (qE x),ag (qE y)] (fun r=>r = .tup [ag (qE (x - y)),B true]):=by
 have qx:=rN hx;have qy:=rN hy;have h1:=rl (x % 18446744073709551616) (y % 18446744073709551616) 0 qx.2 qy.2 ⟨by decide,by decide⟩;have h2:=rl (x / 18446744073709551616) (y / 18446744073709551616) (if x % 18446744073709551616<y % 18446744073709551616+0 then 1 else 0) qx.1 qy.1 ⟨by split <;> decide,by split <;> decide⟩;have hx1:=hx.u;have hy0:=hy.l;refine aD Tryz.func232 [.cell 4 251, .tmp 5] ?_
 repeat' (first|refine ax ?_|refine an (fun K hK => ?_)|refine ni (h1) ?_|refine ni (h2) ?_|(refine aK (fun hb => ?_) (fun hb => ?_) <;> try exact aE)|(refine aq hK ?_;try clear hK K))
 rw [show (x / 18446744073709551616 + 18446744073709551616 - y / 18446744073709551616 - if x % 18446744073709551616 < y % 18446744073709551616 + 0 then 1 else 0) % 18446744073709551616 = (x - y) / 18446744073709551616 by clear h1 h2; split <;> omega,
   show (x % 18446744073709551616+18446744073709551616 - y % 18446744073709551616 - 0) % 18446744073709551616=(x - y) % 18446744073709551616 by clear h1 h2;omega]
 rfl
theorem Ou (x y:Int) (hx:Q128 x) (hy:Q128 y) (h:x<y):aA Sg 232 [ag (qE x),ag (qE y)] (fun r=>r = .tup [ag (qE 0),B false]):=by
 have qx:=rN hx;have qy:=rN hy;have h1:=rl (x % 18446744073709551616) (y % 18446744073709551616) 0 qx.2 qy.2 ⟨by decide,by decide⟩;have h2:=rl (x / 18446744073709551616) (y / 18446744073709551616) (if x % 18446744073709551616<y % 18446744073709551616+0 then 1 else 0) qx.1 qy.1 ⟨by split <;> decide,by split <;> decide⟩;refine aD Tryz.func232 [.cell 4 251, .tmp 5] ?_
 repeat' (first|refine ax ?_|refine an (fun K hK => ?_)|refine ni (h1) ?_|refine ni (h2) ?_|(refine aK (fun hb => ?_) (fun hb => ?_) <;> try exact aE)|(refine aq hK ?_;try clear hK K))
 rfl
theorem MW (x:Int):aA Sg 256 [cm x] (fun r=>r = .b (B false)):=by
 refine aD Tryz.func256 [.tmp 2] ?_;repeat' (refine aC ?_)
 rw [bne_self_eq_false]
theorem Gg (x y:Int):aA Sg 251 [cm x,cm y] (fun r=>r = .b (I (jj x y))):=by
 have h1:=MW x;have h2:=MW y;have ht:True:=trivial;refine aD Tryz.func251 [.tmp 4] ?_
 repeat' (first|refine ah ht ?_|refine ax ?_|refine an (fun K hK => ?_)|refine aa (h1) ?_|refine aa (h2) ?_|(refine aK (fun hb => ?_) (fun hb => ?_) <;> try exact aE)|(refine aq hK ?_;try clear hK K))
 ·rw [jj,if_neg (by omega),if_pos (by omega)]
 ·rw [jj,if_neg (by omega),if_neg (by omega)]
 ·rw [jj,if_pos (by omega)]
theorem VL (a b:Int):aA Sg 250 [.c (.p (.lst 1 2 (fun i _=>PI (if i=0 then a else b))))] (fun r=>r = .b (I (if a=0 then b else a))):=by
 have ht:True:=trivial;refine aD Tryz.func250 [.tmp 2] ?_;repeat' (refine aC ?_)
 refine aH (X:=Nat) (fun i=>aT [(3, .b (I 0)),(6, .b (.c (.p (.lst 1 2 (fun i _=>PI (if i=0 then a else b)))))),(7, .b (I 2)),(8, .b (I i))] [] 1) (fun i=>i≤2∧(0<i→a=0)∧(1<i→b=0)) (fun i=>2 - i) 0 ?_ ?_ ?_
 ·exact ⟨by omega,fun h=>absurd h (by omega),fun h=>absurd h (by omega)⟩
 ·refine au [] ?_ ?_;and_intros;all_goals try exact aj
 ·rintro i ⟨i2,ia,ib⟩;have hv:i=0∨i=1∨i=2:=by omega
  rcases hv with rfl|rfl|rfl
  ·repeat' (first|refine aC ?_|(refine aK (fun hb => ?_) (fun hb => ?_) <;> try exact aE))
   ·have hb':¬ a=0:=hb;exact congrArg (fun v=>SV.b (I v)) (if_neg hb').symm
   ·have hb':a=0:=hb;rw [ae];refine ak 1 ?_ ⟨by omega,fun _=>hb',fun h=>absurd h (by omega)⟩ (by omega);refine au [] ?_ ?_;and_intros;all_goals try exact aj
  ·have a0:=ia (by decide)
   repeat' (first|refine aC ?_|(refine aK (fun hb => ?_) (fun hb => ?_) <;> try exact aE))
   ·exact congrArg (fun v=>SV.b (I v)) (if_pos a0).symm
   ·have hb':b=0:=hb;rw [ae];refine ak 2 ?_ ⟨by omega,fun _=>a0,fun _=>hb'⟩ (by omega);refine au [] ?_ ?_;and_intros;all_goals try exact aj
  ·have a0:=ia (by decide);have b0:=ib (by decide)
   repeat' (first|refine aC ?_|(refine aK (fun hb => ?_) (fun hb => ?_) <;> try exact aE))
   rw [if_pos a0,b0]
theorem PF {x y:Int}:(if jj (x / 18446744073709551616) (y / 18446744073709551616)=0 then jj (x % 18446744073709551616) (y % 18446744073709551616) else jj (x / 18446744073709551616) (y / 18446744073709551616))=jj x y:=by
 unfold jj;repeat' split
 all_goals omega
theorem zV (x y:Int):aA Sg 234 [ag (qE x),ag (qE y)] (fun r=>r = .b (I (jj x y))):=by
 have ht:True:=trivial;have h1:=Gg (x / 18446744073709551616) (y / 18446744073709551616);have h2:=Gg (x % 18446744073709551616) (y % 18446744073709551616);have h3:=VL (jj (x / 18446744073709551616) (y / 18446744073709551616)) (jj (x % 18446744073709551616) (y % 18446744073709551616));rw [PF] at h3;refine aD Tryz.func234 [.tmp 4] ?_;repeat' (first|((with_reducible refine IG (id:=1) [] ?_ (fun K hK => ?_));exact dK;refine dz ?_)|refine an (fun K hK => ?_)|refine aa (h1) ?_|refine aa (h2) ?_|(refine aq hK ?_;try clear hK K)|(refine Bi hK ?_;try clear hK K))
 refine gF ?_ ?_ bG ?_ (h3);try simp (maxSteps:=999999)(disch:=omega) only [go_sem]
 try (refine hK _ ?_;clear hK K)
 ·refine hK _ bG ?_;clear hK;repeat' (first|with_reducible exact bq|refine aC ?_)
 ·simp (maxSteps:=1000000) (disch:=omega) only [go_sem,fA,fN];refine oG (gX fun i hi j hj => ?_);have:i=0∨i=1:=by omega
  have hj0:j=0:=by omega
  subst hj0;rcases this with rfl|rfl <;> rfl
 ·trivial
end
section
attribute [local go_sem] qE
theorem si (x y:Int) (hx:0≤x) (hy:Q64 y) (h:x * y<340282366920938463463374607431768211456) (hx2:x<340282366920938463463374607431768211456):aA Sg 231 [ag (qE x),cm y] (fun r=>r = .tup [ag (qE (x * y)),B true]):=by
 have ⟨q1,q2⟩:=rN (n:=x) ⟨hx,hx2⟩;have h1:=pZ (x / 18446744073709551616) y q1.l q1.u hy.l hy.u;have h3:=kj (x % 18446744073709551616) y q2 hy;have e:x / 18446744073709551616 * y * 18446744073709551616+x % 18446744073709551616 * y=x * y:=by
  have:=Int.mul_ediv_add_emod x 18446744073709551616;generalize x / 18446744073709551616=a at *
  generalize x % 18446744073709551616=b at *
  rw [← this,Int.add_mul,Int.mul_comm 18446744073709551616 a,Int.mul_right_comm]
 have p0:0≤x / 18446744073709551616 * y:=ao q1.l hy.l;have r0:0≤x % 18446744073709551616 * y:=ao q2.l hy.l;have h2:=rM (x / 18446744073709551616 * y * 18446744073709551616) (x % 18446744073709551616 * y) (by omega) r0 (by omega);rw [e] at h2;generalize x % 18446744073709551616 * y=r at *
 generalize x / 18446744073709551616 * y=p at *
 have hp:p<18446744073709551616:=by omega
 rw [show qE (p * 18446744073709551616)=[.val (.int .u64 p), .val (.int .u64 0)] by
  simp only [qE]
  rw [show p * 18446744073709551616 / 18446744073709551616=p by omega,show p * 18446744073709551616 % 18446744073709551616=0 by omega]] at h2
 rw [show p / 18446744073709551616=0 by omega,show p % 18446744073709551616=p by omega] at h1;have ht:True:=trivial;refine aD Tryz.func231 [.cell 4 251, .tmp 5] ?_;repeat' (first|refine ah ht ?_|refine ax ?_|refine an (fun K hK => ?_)|refine aa (h1) ?_|refine aa (h2) ?_|refine aa (h3) ?_|(refine aq hK ?_;try clear hK K))
 rfl
def KS:Nat→Int
 | 0=>0
 | k+1=>2 ^ k
theorem Dh:∀ k:Nat,((2:Int) ^ k).fdiv (2 ^ min 1 64)=KS k
 | 0=>rfl
 | k+1=>by
  rw [Int.fdiv_eq_ediv_of_nonneg _ (by decide),show ((2:Int) ^ min 1 64)=2 from rfl,Int.pow_succ,Int.mul_ediv_cancel _ (by decide)];rfl
theorem LB {x y:Int}:jj x y≤0↔x≤y:=by
 unfold jj;repeat' split
 all_goals omega
theorem JX (a:Int) (ha:Q128 a):aA Sg 228 [ag (qE a)] (fun r=>r = .b (cm (vo (fun n=>decide (n * n≤a)) 64 0))):=by
 have ht:True:=trivial;refine aD Tryz.func228 [.tmp 2] ?_;repeat' (refine aC ?_)
 refine aH (X:=Int × Nat) (fun x=>aT [(1, .b (.c (.ptr 0 0))),(3, .b (cm x.1)),(4, .b (cm (KS x.2)))] [(0, .fix ((qE a).map CV.p))] 1)
  (fun x=>x.2≤64∧0≤x.1∧x.1+2 ^ x.2≤18446744073709551616∧x.1 % 2 ^ x.2=0∧vo (fun n=>decide (n * n≤a)) x.2 x.1=vo (fun n=>decide (n * n≤a)) 64 0) (fun x=>x.2) (0,64) ?_ ?_ ?_
 ·exact ⟨by decide,by decide,by decide,by decide,rfl⟩
 ·refine au [(0,some 0)] ?_ ?_;and_intros;all_goals try exact aj
 ·rintro ⟨n,i⟩ ⟨i64,n0,n1,hm,hs⟩;dsimp only at i64 n0 n1 hm hs ⊢;cases i with
  | zero =>
   have g0:decide (KS 0>0)=false:=rfl;repeat' (first|refine ah g0 ?_|refine aC ?_)
   rw [← hs];rfl
  | succ k =>
   have hp:(2:Int) ^ (k+1)=2 ^ k+2 ^ k:=by rw [Int.pow_succ];omega
   have hpos:(0:Int)<2 ^ k:=Int.pow_pos (by decide);rw [hp] at n1;have hor:=GH (n:=n) (k:=k) n0 (by omega) hm (by omega);have h1:=kj (n+2 ^ k) (n+2 ^ k) ⟨by omega,by omega⟩ ⟨by omega,by omega⟩;have h2:=zV ((n+2 ^ k) * (n+2 ^ k)) a;have hm1:n % 2 ^ k=0:=by rw [← Int.emod_emod_of_dvd n (show (2:Int) ^ k ∣ 2 ^ (k+1) from ⟨2,by rw [Int.pow_succ]⟩),hm,Int.zero_emod]
   have hm2:(n+2 ^ k) % 2 ^ k=0:=by rw [Int.add_emod_right,hm1]
   have g0:decide (KS (k+1)>0)=true:=decide_eq_true hpos;have hb:KS (k+1)=2 ^ k:=rfl;rw [hb] at g0 ⊢;rw [← hor] at h1 h2;rw [show vo (fun n=>decide (n * n≤a)) (k+1) n=vo (fun n=>decide (n * n≤a)) k (if decide ((n+2 ^ k) * (n+2 ^ k)≤a)=true then n+2 ^ k else n) from rfl] at hs;by_cases hg:(n+2 ^ k) * (n+2 ^ k)≤a
   ·have g1:decide (jj (Me .u64 n (2 ^ k) * Me .u64 n (2 ^ k)) a≤0)=true:=by rw [hor];exact decide_eq_true (LB.2 hg)
    rw [decide_eq_true hg,if_pos rfl] at hs;repeat' (first|refine ah (And.intro g0 g1) ?_|refine ax ?_|refine an (fun K hK => ?_)|refine aa (h1) ?_|refine aa (h2) ?_|(refine aq hK ?_;try clear hK K))
    refine ak (n+2 ^ k,k) ?_ ⟨by dsimp only;omega,by dsimp only;omega,by dsimp only;omega,hm2,hs⟩ (by dsimp only;omega);refine au [(0,some 0)] ?_ ?_;and_intros;all_goals try exact aj
    ·exact .inl (by rw [hor])
    ·exact .inl (by rw [Dh])
   ·have g1:decide (jj (Me .u64 n (2 ^ k) * Me .u64 n (2 ^ k)) a≤0)=false:=by rw [hor];exact decide_eq_false (fun q=>hg (LB.1 q))
    rw [decide_eq_false hg,if_neg (by decide)] at hs;repeat' (first|refine ah (And.intro g0 g1) ?_|refine ax ?_|refine an (fun K hK => ?_)|refine aa (h1) ?_|refine aa (h2) ?_|(refine aq hK ?_;try clear hK K))
    refine ak (n,k) ?_ ⟨by dsimp only;omega,by dsimp only;omega,by dsimp only;omega,hm1,hs⟩ (by dsimp only;omega);refine au [(0,some 0)] ?_ ?_;and_intros;all_goals try exact aj
    exact .inl (by rw [Dh])
end
theorem OK {y:Int} (h0:0<y) (h1:y<18446744073709551616):∃ s:Nat,(64:Int) - fQ y.toNat=s∧s≤63∧9223372036854775808≤y * 2 ^ s∧y * 2 ^ s<18446744073709551616:=by
 obtain ⟨n,rfl⟩:=Int.eq_ofNat_of_zero_le (show 0≤y by omega);have hl:=Gn (x:=(n:Int)) ⟨by omega,h1⟩;rw [Int.toNat_natCast] at hl ⊢;obtain ⟨b0,b1,b2⟩:=pv (n:=n) (by omega);generalize fQ n=l at *
 refine ⟨64 - l,by omega,by omega, ?_, ?_⟩
 ·have:=Nat.mul_le_mul_right (2 ^ (64 - l)) b1;rw [← Nat.pow_add,show l - 1+(64 - l)=63 by omega] at this;have e:((n:Int) * 2 ^ (64 - l))=((n * 2 ^ (64 - l):Nat):Int):=by simp
  rw [e];omega
 ·have:=Nat.mul_lt_mul_of_pos_right b2 (show 0<2 ^ (64 - l) from Nat.pow_pos (by decide));rw [← Nat.pow_add,show l+(64 - l)=64 by omega] at this;have e:((n:Int) * 2 ^ (64 - l))=((n * 2 ^ (64 - l):Nat):Int):=by simp
  rw [e];omega
theorem Ph {a b:Int} {s:Nat} (ha:0≤a) (hm:a % 2 ^ s=0) (hb:0≤b) (gL:b<2 ^ s) (h:a+b<18446744073709551616):Me .u64 a b=a+b:=by
 obtain ⟨m,rfl⟩:=Int.eq_ofNat_of_zero_le ha;obtain ⟨n,rfl⟩:=Int.eq_ofNat_of_zero_le hb;have p:((2:Int) ^ s)=((2 ^ s:Nat):Int):=by simp
 rw [p] at hm gL;have hm':m % 2 ^ s=0:=by omega
 show IntKind.u64.wrap (BitVec.ofInt 64 (m:Int) ||| BitVec.ofInt 64 (n:Int)).toNat=_;rw [BitVec.toNat_or,BitVec.toNat_ofInt,BitVec.toNat_ofInt];have e1:((m:Int) % ((2 ^ 64:Nat):Int)).toNat=m:=by omega
 have e2:((n:Int) % ((2 ^ 64:Nat):Int)).toNat=n:=by omega
 rw [e1,e2];have e3:m ||| n=m+n:=by
  have h1:2 ^ s * (m / 2 ^ s)=m:=by have:=Nat.div_add_mod m (2 ^ s);omega
  have:=Nat.two_pow_add_eq_or_of_lt (b:=n) (i:=s) (by omega) (m / 2 ^ s);rw [h1] at this;exact this.symm
 rw [e3,nW (by omega) (by omega)];omega
theorem No {a:Int} (h0:0≤a) (h1:a<18446744073709551616):ya .u64 a 4294967295=a % 4294967296:=by
 obtain ⟨n,rfl⟩:=Int.eq_ofNat_of_zero_le h0;have e:(BitVec.ofInt 64 (n:Int)).toNat=n:=by rw [BitVec.toNat_ofInt];omega
 show IntKind.u64.wrap (BitVec.ofInt 64 (n:Int) &&& BitVec.ofInt 64 4294967295).toNat=_;rw [BitVec.toNat_and,e,show (BitVec.ofInt 64 4294967295).toNat=2 ^ 32 - 1 by decide,Nat.and_two_pow_sub_one_eq_mod,nW (by omega) (by omega)];omega
theorem Ub {hi lo : Int} {s : Nat} (hh : 0 ≤ hi) (l0 : 0 ≤ lo) (l1 : lo < 18446744073709551616) (s63 : s ≤ 63) (hb : hi * 2 ^ s < 18446744073709551616 - 2 ^ s + 1) :
  Me .u64 (hi * 2 ^ s) (lo.fdiv (2 ^ (64 - s)))=(hi * 18446744073709551616+lo) * 2 ^ s / 18446744073709551616∧lo * 2 ^ s % 18446744073709551616=(hi * 18446744073709551616+lo) * 2 ^ s % 18446744073709551616:=by
 have hk:(0:Int)<2 ^ s:=Int.pow_pos (by decide);have hj:(0:Int)<2 ^ (64 - s):=Int.pow_pos (by decide);have hkj:(2:Int) ^ (64 - s) * 2 ^ s=18446744073709551616:=by rw [← Int.pow_add,show 64 - s+s=64 by omega];rfl
 have h1:(hi * 18446744073709551616+lo) * 2 ^ s=hi * 2 ^ s * 18446744073709551616+lo * 2 ^ s:=by rw [Int.add_mul,Int.mul_right_comm]
 have h2:lo * 2 ^ s / 18446744073709551616=lo / 2 ^ (64 - s):=by rw [← hkj,Int.mul_ediv_mul_of_pos_left _ _ hk]
 have h3:0≤lo / 2 ^ (64 - s):=Int.ediv_nonneg l0 (by omega);have h4:lo / 2 ^ (64 - s)<2 ^ s:=by rw [Int.ediv_lt_iff_lt_mul hj,Int.mul_comm,hkj];exact l1
 rw [h1];constructor
 ·rw [Int.fdiv_eq_ediv_of_nonneg _ (by omega),Ph (s:=s) (ao hh (by omega)) (Int.mul_emod_left _ _) h3 h4 (by omega),← h2];generalize lo * 2 ^ s=b;generalize hi * 2 ^ s=a;omega
 ·generalize lo * 2 ^ s=b;generalize hi * 2 ^ s=a;omega
theorem wr3 {a b c:Int} (h0:0≤a+b - c) (h1:a+b - c<18446744073709551616):IntKind.u64.wrap (IntKind.u64.wrap (IntKind.u64.wrap a+b) - IntKind.u64.wrap c)=a+b - c:=by rw [mF,mF,mF,mF];omega
theorem LZ (hi lo y : Int) (hh : 0 ≤ hi) (hy : hi < y) (hyu : y < 18446744073709551616) (hlo : Q64 lo) :
  aA Sg 248 [cm hi,cm lo,cm y] (fun r=>r = .tup [cm ((hi * 18446744073709551616+lo) / y),cm ((hi * 18446744073709551616+lo) % y)]):=by
 obtain ⟨l0,l1⟩:=hlo;have g1:(y == 0)=false:=beq_eq_false_iff_ne.2 (by omega);have g2:decide (y≤hi)=false:=decide_eq_false (by omega);by_cases hz:hi=0
 ·subst hz;have g3:((0:Int) == 0)=true:=rfl;refine aD Tryz.func248 [.tmp 6, .tmp 7] ?_;repeat' (first|refine ah (And.intro g1 (And.intro g2 g3)) ?_|refine aC ?_)
  have h3:0≤lo / y:=Int.ediv_nonneg l0 (by omega);have h4:lo / y≤lo:=Int.ediv_le_self _ l0;rw [Int.zero_mul,Int.zero_add,wq (lo / y) ⟨h3,by omega⟩]
 ·have g3:(hi == 0)=false:=beq_eq_false_iff_ne.2 hz;obtain ⟨s,es,s63,Y0,Y1⟩:=OK (y:=y) (by omega) hyu;have hl:=Pe y ⟨by omega,hyu⟩;rw [es] at hl;have hk:(0:Int)<2 ^ s:=Int.pow_pos (by decide);have hb:hi * 2 ^ s<18446744073709551616 - 2 ^ s+1:=by
   have:=Int.mul_le_mul_of_nonneg_right (show hi+1≤y by omega) (Int.le_of_lt hk);rw [Int.add_mul,Int.one_mul] at this;omega
  have hT:=Ub hh l0 l1 s63 hb;have hh2:0≤hi * 2 ^ s:=ao hh (by omega);have hs1:min (s:Int).toNat 64=s:=by omega
  have hs2:min ((64:Int) - s).toNat 64=64 - s:=by omega
  have hUY:(hi * 18446744073709551616+lo) * 2 ^ s / 18446744073709551616<y * 2 ^ s:=by
   have h1:=Int.mul_le_mul_of_nonneg_right (show hi+1≤y by omega) (Int.le_of_lt hk);have h2:(hi * 18446744073709551616+lo) * 2 ^ s<(hi+1) * 2 ^ s * 18446744073709551616:=by
    have:=Int.mul_lt_mul_of_pos_right (show hi * 18446744073709551616+lo<(hi+1) * 18446744073709551616 by omega) hk
    rwa [Int.mul_right_comm (hi+1)] at this
   generalize (hi * 18446744073709551616+lo) * 2 ^ s=U at *
   omega
  obtain ⟨hd1,hd2⟩:=IM (a:=hi * 18446744073709551616+lo) (y:=y) (k:=2 ^ s) hk (by omega);have hU0:0≤(hi * 18446744073709551616+lo) * 2 ^ s:=ao (by omega) (by omega);have hw1:IntKind.u64.wrap (lo * 2 ^ s)=(hi * 18446744073709551616+lo) * 2 ^ s % 18446744073709551616:=by rw [← hT.2];simp only [IntKind.wrap,IntKind.bits,IntKind.signed];simp
  rw [← hd1];have hrem:(hi * 18446744073709551616+lo) % y=(hi * 18446744073709551616+lo) * 2 ^ s % (y * 2 ^ s) / 2 ^ s:=by rw [hd2,Int.mul_ediv_cancel _ (by omega)]
  rw [hrem];refine aD Tryz.func248 [.tmp 6, .tmp 7] ?_;repeat' (first|refine ah (And.intro g1 (And.intro g2 g3)) ?_|refine ax ?_|((with_reducible refine bN (id:=14) (fun K hW => ?_));(try simp (maxSteps:=999999)(disch:=omega) only [go_sem]);and_intros;all_goals first|(refine hK _ ?_;clear hK K)|try exact ai)|refine an (fun K hK => ?_)|refine aa (hl) ?_|(refine aq hK ?_;try clear hK K))
  refine hW _ (aT [(2, .b (cm (y * 2 ^ s))),(8, .b (cm s)),(9, .b (cm (y * 2 ^ s / 4294967296))),(10, .b (cm (y * 2 ^ s % 4294967296))),(11, .b (cm ((hi * 18446744073709551616+lo) * 2 ^ s / 18446744073709551616))),
   (13, .b (cm ((hi * 18446744073709551616+lo) * 2 ^ s % 18446744073709551616 / 4294967296))),(14, .b (cm ((hi * 18446744073709551616+lo) * 2 ^ s % 18446744073709551616 % 4294967296)))] [] 1) ?_ ?_
  ·have hy2:IntKind.u64.wrap (y * 2 ^ s)=y * 2 ^ s:=wq _ ⟨by omega,Y1⟩;have hh3:IntKind.u64.wrap (hi * 2 ^ s)=hi * 2 ^ s:=wq _ ⟨hh2,by omega⟩;refine au [] ?_ ?_;and_intros;all_goals try exact aj
   ·exact .inl (by rw [hs1,hy2])
   ·exact .inl (by rw [hs1,hy2,VG])
   ·exact .inl (by rw [hs1,hy2,No (by omega) Y1])
   ·exact .inl (by rw [hs1,hs2,hh3,hT.1])
   ·exact .inl (by rw [hs1,hw1,VG])
   ·exact .inl (by rw [hs1,hw1,No (by omega) (by omega)])
  clear hW hw1 hT hrem hd1 hd2 hl;generalize (hi * 18446744073709551616+lo) * 2 ^ s=U at *
  generalize y * 2 ^ s=Y at *
  clear hb hh2;obtain ⟨y1,e1⟩:∃ y1,y1=Y / 4294967296:=⟨_,rfl⟩
  obtain ⟨y0,e0⟩:∃ y0,y0=Y % 4294967296:=⟨_,rfl⟩
  obtain ⟨t,et⟩:∃ t,t=U / 18446744073709551616:=⟨_,rfl⟩
  obtain ⟨d1,f1⟩:∃ d1,d1=U % 18446744073709551616 / 4294967296:=⟨_,rfl⟩
  obtain ⟨d0,f0⟩:∃ d0,d0=U % 18446744073709551616 % 4294967296:=⟨_,rfl⟩
  rw [← e1,← e0,← et,← f1,← f0];have eY:y1 * 4294967296+y0=Y:=by omega
  have eU:U=t * 18446744073709551616+(d1 * 4294967296+d0):=by omega
  have P1:DigP t d1 y1 y0:=⟨by omega,by omega,by omega,by omega,by omega,by omega,by omega,by omega⟩
  have I1:=zs P1;have z1:(y1 == 0)=false:=beq_eq_false_iff_ne.2 (by omega);have hq:=I1.q0;have hr:=I1.r0;have hqb:=AI P1 I1;have hr1:t - t / y1 * y1<4294967296:=by
   have:=Int.emod_lt_of_pos t (show 0<y1 by omega);have h2:=Int.mul_ediv_add_emod t y1;rw [Int.mul_comm] at h2;omega
  have hqy:0≤t / y1 * y1:=ao hq (by omega);repeat' (first|((with_reducible refine bN (id:=16) (fun K hW => ?_));(try simp (maxSteps:=999999)(disch:=omega) only [go_sem]);and_intros;all_goals first|(refine hK _ ?_;clear hK K)|try exact ai)|refine aC ?_)
  refine hW _ (aT [(2, .b (cm Y)),(8, .b (cm s)),(9, .b (cm y1)),(10, .b (cm y0)),(11, .b (cm t)),(13, .b (cm d1)),(14, .b (cm d0)),(15, .b (cm (t / y1))),(16, .b (cm (t - t / y1 * y1)))] [] 1) ?_ ?_
  ·refine au [] ?_ ?_;and_intros;all_goals try exact aj
  clear hW;refine eO fun KB hV => ?_;have tl:∀ st,Le st (aT [(2, .b (cm Y)),(8, .b (cm s)),(9, .b (cm y1)),(10, .b (cm y0)),(11, .b (cm t)),(13, .b (cm d1)),(14, .b (cm d0)),(15, .b (cm ((t * 4294967296+d1) / Y)))] [] 1)→KB st:=fun st hl=>hV st _ hl ?_
  rotate_left
  ·clear hV;have hYp:0<Y:=by omega
   obtain ⟨Q,eQ⟩:∃ Q,Q=(t * 4294967296+d1) / Y:=⟨_,rfl⟩
   obtain ⟨u,eu⟩:∃ u,u=(t * 4294967296+d1) % Y:=⟨_,rfl⟩
   rw [← eQ];have h1:=Int.mul_ediv_add_emod (t * 4294967296+d1) Y;rw [← eQ,← eu,Int.mul_comm] at h1;have u0:0≤u:=by rw [eu];exact Int.emod_nonneg _ (by omega)
   have u1:u<Y:=by rw [eu];exact Int.emod_lt_of_pos _ hYp
   have Q0:0≤Q:=by rw [eQ];exact Int.ediv_nonneg (by omega) (by omega)
   have Q1:Q<4294967296:=by rw [eQ];exact (Int.ediv_lt_iff_lt_mul hYp).2 (by omega)
   have hw:=wr3 (a:=t * 4294967296) (b:=d1) (c:=Q * Y) (by omega) (by omega);rw [show t * 4294967296+d1 - Q * Y=u by omega] at hw;have P2:DigP u d0 y1 y0:=⟨by omega,by omega,by omega,by omega,by omega,by omega,by omega,by omega⟩
   have I2:=zs P2;have hq2:=I2.q0;have hr20:=I2.r0;have hqb2:=AI P2 I2;have hr2:u - u / y1 * y1<4294967296:=by
    have:=Int.emod_lt_of_pos u (show 0<y1 by omega);have h2:=Int.mul_ediv_add_emod u y1;rw [Int.mul_comm] at h2;omega
   have hqy2:0≤u / y1 * y1:=ao hq2 (by omega);repeat' ((with_reducible refine bN (id:=21) (fun K hW => ?_));(try simp (maxSteps:=999999)(disch:=omega) only [go_sem]);and_intros;all_goals first|(refine hK _ ?_;clear hK K)|try exact ai)
   refine hW _ (aT [(2, .b (cm Y)),(8, .b (cm s)),(9, .b (cm y1)),(10, .b (cm y0)),(14, .b (cm d0)),(15, .b (cm Q)),(17, .b (cm u))] [] 1) ?_ ?_
   ·refine au [] ?_ ?_;and_intros;all_goals try exact aj
    exact .inl (by rw [hw])
   clear hW;repeat' (first|((with_reducible refine bN (id:=23) (fun K hW => ?_));(try simp (maxSteps:=999999)(disch:=omega) only [go_sem]);and_intros;all_goals first|(refine hK _ ?_;clear hK K)|try exact ai)|refine aC ?_)
   refine hW _ (aT [(2, .b (cm Y)),(8, .b (cm s)),(9, .b (cm y1)),(10, .b (cm y0)),(14, .b (cm d0)),(15, .b (cm Q)),(17, .b (cm u)),(18, .b (cm (u / y1))),(16, .b (cm (u - u / y1 * y1)))] [] 1) ?_ ?_
   ·refine au [] ?_ ?_;and_intros;all_goals try exact aj
   clear hW;refine eO fun KB2 hV2 => ?_;have tl2:∀ st,Le st (aT [(2, .b (cm Y)),(8, .b (cm s)),(14, .b (cm d0)),(15, .b (cm Q)),(17, .b (cm u)),(18, .b (cm ((u * 4294967296+d0) / Y)))] [] 1)→KB2 st:=fun st hl=>hV2 st _ hl ?_
   rotate_left
   ·clear hV2;obtain ⟨D,eD⟩:∃ D,D=(u * 4294967296+d0) / Y:=⟨_,rfl⟩
    have td:=Fg (t:=t) (a:=d1) (b:=d0) hYp eQ eu eD ⟨by omega,by omega⟩;rw [← eU] at td;rw [← eD];have D0:0≤D:=by rw [eD];exact Int.ediv_nonneg (by omega) (by omega)
    have D1:D<4294967296:=by rw [eD];exact (Int.ediv_lt_iff_lt_mul hYp).2 (by omega)
    have h2:=Int.mul_ediv_add_emod (u * 4294967296+d0) Y;rw [← eD,Int.mul_comm,td.2] at h2;have v0:0≤U % Y:=Int.emod_nonneg _ (by omega);have v1:U % Y<Y:=Int.emod_lt_of_pos _ hYp;have hw2:=wr3 (a:=u * 4294967296) (b:=d0) (c:=D * Y) (by omega) (by omega);rw [show u * 4294967296+d0 - D * Y=U % Y by omega] at hw2;repeat' (refine aC ?_)
    rw [hw2,td.1,hs1,Int.fdiv_eq_ediv_of_nonneg _ (by omega)]
   ·clear hV2;refine aH (X:=Int × Int) (fun x=>aT [(2, .b (cm Y)),(8, .b (cm s)),(9, .b (cm y1)),(10, .b (cm y0)),(14, .b (cm d0)),(15, .b (cm Q)),(17, .b (cm u)),(18, .b (cm x.1)),(16, .b (cm x.2))] [] 1) (fun x=>DigI u d0 y1 y0 x.1 x.2∧x.2<4294967296) (fun x=>x.1.toNat) (u / y1,u - u / y1 * y1) ?_ ?_ ?_
    ·exact ⟨I2,hr2⟩
    ·refine au [] ?_ ?_;and_intros;all_goals try exact aj
    ·rintro ⟨q,r⟩ ⟨I,rB⟩;dsimp only at I rB ⊢;have q0:=I.q0;have r0:=I.r0;have hqb:=AI P2 I;by_cases c1:q≥4294967296
     ·have g1:decide (q≥4294967296)=true:=decide_eq_true c1;have J:=rJ P2 I (.inl c1);have q1:=J.q0;by_cases c3:r+y1≥4294967296
      ·have g3:decide (r+y1≥4294967296)=true:=decide_eq_true c3;have hq2:q - 1=(u * 4294967296+d0) / Y:=by rw [← eY];exact (pq P2 J (pz P2 J c3)).1
       repeat' (first|refine ah (And.intro g1 g3) ?_|refine aC ?_)
       refine tl2 _ ?_;rw [← hq2];refine au [] ?_ ?_;and_intros;all_goals try exact aj
      ·have g3:decide (r+y1≥4294967296)=false:=decide_eq_false c3;repeat' (first|refine ah (And.intro g1 g3) ?_|refine aC ?_)
       refine ak (q - 1,r+y1) ?_ ⟨J,by dsimp only;omega⟩ (by dsimp only;omega);refine au [] ?_ ?_;and_intros;all_goals try exact aj
     ·have g1:decide (q≥4294967296)=false:=decide_eq_false c1;have m0:0≤q * y0∧q * y0≤4294967295 * 4294967295:=⟨Int.mul_nonneg q0 (by omega),Int.mul_le_mul (by omega) (by omega) (by omega) (by omega)⟩
      by_cases c2:q * y0>4294967296 * r+d0
      ·have g2:decide (q * y0>4294967296 * r+d0)=true:=decide_eq_true c2;have J:=rJ P2 I (.inr c2);have q1:=J.q0;by_cases c3:r+y1≥4294967296
       ·have g3:decide (r+y1≥4294967296)=true:=decide_eq_true c3;have hq2:q - 1=(u * 4294967296+d0) / Y:=by rw [← eY];exact (pq P2 J (pz P2 J c3)).1
        repeat' (first|refine ah (And.intro g1 (And.intro g2 g3)) ?_|refine aC ?_)
        refine tl2 _ ?_;rw [← hq2];refine au [] ?_ ?_;and_intros;all_goals try exact aj
       ·have g3:decide (r+y1≥4294967296)=false:=decide_eq_false c3;repeat' (first|refine ah (And.intro g1 (And.intro g2 g3)) ?_|refine aC ?_)
        refine ak (q - 1,r+y1) ?_ ⟨J,by dsimp only;omega⟩ (by dsimp only;omega);refine au [] ?_ ?_;and_intros;all_goals try exact aj
      ·have g2:decide (q * y0>4294967296 * r+d0)=false:=decide_eq_false c2;have hq2:q=(u * 4294967296+d0) / Y:=by rw [← eY];exact (pq P2 I (by omega)).1
       repeat' (first|refine ah (And.intro g1 g2) ?_|refine aC ?_)
       refine tl2 _ ?_;rw [← hq2];refine au [] ?_ ?_;and_intros;all_goals try exact aj
  ·clear hV;refine aH (X:=Int × Int) (fun x=>aT [(2, .b (cm Y)),(8, .b (cm s)),(9, .b (cm y1)),(10, .b (cm y0)),(11, .b (cm t)),(13, .b (cm d1)),(14, .b (cm d0)),(15, .b (cm x.1)),(16, .b (cm x.2))] [] 1) (fun x=>DigI t d1 y1 y0 x.1 x.2∧x.2<4294967296) (fun x=>x.1.toNat) (t / y1,t - t / y1 * y1) ?_ ?_ ?_
   ·exact ⟨I1,hr1⟩
   ·refine au [] ?_ ?_;and_intros;all_goals try exact aj
   ·rintro ⟨q,r⟩ ⟨I,rB⟩;dsimp only at I rB ⊢;have q0:=I.q0;have r0:=I.r0;have hqb:=AI P1 I;by_cases c1:q≥4294967296
    ·have g1:decide (q≥4294967296)=true:=decide_eq_true c1;have J:=rJ P1 I (.inl c1);have q1:=J.q0;by_cases c3:r+y1≥4294967296
     ·have g3:decide (r+y1≥4294967296)=true:=decide_eq_true c3;have hq2:q - 1=(t * 4294967296+d1) / Y:=by rw [← eY];exact (pq P1 J (pz P1 J c3)).1
      repeat' (first|refine ah (And.intro g1 g3) ?_|refine aC ?_)
      refine tl _ ?_;rw [← hq2];refine au [] ?_ ?_;and_intros;all_goals try exact aj
     ·have g3:decide (r+y1≥4294967296)=false:=decide_eq_false c3;repeat' (first|refine ah (And.intro g1 g3) ?_|refine aC ?_)
      refine ak (q - 1,r+y1) ?_ ⟨J,by dsimp only;omega⟩ (by dsimp only;omega);refine au [] ?_ ?_;and_intros;all_goals try exact aj
    ·have g1:decide (q≥4294967296)=false:=decide_eq_false c1;have m0:0≤q * y0∧q * y0≤4294967295 * 4294967295:=⟨Int.mul_nonneg q0 (by omega),Int.mul_le_mul (by omega) (by omega) (by omega) (by omega)⟩
     by_cases c2:q * y0>4294967296 * r+d1
     ·have g2:decide (q * y0>4294967296 * r+d1)=true:=decide_eq_true c2;have J:=rJ P1 I (.inr c2);have q1:=J.q0;by_cases c3:r+y1≥4294967296
      ·have g3:decide (r+y1≥4294967296)=true:=decide_eq_true c3;have hq2:q - 1=(t * 4294967296+d1) / Y:=by rw [← eY];exact (pq P1 J (pz P1 J c3)).1
       repeat' (first|refine ah (And.intro g1 (And.intro g2 g3)) ?_|refine aC ?_)
       refine tl _ ?_;rw [← hq2];refine au [] ?_ ?_;and_intros;all_goals try exact aj
      ·have g3:decide (r+y1≥4294967296)=false:=decide_eq_false c3;repeat' (first|refine ah (And.intro g1 (And.intro g2 g3)) ?_|refine aC ?_)
       refine ak (q - 1,r+y1) ?_ ⟨J,by dsimp only;omega⟩ (by dsimp only;omega);refine au [] ?_ ?_;and_intros;all_goals try exact aj
     ·have g2:decide (q * y0>4294967296 * r+d1)=false:=decide_eq_false c2;have hq2:q=(t * 4294967296+d1) / Y:=by rw [← eY];exact (pq P1 I (by omega)).1
      repeat' (first|refine ah (And.intro g1 g2) ?_|refine aC ?_)
      refine tl _ ?_;rw [← hq2];refine au [] ?_ ?_;and_intros;all_goals try exact aj
def NL (f a m:Int):Int:=if f=1 then m else if f=2 then a else if f=3 then m - a else 0
def Xv (h f g m:Int):Int:=if h=1 then f else if h=2 then g else if h=3 then bV (m * f+(m - f) * g) m else if h=4 then bV (f * g) m else 0
theorem FO {op:Int} (h:1≤op∧op≤12):∃ nm fa fb sh,pM op=[.val (.string nm),PI fa,PI fb,PI sh]∧(∀ a b m,NL fa b m=jl op a b m∧NL fb a m=jY op a b m)∧∀ f g m,Xv sh f g m=fk op f g m:=by
 have hv:op=1∨op=2∨op=3∨op=4∨op=5∨op=6∨op=7∨op=8∨op=9∨op=10∨op=11∨op=12:=by omega
 rcases hv with rfl|rfl|rfl|rfl|rfl|rfl|rfl|rfl|rfl|rfl|rfl|rfl <;> exact ⟨_,_,_,_,rfl,fun a b m=>⟨rfl,rfl⟩,fun f g m=>rfl⟩
theorem yu (f a m:Int) (ha:0≤a) (ham:a≤m) (hm:m≤65535):aA Sg 216 [I f,U a,U m] (fun r=>r = .b (U (NL f a m))):=by
 unfold NL;refine aD Tryz.func216 [.tmp 6] ?_;by_cases c1:f=1
 ·have g1:(f == 1)=true:=beq_iff_eq.2 c1;rw [if_pos c1];repeat' (first|with_reducible exact bq|refine ah g1 ?_|refine aC ?_)
 have g1:(f == 1)=false:=beq_eq_false_iff_ne.2 c1;rw [if_neg c1];by_cases c2:f=2
 ·have g2:(f == 2)=true:=beq_iff_eq.2 c2;rw [if_pos c2];repeat' (first|with_reducible exact bq|refine ah (And.intro g1 g2) ?_|refine aC ?_)
 have g2:(f == 2)=false:=beq_eq_false_iff_ne.2 c2;rw [if_neg c2];by_cases c3:f=3
 ·have g3:(f == 3)=true:=beq_iff_eq.2 c3;rw [if_pos c3];repeat' (first|with_reducible exact bq|refine ah (And.intro g1 (And.intro g2 g3)) ?_|refine aC ?_)
 have g3:(f == 3)=false:=beq_eq_false_iff_ne.2 c3;rw [if_neg c3];repeat' (first|with_reducible exact bq|refine ah (And.intro g1 (And.intro g2 g3)) ?_|refine aC ?_)
theorem uo (op a b m:Int) (hm:Full m) (ho:1≤op∧op≤12) (ha:0≤a) (ham:a≤m) (hb:0≤b) (hbm:b≤m):aA Sg 201 [I op,U a,U b,U m] (fun r=>r = .tup [U (jl op a b m),U (jY op a b m),B true]):=by
 have hle:=hm.le;have d1:decide (a>m)=false:=decide_eq_false (by omega);have d2:decide (b>m)=false:=decide_eq_false (by omega);have hf:=pc op;rw [decide_eq_true ho] at hf;obtain ⟨nm,fa,fb,sh,e,hab,_⟩:=FO ho;rw [e] at hf;have h1:=yu fa b m hb hbm hle;have h2:=yu fb a m ha ham hle;rw [(hab a b m).1] at h1;rw [(hab a b m).2] at h2;refine aD Tryz.func201 [.tmp 8, .tmp 9, .tmp 10] ?_;repeat' (first|with_reducible exact bq|refine ah (And.intro d1 d2) ?_|refine ax ?_|refine an (fun K hK => ?_)|refine aa (hf) ?_|refine aa (h1) ?_|refine aa (h2) ?_|(refine aq hK ?_;try clear hK K))
theorem Ay (x p y q m:Int) (hx:0≤x∧x≤65535) (hp:0≤p∧p≤65535) (hy:0≤y∧y≤65535) (hq:0≤q∧q≤65535) (hm:0<m∧m≤65535) (hr:bV (x * p+y * q) m≤65535):aA Sg 202 [U x,U p,U y,U q,U m] (fun r=>r = .b (U (bV (x * p+y * q) m))):=by
 have e1:0≤x * p∧x * p≤65535 * 65535:=⟨ao hx.1 hp.1,az hx.2 hp.2 hp.1 (by decide)⟩
 have e2:0≤y * q∧y * q≤65535 * 65535:=⟨ao hy.1 hq.1,az hy.2 hq.2 hq.1 (by decide)⟩
 have hn:=dL (n:=x * p+y * q) hm.1 (by omega);have hw:IntKind.u16.wrap (bV (x * p+y * q) m)=bV (x * p+y * q) m:=gD hn hr;refine aD Tryz.func202 [.tmp 10] ?_;repeat' (first|with_reducible exact bq|refine an (fun K hK => ?_)|refine aa (xc (x * p+y * q) m ⟨by omega,by omega⟩ ⟨by omega,by omega⟩) ?_|refine ax ?_|(refine aq hK ?_;try clear hK K))
theorem yZ (op a b m:Int) (hm:Full m) (ho:1≤op∧op≤12) (ha:0≤a) (ham:a≤m) (hb:0≤b) (hbm:b≤m):aA Sg 190 [I op,U a,U b,U m] (fun r=>r = .b (U (dP op a b m))):=by
 have hle:=hm.le;have hp:=hm.pos;have hf:=uo op a b m hm ho ha ham hb hbm;have hl:=oM (op:=op) hm ha ham hb hbm;have ⟨a1,a2⟩:=ki (op:=op) ha ham hb hbm;have ⟨b1,b2⟩:=lJ (op:=op) ha ham hb hbm;have hs:=Ay (jl op a b m) a (jY op a b m) b m ⟨a1,by omega⟩ ⟨ha,by omega⟩ ⟨b1,by omega⟩ ⟨hb,by omega⟩ ⟨hp,hle⟩ (by unfold dP at hl;omega);unfold dP at *
 generalize jl op a b m=fa at *
 generalize jY op a b m=fb at *
 refine aD Tryz.func190 [.tmp 8] ?_;repeat' (first|with_reducible exact bq|refine an (fun K hK => ?_)|refine aa (hf) ?_|refine aa (hs) ?_|refine ax ?_|(refine aq hK ?_;try clear hK K))
theorem yQ (op f g m:Int) (hm:Full m) (ho:1≤op∧op≤12) (hf:0≤f) (hfm:f≤m) (hg:0≤g) (hgm:g≤m):aA Sg 191 [I op,U f,U g,U m] (fun r=>r = .b (U (fk op f g m))):=by
 have hle:=hm.le;have hp:=hm.pos;have d1:decide (f>m)=false:=decide_eq_false (by omega);have d2:decide (g>m)=false:=decide_eq_false (by omega);have d3:(m == 0)=false:=beq_eq_false_iff_ne.2 (by omega);have hfi:=pc op;rw [decide_eq_true ho] at hfi;obtain ⟨nm,fa,fb,sh,e,_,hsh⟩:=FO ho;rw [e] at hfi;have hs:=ov (op:=op) hm hf hfm hg hgm;rw [← hsh f g m] at hs ⊢;unfold Xv at *
 refine aD Tryz.func191 [.tmp 8] ?_;by_cases c1:sh=1
 ·have g1:(sh == 1)=true:=beq_iff_eq.2 c1;rw [if_pos c1];repeat' (first|with_reducible exact bq|refine ah (And.intro d1 (And.intro d2 (And.intro d3 g1))) ?_|refine ax ?_|refine an (fun K hK => ?_)|refine aa (hfi) ?_|(refine aq hK ?_;try clear hK K))
 have g1:(sh == 1)=false:=beq_eq_false_iff_ne.2 c1;rw [if_neg c1] at hs ⊢;by_cases c2:sh=2
 ·have g2:(sh == 2)=true:=beq_iff_eq.2 c2;rw [if_pos c2];repeat' (first|with_reducible exact bq|refine ah (And.intro d1 (And.intro d2 (And.intro d3 (And.intro g1 g2)))) ?_|refine ax ?_|refine an (fun K hK => ?_)|refine aa (hfi) ?_|(refine aq hK ?_;try clear hK K))
 have g2:(sh == 2)=false:=beq_eq_false_iff_ne.2 c2;rw [if_neg c2] at hs ⊢;by_cases c3:sh=3
 ·have g3:(sh == 3)=true:=beq_iff_eq.2 c3;rw [if_pos c3] at hs ⊢;have h1:=Ay m f (m - f) g m ⟨by omega,hle⟩ ⟨hf,by omega⟩ ⟨by omega,by omega⟩ ⟨hg,by omega⟩ ⟨hp,hle⟩ (by omega);repeat' (first|with_reducible exact bq|refine ah (And.intro d1 (And.intro d2 (And.intro d3 (And.intro g1 (And.intro g2 g3))))) ?_|refine ax ?_|refine an (fun K hK => ?_)|refine aa (hfi) ?_|refine aa (h1) ?_|(refine aq hK ?_;try clear hK K))
 have g3:(sh == 3)=false:=beq_eq_false_iff_ne.2 c3;rw [if_neg c3] at hs ⊢;by_cases c4:sh=4
 ·have g4:(sh == 4)=true:=beq_iff_eq.2 c4;rw [if_pos c4] at hs ⊢;have h1:=Ay f g 0 0 m ⟨hf,by omega⟩ ⟨hg,by omega⟩ ⟨by decide,by decide⟩ ⟨by decide,by decide⟩ ⟨hp,hle⟩ (by rw [Int.mul_zero,Int.add_zero];omega);rw [Int.mul_zero,Int.add_zero] at h1;repeat' (first|with_reducible exact bq|refine ah (And.intro d1 (And.intro d2 (And.intro d3 (And.intro g1 (And.intro g2 (And.intro g3 g4)))))) ?_|refine ax ?_|refine an (fun K hK => ?_)|refine aa (hfi) ?_|refine aa (h1) ?_|(refine aq hK ?_;try clear hK K))
 have g4:(sh == 4)=false:=beq_eq_false_iff_ne.2 c4;rw [if_neg c4];repeat' (first|with_reducible exact bq|refine ah (And.intro d1 (And.intro d2 (And.intro d3 (And.intro g1 (And.intro g2 (And.intro g3 g4)))))) ?_|refine ax ?_|refine an (fun K hK => ?_)|refine aa (hfi) ?_|(refine aq hK ?_;try clear hK K))
end Go.Proofs.YtcbifofjjpfbcaaGreatDoor
