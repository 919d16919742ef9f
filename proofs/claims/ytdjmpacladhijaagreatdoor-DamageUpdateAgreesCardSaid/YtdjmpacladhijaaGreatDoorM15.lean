/- Part of the proof: W7. -/
import Derived.Test.YtdjmpacladhijaaGreatDoorM10
set_option linter.unusedSimpArgs false
set_option linter.unusedVariables false
set_option maxHeartbeats 8000000
set_option maxRecDepth 16000
namespace Go.Proofs.YtdjmpacladhijaaGreatDoor
open Go Go.SL
open Go.RowKit (wrap64)
theorem VH {y:Int} (h0:0<y) (h1:y<18446744073709551616):∃ s:Nat,(64:Int) - il y.toNat=s∧s≤63∧9223372036854775808≤y * 2 ^ s∧y * 2 ^ s<18446744073709551616:=by
 obtain ⟨n,rfl⟩:=Int.eq_ofNat_of_zero_le (show 0≤y by omega);have hl:=Nl (x:=(n:Int)) ⟨by omega,h1⟩;rw [Int.toNat_natCast] at hl ⊢;obtain ⟨b0,b1,b2⟩:=tr (n:=n) (by omega);generalize il n=l at *
 refine ⟨64 - l,by omega,by omega, ?_, ?_⟩
 ·have:=Nat.mul_le_mul_right (2 ^ (64 - l)) b1;rw [← Nat.pow_add,show l - 1+(64 - l)=63 by omega] at this;grind
 ·have:=Nat.mul_lt_mul_of_pos_right b2 (show 0<2 ^ (64 - l) from Nat.pow_pos (by decide));rw [← Nat.pow_add,show l+(64 - l)=64 by omega] at this;grind
theorem VE {a b:Int} {s:Nat} (ha:0≤a) (hm:a % 2 ^ s=0) (hb:0≤b) (nR:b<2 ^ s) (h:a+b<18446744073709551616):QT .u64 a b=a+b:=by
 obtain ⟨m,rfl⟩:=Int.eq_ofNat_of_zero_le ha;obtain ⟨n,rfl⟩:=Int.eq_ofNat_of_zero_le hb;have p:((2:Int) ^ s)=((2 ^ s:Nat):Int):=by simp
 rw [p] at hm nR;have hm':m % 2 ^ s=0:=by omega
 show IntKind.u64.wrap (BitVec.ofInt 64 (m:Int) ||| BitVec.ofInt 64 (n:Int)).toNat=_;rw [BitVec.toNat_or,BitVec.toNat_ofInt,BitVec.toNat_ofInt];have e1:((m:Int) % ((2 ^ 64:Nat):Int)).toNat=m:=by omega
 have e2:((n:Int) % ((2 ^ 64:Nat):Int)).toNat=n:=by omega
 rw [e1,e2];have e3:m ||| n=m+n:=by
  have h1:2 ^ s * (m / 2 ^ s)=m:=by have:=Nat.div_add_mod m (2 ^ s);omega
  have:=Nat.two_pow_add_eq_or_of_lt (b:=n) (i:=s) (by omega) (m / 2 ^ s);rw [h1] at this;exact this.symm
 grind [rI]
theorem RY {a:Int} (h0:0≤a) (h1:a<18446744073709551616):CK .u64 a 4294967295=a % 4294967296:=by
 obtain ⟨n,rfl⟩:=Int.eq_ofNat_of_zero_le h0;have e:(BitVec.ofInt 64 (n:Int)).toNat=n:=by rw [BitVec.toNat_ofInt];omega
 show IntKind.u64.wrap (BitVec.ofInt 64 (n:Int) &&& BitVec.ofInt 64 4294967295).toNat=_;rw [BitVec.toNat_and,e,show (BitVec.ofInt 64 4294967295).toNat=2 ^ 32 - 1 by decide,Nat.and_two_pow_sub_one_eq_mod,rI (by omega) (by omega)];omega
theorem a2D {hi lo : Int} {s : Nat} (hh : 0 ≤ hi) (l0 : 0 ≤ lo) (l1 : lo < 18446744073709551616) (s63 : s ≤ 63) (hb : hi * 2 ^ s < 18446744073709551616 - 2 ^ s + 1) :
  QT .u64 (hi * 2 ^ s) (lo.fdiv (2 ^ (64 - s)))=(hi * 18446744073709551616+lo) * 2 ^ s / 18446744073709551616∧lo * 2 ^ s % 18446744073709551616=(hi * 18446744073709551616+lo) * 2 ^ s % 18446744073709551616:=by
 have hk:(0:Int)<2 ^ s:=Int.pow_pos (by decide);have hj:(0:Int)<2 ^ (64 - s):=Int.pow_pos (by decide);have hkj:(2:Int) ^ (64 - s) * 2 ^ s=18446744073709551616:=by rw [← Int.pow_add,show 64 - s+s=64 by omega];rfl
 have h1:(hi * 18446744073709551616+lo) * 2 ^ s=hi * 2 ^ s * 18446744073709551616+lo * 2 ^ s:=by rw [Int.add_mul,Int.mul_right_comm]
 have h2:lo * 2 ^ s / 18446744073709551616=lo / 2 ^ (64 - s):=by rw [← hkj,Int.mul_ediv_mul_of_pos_left _ _ hk]
 have h3:0≤lo / 2 ^ (64 - s):=Int.ediv_nonneg l0 (by omega);have h4:lo / 2 ^ (64 - s)<2 ^ s:=by rw [Int.ediv_lt_iff_lt_mul hj,Int.mul_comm,hkj];exact l1
 rw [h1];constructor
 ·rw [Int.fdiv_eq_ediv_of_nonneg _ (by omega),VE (s:=s) (au hh (by omega)) (Int.mul_emod_left _ _) h3 h4 (by omega),← h2];omega
 omega
theorem wr3 {a b c:Int} (h0:0≤a+b - c) (h1:a+b - c<18446744073709551616):IntKind.u64.wrap (IntKind.u64.wrap (IntKind.u64.wrap a+b) - IntKind.u64.wrap c)=a+b - c:=by grind [Bf]
theorem RI (hi lo y : Int) (hh : 0 ≤ hi) (hy : hi < y) (hyu : y < 18446744073709551616) (hlo : Q64 lo) :
  aB Sg 273 [cY hi,cY lo,cY y] (fun r=>r = .tup [cY ((hi * 18446744073709551616+lo) / y),cY ((hi * 18446744073709551616+lo) % y)]):=by
 obtain ⟨l0,l1⟩:=hlo;have g1:(y == 0)=false:=beq_eq_false_iff_ne.2 (by omega);have g2:decide (y≤hi)=false:=decide_eq_false (by omega);by_cases hz:hi=0
 ·subst hz;have g3:((0:Int) == 0)=true:=rfl;refine az Tryz.func273 [.tmp 6, .tmp 7] ?_;repeat' (first|refine aj (And.intro g1 (And.intro g2 g3)) ?_|refine aC ?_)
  have h3:0≤lo / y:=Int.ediv_nonneg l0 (by omega);have h4:lo / y≤lo:=Int.ediv_le_self _ l0;rw [Int.zero_mul,Int.zero_add,wq (lo / y) ⟨h3,by omega⟩]
 ·have g3:(hi == 0)=false:=beq_eq_false_iff_ne.2 hz;obtain ⟨s,es,s63,Y0,Y1⟩:=VH (y:=y) (by omega) hyu;have hl:=VP y ⟨by omega,hyu⟩;rw [es] at hl;have hk:(0:Int)<2 ^ s:=Int.pow_pos (by decide);have hb:hi * 2 ^ s<18446744073709551616 - 2 ^ s+1:=by
   have:=Int.mul_le_mul_of_nonneg_right (show hi+1≤y by omega) (Int.le_of_lt hk);rw [Int.add_mul,Int.one_mul] at this;omega
  have hT:=a2D hh l0 l1 s63 hb;have hh2:0≤hi * 2 ^ s:=au hh (by omega);have hs1:min (s:Int).toNat 64=s:=by omega
  have hs2:min ((64:Int) - s).toNat 64=64 - s:=by omega
  have hUY:(hi * 18446744073709551616+lo) * 2 ^ s / 18446744073709551616<y * 2 ^ s:=by
   have h1:=Int.mul_le_mul_of_nonneg_right (show hi+1≤y by omega) (Int.le_of_lt hk);have h2:(hi * 18446744073709551616+lo) * 2 ^ s<(hi+1) * 2 ^ s * 18446744073709551616:=by
    have:=Int.mul_lt_mul_of_pos_right (show hi * 18446744073709551616+lo<(hi+1) * 18446744073709551616 by omega) hk
    rwa [Int.mul_right_comm (hi+1)] at this
   generalize (hi * 18446744073709551616+lo) * 2 ^ s=U at *
   omega
  obtain ⟨hd1,hd2⟩:=OB (a:=hi * 18446744073709551616+lo) (y:=y) (k:=2 ^ s) hk (by omega);have hU0:0≤(hi * 18446744073709551616+lo) * 2 ^ s:=au (by omega) (by omega);have hw1:IntKind.u64.wrap (lo * 2 ^ s)=(hi * 18446744073709551616+lo) * 2 ^ s % 18446744073709551616:=by rw [← hT.2];simp only [IntKind.wrap,IntKind.bits,IntKind.signed];simp
  rw [← hd1];have hrem:(hi * 18446744073709551616+lo) % y=(hi * 18446744073709551616+lo) * 2 ^ s % (y * 2 ^ s) / 2 ^ s:=by rw [hd2,Int.mul_ediv_cancel _ (by omega)]
  rw [hrem];refine az Tryz.func273 [.tmp 6, .tmp 7] ?_;repeat' (first|refine aj (And.intro g1 (And.intro g2 g3)) ?_|refine aw ?_|((with_reducible refine aX (id:=14) (fun K hW => ?_));(try simp (maxSteps:=999999)(disch:=omega) only [go_sem]);and_intros;all_goals first|(refine hK _ ?_;clear hK K)|try exact ai)|refine an (fun K hK => ?_)|refine aa (hl) ?_|(refine aq hK ?_;try clear hK K))
  refine hW _ (aP [(2, .b (cY (y * 2 ^ s))),(8, .b (cY s)),(9, .b (cY (y * 2 ^ s / 4294967296))),(10, .b (cY (y * 2 ^ s % 4294967296))),(11, .b (cY ((hi * 18446744073709551616+lo) * 2 ^ s / 18446744073709551616))),
   (13, .b (cY ((hi * 18446744073709551616+lo) * 2 ^ s % 18446744073709551616 / 4294967296))),(14, .b (cY ((hi * 18446744073709551616+lo) * 2 ^ s % 18446744073709551616 % 4294967296)))] [] 1) ?_ ?_
  ·have hy2:IntKind.u64.wrap (y * 2 ^ s)=y * 2 ^ s:=wq _ ⟨by omega,Y1⟩;have hh3:IntKind.u64.wrap (hi * 2 ^ s)=hi * 2 ^ s:=wq _ ⟨hh2,by omega⟩;refine ar [] ?_ ?_;and_intros;all_goals try exact ak
   ·grind
   ·grind
   ·grind [RY]
   ·grind
   ·grind
   grind [RY]
  clear hW hw1 hT hrem hd1 hd2 hl;generalize (hi * 18446744073709551616+lo) * 2 ^ s=U at *
  generalize y * 2 ^ s=Y at *
  clear hb hh2;obtain ⟨y1,e1⟩:∃ y1,y1=Y / 4294967296:=⟨_,rfl⟩
  obtain ⟨y0,e0⟩:∃ y0,y0=Y % 4294967296:=⟨_,rfl⟩
  obtain ⟨t,et⟩:∃ t,t=U / 18446744073709551616:=⟨_,rfl⟩
  obtain ⟨d1,f1⟩:∃ d1,d1=U % 18446744073709551616 / 4294967296:=⟨_,rfl⟩
  obtain ⟨d0,f0⟩:∃ d0,d0=U % 18446744073709551616 % 4294967296:=⟨_,rfl⟩
  rw [← e1,← e0,← et,← f1,← f0];have eY:y1 * 4294967296+y0=Y:=by omega
  have eU:U=t * 18446744073709551616+(d1 * 4294967296+d0):=by omega
  have P1:DigP t d1 y1 y0:=⟨by omega,by omega,by omega,by omega,by omega,by omega,by omega,by omega⟩
  have I1:=DB P1;have z1:(y1 == 0)=false:=beq_eq_false_iff_ne.2 (by omega);have hq:=I1.q0;have hr:=I1.r0;have hqb:=EL P1 I1;have hr1:t - t / y1 * y1<4294967296:=by
   have:=Int.emod_lt_of_pos t (show 0<y1 by omega);have h2:=Int.mul_ediv_add_emod t y1;rw [Int.mul_comm] at h2;omega
  have hqy:0≤t / y1 * y1:=au hq (by omega);repeat' (first|((with_reducible refine aX (id:=16) (fun K hW => ?_));(try simp (maxSteps:=999999)(disch:=omega) only [go_sem]);and_intros;all_goals first|(refine hK _ ?_;clear hK K)|try exact ai)|refine aC ?_)
  refine hW _ (aP [(2, .b (cY Y)),(8, .b (cY s)),(9, .b (cY y1)),(10, .b (cY y0)),(11, .b (cY t)),(13, .b (cY d1)),(14, .b (cY d0)),(15, .b (cY (t / y1))),(16, .b (cY (t - t / y1 * y1)))] [] 1) ?_ ?_
  ·refine ar [] ?_ ?_;and_intros;all_goals try exact ak
  clear hW;refine fx fun KB hV => ?_;have tl:∀ st,Le st (aP [(2, .b (cY Y)),(8, .b (cY s)),(9, .b (cY y1)),(10, .b (cY y0)),(11, .b (cY t)),(13, .b (cY d1)),(14, .b (cY d0)),(15, .b (cY ((t * 4294967296+d1) / Y)))] [] 1)→KB st:=fun st hl=>hV st _ hl ?_
  rotate_left
  ·clear hV;have hYp:0<Y:=by omega
   obtain ⟨Q,eQ⟩:∃ Q,Q=(t * 4294967296+d1) / Y:=⟨_,rfl⟩
   obtain ⟨u,eu⟩:∃ u,u=(t * 4294967296+d1) % Y:=⟨_,rfl⟩
   rw [← eQ];have h1:=Int.mul_ediv_add_emod (t * 4294967296+d1) Y;rw [← eQ,← eu,Int.mul_comm] at h1;have u0:0≤u:=by rw [eu];exact Int.emod_nonneg _ (by omega)
   have u1:u<Y:=by rw [eu];exact Int.emod_lt_of_pos _ hYp
   have Q0:0≤Q:=by rw [eQ];exact Int.ediv_nonneg (by omega) (by omega)
   have Q1:Q<4294967296:=by rw [eQ];exact (Int.ediv_lt_iff_lt_mul hYp).2 (by omega)
   have hw:=wr3 (a:=t * 4294967296) (b:=d1) (c:=Q * Y) (by omega) (by omega);rw [show t * 4294967296+d1 - Q * Y=u by omega] at hw;have P2:DigP u d0 y1 y0:=⟨by omega,by omega,by omega,by omega,by omega,by omega,by omega,by omega⟩
   have I2:=DB P2;have hq2:=I2.q0;have hr20:=I2.r0;have hqb2:=EL P2 I2;have hr2:u - u / y1 * y1<4294967296:=by
    have:=Int.emod_lt_of_pos u (show 0<y1 by omega);have h2:=Int.mul_ediv_add_emod u y1;rw [Int.mul_comm] at h2;omega
   have hqy2:0≤u / y1 * y1:=au hq2 (by omega);repeat' ((with_reducible refine aX (id:=21) (fun K hW => ?_));(try simp (maxSteps:=999999)(disch:=omega) only [go_sem]);and_intros;all_goals first|(refine hK _ ?_;clear hK K)|try exact ai)
   refine hW _ (aP [(2, .b (cY Y)),(8, .b (cY s)),(9, .b (cY y1)),(10, .b (cY y0)),(14, .b (cY d0)),(15, .b (cY Q)),(17, .b (cY u))] [] 1) ?_ ?_
   ·refine ar [] ?_ ?_;and_intros;all_goals try exact ak
    grind
   clear hW;repeat' (first|((with_reducible refine aX (id:=23) (fun K hW => ?_));(try simp (maxSteps:=999999)(disch:=omega) only [go_sem]);and_intros;all_goals first|(refine hK _ ?_;clear hK K)|try exact ai)|refine aC ?_)
   refine hW _ (aP [(2, .b (cY Y)),(8, .b (cY s)),(9, .b (cY y1)),(10, .b (cY y0)),(14, .b (cY d0)),(15, .b (cY Q)),(17, .b (cY u)),(18, .b (cY (u / y1))),(16, .b (cY (u - u / y1 * y1)))] [] 1) ?_ ?_
   ·refine ar [] ?_ ?_;and_intros;all_goals try exact ak
   clear hW;refine fx fun KB2 hV2 => ?_;have tl2:∀ st,Le st (aP [(2, .b (cY Y)),(8, .b (cY s)),(14, .b (cY d0)),(15, .b (cY Q)),(17, .b (cY u)),(18, .b (cY ((u * 4294967296+d0) / Y)))] [] 1)→KB2 st:=fun st hl=>hV2 st _ hl ?_
   rotate_left
   ·clear hV2;obtain ⟨D,eD⟩:∃ D,D=(u * 4294967296+d0) / Y:=⟨_,rfl⟩
    have td:=Lz (t:=t) (a:=d1) (b:=d0) hYp eQ eu eD ⟨by omega,by omega⟩;rw [← eU] at td;rw [← eD];have D0:0≤D:=by rw [eD];exact Int.ediv_nonneg (by omega) (by omega)
    have D1:D<4294967296:=by rw [eD];exact (Int.ediv_lt_iff_lt_mul hYp).2 (by omega)
    have h2:=Int.mul_ediv_add_emod (u * 4294967296+d0) Y;rw [← eD,Int.mul_comm,td.2] at h2;have v0:0≤U % Y:=Int.emod_nonneg _ (by omega);have v1:U % Y<Y:=Int.emod_lt_of_pos _ hYp;have hw2:=wr3 (a:=u * 4294967296) (b:=d0) (c:=D * Y) (by omega) (by omega);rw [show u * 4294967296+d0 - D * Y=U % Y by omega] at hw2;repeat' (refine aC ?_)
    grind
   ·clear hV2;refine aK (X:=Int × Int) (fun x=>aP [(2, .b (cY Y)),(8, .b (cY s)),(9, .b (cY y1)),(10, .b (cY y0)),(14, .b (cY d0)),(15, .b (cY Q)),(17, .b (cY u)),(18, .b (cY x.1)),(16, .b (cY x.2))] [] 1) (fun x=>DigI u d0 y1 y0 x.1 x.2∧x.2<4294967296) (fun x=>x.1.toNat) (u / y1,u - u / y1 * y1) ?_ ?_ ?_
    ·grind
    ·refine ar [] ?_ ?_;and_intros;all_goals try exact ak
    ·rintro ⟨q,r⟩ ⟨I,rB⟩;dsimp only at I rB ⊢;have q0:=I.q0;have r0:=I.r0;have hqb:=EL P2 I;by_cases c1:q≥4294967296
     ·have g1:decide (q≥4294967296)=true:=decide_eq_true c1;have J:=vA P2 I (.inl c1);have q1:=J.q0;by_cases c3:r+y1≥4294967296
      ·have g3:decide (r+y1≥4294967296)=true:=decide_eq_true c3;have hq2:q - 1=(u * 4294967296+d0) / Y:=by rw [← eY];exact (sQ P2 J (tB P2 J c3)).1
       repeat' (first|refine aj (And.intro g1 g3) ?_|refine aC ?_)
       refine tl2 _ ?_;rw [← hq2];refine ar [] ?_ ?_;and_intros;all_goals try exact ak
      ·have g3:decide (r+y1≥4294967296)=false:=decide_eq_false c3;repeat' (first|refine aj (And.intro g1 g3) ?_|refine aC ?_)
       refine ao (q - 1,r+y1) ?_ ⟨J,by omega⟩ (by omega);refine ar [] ?_ ?_;and_intros;all_goals try exact ak
     ·have g1:decide (q≥4294967296)=false:=decide_eq_false c1;have m0:0≤q * y0∧q * y0≤4294967295 * 4294967295:=⟨Int.mul_nonneg q0 (by omega),Int.mul_le_mul (by omega) (by omega) (by omega) (by omega)⟩
      by_cases c2:q * y0>4294967296 * r+d0
      ·have g2:decide (q * y0>4294967296 * r+d0)=true:=decide_eq_true c2;have J:=vA P2 I (.inr c2);have q1:=J.q0;by_cases c3:r+y1≥4294967296
       ·have g3:decide (r+y1≥4294967296)=true:=decide_eq_true c3;have hq2:q - 1=(u * 4294967296+d0) / Y:=by rw [← eY];exact (sQ P2 J (tB P2 J c3)).1
        repeat' (first|refine aj (And.intro g1 (And.intro g2 g3)) ?_|refine aC ?_)
        refine tl2 _ ?_;rw [← hq2];refine ar [] ?_ ?_;and_intros;all_goals try exact ak
       ·have g3:decide (r+y1≥4294967296)=false:=decide_eq_false c3;repeat' (first|refine aj (And.intro g1 (And.intro g2 g3)) ?_|refine aC ?_)
        refine ao (q - 1,r+y1) ?_ ⟨J,by omega⟩ (by omega);refine ar [] ?_ ?_;and_intros;all_goals try exact ak
      ·have g2:decide (q * y0>4294967296 * r+d0)=false:=decide_eq_false c2;have hq2:q=(u * 4294967296+d0) / Y:=by rw [← eY];exact (sQ P2 I (by omega)).1
       repeat' (first|refine aj (And.intro g1 g2) ?_|refine aC ?_)
       refine tl2 _ ?_;rw [← hq2];refine ar [] ?_ ?_;and_intros;all_goals try exact ak
  ·clear hV;refine aK (X:=Int × Int) (fun x=>aP [(2, .b (cY Y)),(8, .b (cY s)),(9, .b (cY y1)),(10, .b (cY y0)),(11, .b (cY t)),(13, .b (cY d1)),(14, .b (cY d0)),(15, .b (cY x.1)),(16, .b (cY x.2))] [] 1) (fun x=>DigI t d1 y1 y0 x.1 x.2∧x.2<4294967296) (fun x=>x.1.toNat) (t / y1,t - t / y1 * y1) ?_ ?_ ?_
   ·grind
   ·refine ar [] ?_ ?_;and_intros;all_goals try exact ak
   ·rintro ⟨q,r⟩ ⟨I,rB⟩;dsimp only at I rB ⊢;have q0:=I.q0;have r0:=I.r0;have hqb:=EL P1 I;by_cases c1:q≥4294967296
    ·have g1:decide (q≥4294967296)=true:=decide_eq_true c1;have J:=vA P1 I (.inl c1);have q1:=J.q0;by_cases c3:r+y1≥4294967296
     ·have g3:decide (r+y1≥4294967296)=true:=decide_eq_true c3;have hq2:q - 1=(t * 4294967296+d1) / Y:=by rw [← eY];exact (sQ P1 J (tB P1 J c3)).1
      repeat' (first|refine aj (And.intro g1 g3) ?_|refine aC ?_)
      refine tl _ ?_;rw [← hq2];refine ar [] ?_ ?_;and_intros;all_goals try exact ak
     ·have g3:decide (r+y1≥4294967296)=false:=decide_eq_false c3;repeat' (first|refine aj (And.intro g1 g3) ?_|refine aC ?_)
      refine ao (q - 1,r+y1) ?_ ⟨J,by omega⟩ (by omega);refine ar [] ?_ ?_;and_intros;all_goals try exact ak
    ·have g1:decide (q≥4294967296)=false:=decide_eq_false c1;have m0:0≤q * y0∧q * y0≤4294967295 * 4294967295:=⟨Int.mul_nonneg q0 (by omega),Int.mul_le_mul (by omega) (by omega) (by omega) (by omega)⟩
     by_cases c2:q * y0>4294967296 * r+d1
     ·have g2:decide (q * y0>4294967296 * r+d1)=true:=decide_eq_true c2;have J:=vA P1 I (.inr c2);have q1:=J.q0;by_cases c3:r+y1≥4294967296
      ·have g3:decide (r+y1≥4294967296)=true:=decide_eq_true c3;have hq2:q - 1=(t * 4294967296+d1) / Y:=by rw [← eY];exact (sQ P1 J (tB P1 J c3)).1
       repeat' (first|refine aj (And.intro g1 (And.intro g2 g3)) ?_|refine aC ?_)
       refine tl _ ?_;rw [← hq2];refine ar [] ?_ ?_;and_intros;all_goals try exact ak
      ·have g3:decide (r+y1≥4294967296)=false:=decide_eq_false c3;repeat' (first|refine aj (And.intro g1 (And.intro g2 g3)) ?_|refine aC ?_)
       refine ao (q - 1,r+y1) ?_ ⟨J,by omega⟩ (by omega);refine ar [] ?_ ?_;and_intros;all_goals try exact ak
     ·have g2:decide (q * y0>4294967296 * r+d1)=false:=decide_eq_false c2;have hq2:q=(t * 4294967296+d1) / Y:=by rw [← eY];exact (sQ P1 I (by omega)).1
      repeat' (first|refine aj (And.intro g1 g2) ?_|refine aC ?_)
      refine tl _ ?_;rw [← hq2];refine ar [] ?_ ?_;and_intros;all_goals try exact ak
end Go.Proofs.YtdjmpacladhijaaGreatDoor
