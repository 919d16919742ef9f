/- Part of the proof: U5, U6, W5, W7, WB, WC. -/
import Derived.Test.YtmfblbbemekkoaaGreatDoorK16
set_option linter.unusedSimpArgs false
set_option linter.unusedVariables false
set_option maxHeartbeats 2000000
set_option maxRecDepth 16000
namespace Go.Proofs.YtmfblbbemekkoaaGreatDoor
open Go Go.SL
open Go.RowKit (wrap64)
def mb (x:Ex):List PV:=[.val (.int .u64 (x.p / 18446744073709551616)), .val (.int .u64 (x.p % 18446744073709551616)), .val (.int .u64 x.q), .val (.int .u64 x.r), .val (.int .u64 x.d)]
attribute [local go_sem] qE mb
structure ExS (x:Ex):Prop where
 p0:0≤x.p
 p1:x.p<79228162514264337593543950336
 q0:0≤x.q
 q1:x.q<140737488355328
 r0:0≤x.r
 r1:x.r<8589934592
 d0:0≤x.d
 d1:x.d<18446744073709551616
theorem sG {x:Ex} (h:ExS x):0≤x.q * x.q∧x.q * x.q<340282366920938463463374607431768211456∧0≤x.q * x.q * x.r∧x.q * x.q * x.r<340282366920938463463374607431768211456:=by
 obtain ⟨p0,p1,q0,q1,r0,r1,d0,d1⟩:=h
 have h1:0≤x.q * x.q:=aq q0 q0
 have h2:x.q * x.q≤140737488355327 * 140737488355327:=aw (by omega) (by omega) q0 (by omega)
 have h3:x.q * x.q * x.r≤140737488355327 * 140737488355327 * 8589934591:=aw h2 (by omega) r0 (by omega)
 exact ⟨h1,by omega,aq h1 r0,by omega⟩
def tU (x:Ex) (n:Int):Int:=if n / 18446744073709551616>0 then -1 else jn (x.q * x.q * x.r) (n % 18446744073709551616 * (n % 18446744073709551616))
theorem Gg {x:Ex} {n:Int} (h:ExS x) (hn:0≤n):(0≤tU x n)↔n * n≤x.q * x.q * x.r:=by
 have hs:=sG h
 unfold tU
 split
 ·rename_i q
  have:18446744073709551616 * 18446744073709551616≤n * n:=aw (by omega) (by omega) (by omega) (by omega)
  omega
 ·rename_i q
  rw [show n % 18446744073709551616=n by omega]
  unfold jn
  split
  ·omega
  ·split <;> omega
end Go.Proofs.YtmfblbbemekkoaaGreatDoor
set_option maxHeartbeats 2000000
set_option maxRecDepth 16000
namespace Go.Proofs.YtmfblbbemekkoaaGreatDoor
open Go Go.SL
open Go.RowKit (wrap64)
attribute [local go_sem] qE mb
theorem FS {n:Int} {k:Nat} (h0:0≤n) (hk:k<64) (hm:n % 2 ^ (k+1)=0) (h:n+2 ^ k<18446744073709551616):Ji .u64 n (2 ^ k)=n+2 ^ k:=by
 obtain ⟨m,rfl⟩:=Int.eq_ofNat_of_zero_le h0
 have p:((2:Int) ^ k)=((2 ^ k:Nat):Int):=by simp
 have p1:((2:Int) ^ (k+1))=((2 ^ (k+1):Nat):Int):=by simp
 rw [p] at h ⊢
 rw [p1] at hm
 have hlt:m+2 ^ k<18446744073709551616:=by omega
 have hm':m % 2 ^ (k+1)=0:=by omega
 show IntKind.u64.wrap (BitVec.ofInt 64 (m:Int) ||| BitVec.ofInt 64 ((2 ^ k:Nat):Int)).toNat=_
 rw [BitVec.toNat_or,BitVec.toNat_ofInt,BitVec.toNat_ofInt]
 have e1:((m:Int) % ((2 ^ 64:Nat):Int)).toNat=m:=by omega
 have e2:(((2 ^ k:Nat):Int) % ((2 ^ 64:Nat):Int)).toNat=2 ^ k:=by omega
 rw [e1,e2]
 have e3:m ||| 2 ^ k=m+2 ^ k:=by
  have h1:2 ^ (k+1) * (m / 2 ^ (k+1))=m:=by have:=Nat.div_add_mod m (2 ^ (k+1));omega
  have:=Nat.two_pow_add_eq_or_of_lt (b:=2 ^ k) (i:=k+1) (Nat.pow_lt_pow_right (by decide) (by omega)) (m / 2 ^ (k+1))
  rw [h1] at this
  exact this.symm
 rw [e3,ml (by omega) (by omega)]
 omega
end Go.Proofs.YtmfblbbemekkoaaGreatDoor
set_option maxHeartbeats 2000000
set_option maxRecDepth 16000
namespace Go.Proofs.YtmfblbbemekkoaaGreatDoor
open Go Go.SL
open Go.RowKit (wrap64)
attribute [local go_sem] qE
theorem Ll (n:Int) (h:Q64 n):aD Sg 254 [bN n] (fun r=>r = .b (ag (qE n))):=by
 obtain ⟨h0,h1⟩:=h
 refine aC Tryz.func254 [.cell 2 260] ?_
 repeat' (first|(refine ai (fun K hK => ?_);and_intros;all_goals first|(refine hK _ ?_;clear hK K)|try exact aa)|(refine an ?_;(try clear hB KB);(try clear hK K)))
 rw [show n / 18446744073709551616=0 by omega,show n % 18446744073709551616=n by omega]
 rfl
theorem gx (a b:Int) (ha:Q64 a) (hb:Q64 b):aD Sg 243 [bN a,bN b] (fun r=>r = .b (ag (qE (a * b)))):=by
 have h:=ri a b ha.l ha.u hb.l hb.u
 refine aC Tryz.func243 [.cell 4 260] ?_
 repeat' (first|((first|refine ai (fun K hK => ?_)|refine ae (h) ?_);and_intros;all_goals first|(refine hK _ ?_;clear hK K)|try exact aa)|(refine an ?_;(try clear hB KB);(try clear hK K)))
 rfl
theorem nf (x y:Int) (hx:0≤x) (hy:0≤y) (h:x+y<340282366920938463463374607431768211456):aD Sg 242 [ag (qE x),ag (qE y)] (fun r=>r = .tup [ag (qE (x+y)),B true]):=by
 have qx:=vy (n:=x) ⟨hx,by omega⟩
 have qy:=vy (n:=y) ⟨hy,by omega⟩
 have h1:=zy (x % 18446744073709551616) (y % 18446744073709551616) 0 qx.2 qy.2 ⟨by decide,by decide⟩
 have h2:=zy (x / 18446744073709551616) (y / 18446744073709551616) ((x % 18446744073709551616+y % 18446744073709551616+0) / 18446744073709551616) qx.1 qy.1 ⟨by omega,by omega⟩
 refine aC Tryz.func242 [.cell 4 260, .tmp 5] ?_
 repeat' (first|refine ak ?_|((first|refine ai (fun K hK => ?_)|refine nY (h1) ?_|refine nY (h2) ?_);and_intros;all_goals first|(refine hK _ ?_;clear hK K)|try exact aa)|(refine bc (fun hb => ?_) (fun hb => ?_);all_goals try exact aJ)|(refine an ?_;(try clear hB KB);(try clear hK K)))
 rw [show (x / 18446744073709551616 + y / 18446744073709551616 + (x % 18446744073709551616 + y % 18446744073709551616 + 0) / 18446744073709551616) % 18446744073709551616 = (x + y) / 18446744073709551616 by clear h1 h2; omega,
   show (x % 18446744073709551616+y % 18446744073709551616+0) % 18446744073709551616=(x+y) % 18446744073709551616 by clear h1 h2;omega]
 rfl
theorem HT (x y:Int) (hx:Q128 x) (hy:Q128 y) (h:y≤x):aD Sg 259 [ag (qE x),ag (qE y)] (fun r=>r = .tup [ag (qE (x - y)),B true]):=by
 have qx:=vy hx
 have qy:=vy hy
 have h1:=pH (x % 18446744073709551616) (y % 18446744073709551616) 0 qx.2 qy.2 ⟨by decide,by decide⟩
 have h2:=pH (x / 18446744073709551616) (y / 18446744073709551616) (if x % 18446744073709551616<y % 18446744073709551616+0 then 1 else 0) qx.1 qy.1 ⟨by split <;> decide,by split <;> decide⟩
 have hx1:=hx.u
 have hy0:=hy.l
 refine aC Tryz.func259 [.cell 4 260, .tmp 5] ?_
 repeat' (first|refine ak ?_|((first|refine ai (fun K hK => ?_)|refine nY (h1) ?_|refine nY (h2) ?_);and_intros;all_goals first|(refine hK _ ?_;clear hK K)|try exact aa)|(refine bc (fun hb => ?_) (fun hb => ?_);all_goals try exact aJ)|(refine an ?_;(try clear hB KB);(try clear hK K)))
 rw [show (x / 18446744073709551616 + 18446744073709551616 - y / 18446744073709551616 - if x % 18446744073709551616 < y % 18446744073709551616 + 0 then 1 else 0) % 18446744073709551616 = (x - y) / 18446744073709551616 by clear h1 h2; split <;> omega,
   show (x % 18446744073709551616+18446744073709551616 - y % 18446744073709551616 - 0) % 18446744073709551616=(x - y) % 18446744073709551616 by clear h1 h2;omega]
 rfl
theorem Hr (x y:Int) (hx:Q128 x) (hy:Q128 y) (h:x<y):aD Sg 259 [ag (qE x),ag (qE y)] (fun r=>r = .tup [ag (qE 0),B false]):=by
 have qx:=vy hx
 have qy:=vy hy
 have h1:=pH (x % 18446744073709551616) (y % 18446744073709551616) 0 qx.2 qy.2 ⟨by decide,by decide⟩
 have h2:=pH (x / 18446744073709551616) (y / 18446744073709551616) (if x % 18446744073709551616<y % 18446744073709551616+0 then 1 else 0) qx.1 qy.1 ⟨by split <;> decide,by split <;> decide⟩
 refine aC Tryz.func259 [.cell 4 260, .tmp 5] ?_
 repeat' (first|refine ak ?_|((first|refine ai (fun K hK => ?_)|refine nY (h1) ?_|refine nY (h2) ?_);and_intros;all_goals first|(refine hK _ ?_;clear hK K)|try exact aa)|(refine bc (fun hb => ?_) (fun hb => ?_);all_goals try exact aJ)|(refine an ?_;(try clear hB KB);(try clear hK K)))
 rfl
theorem Df (x:Int):aD Sg 271 [bN x] (fun r=>r = .b (B false)):=by
 refine aC Tryz.func271 [.tmp 2] ?_
 repeat' (first|(refine ai (fun K hK => ?_);and_intros;all_goals first|(refine hK _ ?_;clear hK K)|try exact aa)|(refine an ?_;(try clear hB KB);(try clear hK K)))
 rw [bne_self_eq_false]
theorem zH (x y:Int):aD Sg 269 [bN x,bN y] (fun r=>r = .b (I (jn x y))):=by
 have h1:=Df x
 have h2:=Df y
 have ht:True:=trivial
 refine aC Tryz.func269 [.tmp 4] ?_
 repeat' (first|refine aj ht ?_|refine ak ?_|((first|refine ai (fun K hK => ?_)|refine ae (h1) ?_|refine ae (h2) ?_);and_intros;all_goals first|(refine hK _ ?_;clear hK K)|try exact aa)|(refine bc (fun hb => ?_) (fun hb => ?_);all_goals try exact aJ)|(refine an ?_;(try clear hB KB);(try clear hK K)))
 ·rw [jn,if_neg (by omega),if_pos (by omega)]
 ·rw [jn,if_neg (by omega),if_neg (by omega)]
 ·rw [jn,if_pos (by omega)]
theorem Kk (a b:Int):aD Sg 268 [.c (.p (.lst 1 2 (fun i _=>PI (if i=0 then a else b))))] (fun r=>r = .b (I (if a=0 then b else a))):=by
 have ht:True:=trivial
 refine aC Tryz.func268 [.tmp 2] ?_
 repeat' (first|refine ak ?_|(refine ai (fun K hK => ?_);and_intros;all_goals first|(refine hK _ ?_;clear hK K)|try exact aa))
 refine aS (X:=Nat) (fun i=>aZ [(3, .b (I 0)),(6, .b (.c (.p (.lst 1 2 (fun i _=>PI (if i=0 then a else b)))))),(7, .b (I 2)),(8, .b (I i))] [] 1) (fun i=>i≤2∧(0<i→a=0)∧(1<i→b=0)) (fun i=>2 - i) 0 ?_ ?_ ?_
 ·exact ⟨by omega,fun h=>absurd h (by omega),fun h=>absurd h (by omega)⟩
 ·refine ay [] ?_ ?_
  and_intros
  all_goals first|exact ao|skip
 ·rintro i ⟨i2,ia,ib⟩
  have hv:i=0∨i=1∨i=2:=by omega
  rcases hv with rfl|rfl|rfl
  ·repeat' (first|refine ak ?_|(refine ai (fun K hK => ?_);and_intros;all_goals first|(refine hK _ ?_;clear hK K)|try exact aa)|(refine bc (fun hb => ?_) (fun hb => ?_);all_goals try exact aJ)|(refine an ?_;(try clear hB KB);(try clear hK K)))
   ·have hb':¬ a=0:=hb
    exact congrArg (fun v=>SV.b (I v)) (if_neg hb').symm
   ·have hb':a=0:=hb
    rw [ah]
    refine au 1 ?_ ⟨by omega,fun _=>hb',fun h=>absurd h (by omega)⟩ (by omega)
    refine ay [] ?_ ?_
    and_intros
    all_goals first|exact ao|skip
  ·have a0:=ia (by decide)
   repeat' (first|refine ak ?_|(refine ai (fun K hK => ?_);and_intros;all_goals first|(refine hK _ ?_;clear hK K)|try exact aa)|(refine bc (fun hb => ?_) (fun hb => ?_);all_goals try exact aJ)|(refine an ?_;(try clear hB KB);(try clear hK K)))
   ·exact congrArg (fun v=>SV.b (I v)) (if_pos a0).symm
   ·have hb':b=0:=hb
    rw [ah]
    refine au 2 ?_ ⟨by omega,fun _=>a0,fun _=>hb'⟩ (by omega)
    refine ay [] ?_ ?_
    and_intros
    all_goals first|exact ao|skip
  ·have a0:=ia (by decide)
   have b0:=ib (by decide)
   repeat' (first|refine ak ?_|(refine ai (fun K hK => ?_);and_intros;all_goals first|(refine hK _ ?_;clear hK K)|try exact aa)|(refine bc (fun hb => ?_) (fun hb => ?_);all_goals try exact aJ)|(refine an ?_;(try clear hB KB);(try clear hK K)))
   rw [if_pos a0,b0]
theorem GR {x y:Int}:(if jn (x / 18446744073709551616) (y / 18446744073709551616)=0 then jn (x % 18446744073709551616) (y % 18446744073709551616) else jn (x / 18446744073709551616) (y / 18446744073709551616))=jn x y:=by
 unfold jn
 repeat' split
 all_goals omega
theorem uX (x y:Int):aD Sg 261 [ag (qE x),ag (qE y)] (fun r=>r = .b (I (jn x y))):=by
 have ht:True:=trivial
 have h1:=zH (x / 18446744073709551616) (y / 18446744073709551616)
 have h2:=zH (x % 18446744073709551616) (y % 18446744073709551616)
 have h3:=Kk (jn (x / 18446744073709551616) (y / 18446744073709551616)) (jn (x % 18446744073709551616) (y % 18446744073709551616))
 rw [GR] at h3
 refine aC Tryz.func261 [.tmp 4] ?_
 repeat' (first|(((with_reducible refine cr (id:=1) [] (by decide +kernel) (by decide +kernel) ?_ (fun K hK => ?_));(first|(refine And.intro (fun iw hiw => ?_) ?_;(focus ((try simp (maxSteps:=999999)(disch:=omega) only [go_sem] at hiw ⊢);(repeat (refine Eq.trans (if_neg ?_) ?_;(focus omega)));exact hw iw (by omega)));(focus (first|exact Nat.zero_le _|(simp (maxSteps:=999999)(disch:=omega) only [go_sem];done)|(simp (maxSteps:=999999)(disch:=omega) only [go_sem];omega))))|exact eS));(try simp (maxSteps:=999999)(disch:=omega) only [go_sem]);and_intros;(all_goals first|(refine hK _ (by simp (maxSteps:=999999)(disch:=omega) only [go_sem]) ?_;clear hK K)|exact aa|skip))|((first|refine ai (fun K hK => ?_)|refine ae (h1) ?_|refine ae (h2) ?_);and_intros;all_goals first|(refine hK _ ?_;clear hK K)|try exact aa))
 refine jM ?_ ?_ (by simp (maxSteps:=999999)(disch:=omega) only [go_sem]) ?_ (h3)
 try simp (maxSteps:=999999)(disch:=omega) only [go_sem]
 try (refine hK _ ?_;clear hK K)
 ·refine hK _ (by simp (maxSteps:=999999)(disch:=omega) only [go_sem]) ?_
  clear hK
  repeat' (first|with_reducible exact cn|(refine an ?_;(try clear hB KB);(try clear hK K)))
 ·simp (maxSteps:=1000000) (disch:=omega) only [go_sem,fJ,iq]
  refine ql (mC fun i hi j hj => ?_)
  have:i=0∨i=1:=by omega
  have hj0:j=0:=by omega
  subst hj0
  rcases this with rfl|rfl <;> rfl
 ·trivial
end Go.Proofs.YtmfblbbemekkoaaGreatDoor
set_option maxHeartbeats 8000000
set_option maxRecDepth 16000
namespace Go.Proofs.YtmfblbbemekkoaaGreatDoor
open Go Go.SL
open Go.RowKit (wrap64)
theorem IT {y:Int} (h0:0<y) (h1:y<18446744073709551616):∃ s:Nat,(64:Int) - dp y.toNat=s∧s≤63∧9223372036854775808≤y * 2 ^ s∧y * 2 ^ s<18446744073709551616:=by
 obtain ⟨n,rfl⟩:=Int.eq_ofNat_of_zero_le (show 0≤y by omega)
 have hl:=zx (x:=(n:Int)) ⟨by omega,h1⟩
 rw [Int.toNat_natCast] at hl ⊢
 obtain ⟨b0,b1,b2⟩:=lD (n:=n) (by omega)
 generalize dp n=l at *
 refine ⟨64 - l,by omega,by omega, ?_, ?_⟩
 ·have:=Nat.mul_le_mul_right (2 ^ (64 - l)) b1
  rw [← Nat.pow_add,show l - 1+(64 - l)=63 by omega] at this
  have e:((n:Int) * 2 ^ (64 - l))=((n * 2 ^ (64 - l):Nat):Int):=by simp
  rw [e];omega
 ·have:=Nat.mul_lt_mul_of_pos_right b2 (show 0<2 ^ (64 - l) from Nat.pow_pos (by decide))
  rw [← Nat.pow_add,show l+(64 - l)=64 by omega] at this
  have e:((n:Int) * 2 ^ (64 - l))=((n * 2 ^ (64 - l):Nat):Int):=by simp
  rw [e];omega
theorem HG {a b:Int} {s:Nat} (ha:0≤a) (hm:a % 2 ^ s=0) (hb:0≤b) (qK:b<2 ^ s) (h:a+b<18446744073709551616):Ji .u64 a b=a+b:=by
 obtain ⟨m,rfl⟩:=Int.eq_ofNat_of_zero_le ha
 obtain ⟨n,rfl⟩:=Int.eq_ofNat_of_zero_le hb
 have p:((2:Int) ^ s)=((2 ^ s:Nat):Int):=by simp
 rw [p] at hm qK
 have hm':m % 2 ^ s=0:=by omega
 show IntKind.u64.wrap (BitVec.ofInt 64 (m:Int) ||| BitVec.ofInt 64 (n:Int)).toNat=_
 rw [BitVec.toNat_or,BitVec.toNat_ofInt,BitVec.toNat_ofInt]
 have e1:((m:Int) % ((2 ^ 64:Nat):Int)).toNat=m:=by omega
 have e2:((n:Int) % ((2 ^ 64:Nat):Int)).toNat=n:=by omega
 rw [e1,e2]
 have e3:m ||| n=m+n:=by
  have h1:2 ^ s * (m / 2 ^ s)=m:=by have:=Nat.div_add_mod m (2 ^ s);omega
  have:=Nat.two_pow_add_eq_or_of_lt (b:=n) (i:=s) (by omega) (m / 2 ^ s)
  rw [h1] at this
  exact this.symm
 rw [e3,ml (by omega) (by omega)]
 omega
theorem El {a:Int} (h0:0≤a) (h1:a<18446744073709551616):yC .u64 a 4294967295=a % 4294967296:=by
 obtain ⟨n,rfl⟩:=Int.eq_ofNat_of_zero_le h0
 have e:(BitVec.ofInt 64 (n:Int)).toNat=n:=by
  rw [BitVec.toNat_ofInt];omega
 show IntKind.u64.wrap (BitVec.ofInt 64 (n:Int) &&& BitVec.ofInt 64 4294967295).toNat=_
 rw [BitVec.toNat_and,e,show (BitVec.ofInt 64 4294967295).toNat=2 ^ 32 - 1 by decide,Nat.and_two_pow_sub_one_eq_mod,ml (by omega) (by omega)]
 omega
theorem Kt {hi lo : Int} {s : Nat} (hh : 0 ≤ hi) (l0 : 0 ≤ lo) (l1 : lo < 18446744073709551616) (s63 : s ≤ 63) (hb : hi * 2 ^ s < 18446744073709551616 - 2 ^ s + 1) :
  Ji .u64 (hi * 2 ^ s) (lo.fdiv (2 ^ (64 - s)))=(hi * 18446744073709551616+lo) * 2 ^ s / 18446744073709551616∧lo * 2 ^ s % 18446744073709551616=(hi * 18446744073709551616+lo) * 2 ^ s % 18446744073709551616:=by
 have hk:(0:Int)<2 ^ s:=Int.pow_pos (by decide)
 have hj:(0:Int)<2 ^ (64 - s):=Int.pow_pos (by decide)
 have hkj:(2:Int) ^ (64 - s) * 2 ^ s=18446744073709551616:=by
  rw [← Int.pow_add,show 64 - s+s=64 by omega];rfl
 have h1:(hi * 18446744073709551616+lo) * 2 ^ s=hi * 2 ^ s * 18446744073709551616+lo * 2 ^ s:=by
  rw [Int.add_mul,Int.mul_right_comm]
 have h2:lo * 2 ^ s / 18446744073709551616=lo / 2 ^ (64 - s):=by
  rw [← hkj,Int.mul_ediv_mul_of_pos_left _ _ hk]
 have h3:0≤lo / 2 ^ (64 - s):=Int.ediv_nonneg l0 (by omega)
 have h4:lo / 2 ^ (64 - s)<2 ^ s:=by
  rw [Int.ediv_lt_iff_lt_mul hj,Int.mul_comm,hkj];exact l1
 rw [h1]
 constructor
 ·rw [Int.fdiv_eq_ediv_of_nonneg _ (by omega),HG (s:=s) (aq hh (by omega)) (Int.mul_emod_left _ _) h3 h4 (by omega),← h2]
  generalize lo * 2 ^ s=b
  generalize hi * 2 ^ s=a
  omega
 ·generalize lo * 2 ^ s=b
  generalize hi * 2 ^ s=a
  omega
theorem QS {a b c:Int} (h0:0≤a+b - c) (h1:a+b - c<18446744073709551616):IntKind.u64.wrap (IntKind.u64.wrap (IntKind.u64.wrap a+b) - IntKind.u64.wrap c)=a+b - c:=by
 rw [mU,mU,mU,mU];omega
theorem FF (hi lo y : Int) (hh : 0 ≤ hi) (hy : hi < y) (hyu : y < 18446744073709551616) (hlo : Q64 lo) :
  aD Sg 267 [bN hi,bN lo,bN y] (fun r=>r = .tup [bN ((hi * 18446744073709551616+lo) / y),bN ((hi * 18446744073709551616+lo) % y)]):=by
 obtain ⟨l0,l1⟩:=hlo
 have g1:(y == 0)=false:=beq_eq_false_iff_ne.2 (by omega)
 have g2:decide (y≤hi)=false:=decide_eq_false (by omega)
 by_cases hz:hi=0
 ·subst hz
  have g3:((0:Int) == 0)=true:=rfl
  refine aC Tryz.func267 [.tmp 6, .tmp 7] ?_
  repeat' (first|refine aj (And.intro g1 (And.intro g2 g3)) ?_|refine ak ?_|(refine ai (fun K hK => ?_);and_intros;all_goals first|(refine hK _ ?_;clear hK K)|try exact aa)|(refine an ?_;(try clear hB KB);(try clear hK K)))
  have h3:0≤lo / y:=Int.ediv_nonneg l0 (by omega)
  have h4:lo / y≤lo:=Int.ediv_le_self _ l0
  rw [Int.zero_mul,Int.zero_add,wq (lo / y) ⟨h3,by omega⟩]
 ·have g3:(hi == 0)=false:=beq_eq_false_iff_ne.2 hz
  obtain ⟨s,es,s63,Y0,Y1⟩:=IT (y:=y) (by omega) hyu
  have hl:=FQ y ⟨by omega,hyu⟩
  rw [es] at hl
  have hk:(0:Int)<2 ^ s:=Int.pow_pos (by decide)
  have hb:hi * 2 ^ s<18446744073709551616 - 2 ^ s+1:=by
   have:=Int.mul_le_mul_of_nonneg_right (show hi+1≤y by omega) (Int.le_of_lt hk)
   rw [Int.add_mul,Int.one_mul] at this
   omega
  have hT:=Kt hh l0 l1 s63 hb
  have hh2:0≤hi * 2 ^ s:=aq hh (by omega)
  have hs1:min (s:Int).toNat 64=s:=by omega
  have hs2:min ((64:Int) - s).toNat 64=64 - s:=by omega
  have hUY:(hi * 18446744073709551616+lo) * 2 ^ s / 18446744073709551616<y * 2 ^ s:=by
   have h1:=Int.mul_le_mul_of_nonneg_right (show hi+1≤y by omega) (Int.le_of_lt hk)
   have h2:(hi * 18446744073709551616+lo) * 2 ^ s<(hi+1) * 2 ^ s * 18446744073709551616:=by
    have:=Int.mul_lt_mul_of_pos_right (show hi * 18446744073709551616+lo<(hi+1) * 18446744073709551616 by omega) hk
    rwa [Int.mul_right_comm (hi+1)] at this
   generalize (hi * 18446744073709551616+lo) * 2 ^ s=U at *
   omega
  obtain ⟨hd1,hd2⟩:=AH (a:=hi * 18446744073709551616+lo) (y:=y) (k:=2 ^ s) hk (by omega)
  have hU0:0≤(hi * 18446744073709551616+lo) * 2 ^ s:=aq (by omega) (by omega)
  have hw1:IntKind.u64.wrap (lo * 2 ^ s)=(hi * 18446744073709551616+lo) * 2 ^ s % 18446744073709551616:=by
   rw [← hT.2];simp only [IntKind.wrap,IntKind.bits,IntKind.signed];simp
  rw [← hd1]
  have hrem:(hi * 18446744073709551616+lo) % y=(hi * 18446744073709551616+lo) * 2 ^ s % (y * 2 ^ s) / 2 ^ s:=by
   rw [hd2,Int.mul_ediv_cancel _ (by omega)]
  rw [hrem]
  refine aC Tryz.func267 [.tmp 6, .tmp 7] ?_
  repeat' (first|refine aj (And.intro g1 (And.intro g2 g3)) ?_|refine ak ?_|((with_reducible refine aT (id:=14) (fun K hW => ?_));(try simp (maxSteps:=999999)(disch:=omega) only [go_sem]);and_intros;all_goals first|(refine hK _ ?_;clear hK K)|try exact aa)|((first|refine ai (fun K hK => ?_)|refine ae (hl) ?_);and_intros;all_goals first|(refine hK _ ?_;clear hK K)|try exact aa))
  refine hW _ (aZ [(2, .b (bN (y * 2 ^ s))),(8, .b (bN s)),(9, .b (bN (y * 2 ^ s / 4294967296))),(10, .b (bN (y * 2 ^ s % 4294967296))),(11, .b (bN ((hi * 18446744073709551616+lo) * 2 ^ s / 18446744073709551616))),
   (13, .b (bN ((hi * 18446744073709551616+lo) * 2 ^ s % 18446744073709551616 / 4294967296))),(14, .b (bN ((hi * 18446744073709551616+lo) * 2 ^ s % 18446744073709551616 % 4294967296)))] [] 1) ?_ ?_
  ·have hy2:IntKind.u64.wrap (y * 2 ^ s)=y * 2 ^ s:=wq _ ⟨by omega,Y1⟩
   have hh3:IntKind.u64.wrap (hi * 2 ^ s)=hi * 2 ^ s:=wq _ ⟨hh2,by omega⟩
   refine ay [] ?_ ?_
   and_intros
   all_goals first|exact ao|skip
   ·exact .inl (by rw [hs1,hy2])
   ·exact .inl (by rw [hs1,hy2,JD])
   ·exact .inl (by rw [hs1,hy2,El (by omega) Y1])
   ·exact .inl (by rw [hs1,hs2,hh3,hT.1])
   ·exact .inl (by rw [hs1,hw1,JD])
   ·exact .inl (by rw [hs1,hw1,El (by omega) (by omega)])
  clear hW hw1 hT hrem hd1 hd2 hl
  generalize (hi * 18446744073709551616+lo) * 2 ^ s=U at *
  generalize y * 2 ^ s=Y at *
  clear hb hh2
  obtain ⟨y1,e1⟩:∃ y1,y1=Y / 4294967296:=⟨_,rfl⟩
  obtain ⟨y0,e0⟩:∃ y0,y0=Y % 4294967296:=⟨_,rfl⟩
  obtain ⟨t,et⟩:∃ t,t=U / 18446744073709551616:=⟨_,rfl⟩
  obtain ⟨d1,f1⟩:∃ d1,d1=U % 18446744073709551616 / 4294967296:=⟨_,rfl⟩
  obtain ⟨d0,f0⟩:∃ d0,d0=U % 18446744073709551616 % 4294967296:=⟨_,rfl⟩
  rw [← e1,← e0,← et,← f1,← f0]
  have eY:y1 * 4294967296+y0=Y:=by omega
  have eU:U=t * 18446744073709551616+(d1 * 4294967296+d0):=by omega
  have P1:DigP t d1 y1 y0:=⟨by omega,by omega,by omega,by omega,by omega,by omega,by omega,by omega⟩
  have I1:=tQ P1
  have z1:(y1 == 0)=false:=beq_eq_false_iff_ne.2 (by omega)
  have hq:=I1.q0
  have hr:=I1.r0
  have hqb:=vD P1 I1
  have hr1:t - t / y1 * y1<4294967296:=by
   have:=Int.emod_lt_of_pos t (show 0<y1 by omega)
   have h2:=Int.mul_ediv_add_emod t y1
   rw [Int.mul_comm] at h2
   omega
  have hqy:0≤t / y1 * y1:=aq hq (by omega)
  repeat' (first|((with_reducible refine aT (id:=16) (fun K hW => ?_));(try simp (maxSteps:=999999)(disch:=omega) only [go_sem]);and_intros;all_goals first|(refine hK _ ?_;clear hK K)|try exact aa)|(refine ai (fun K hK => ?_);and_intros;all_goals first|(refine hK _ ?_;clear hK K)|try exact aa))
  refine hW _ (aZ [(2, .b (bN Y)),(8, .b (bN s)),(9, .b (bN y1)),(10, .b (bN y0)),(11, .b (bN t)),(13, .b (bN d1)),(14, .b (bN d0)),(15, .b (bN (t / y1))),(16, .b (bN (t - t / y1 * y1)))] [] 1) ?_ ?_
  ·refine ay [] ?_ ?_
   and_intros
   all_goals first|exact ao|skip
  clear hW
  refine jZ fun KB hV => ?_
  have tl:∀ st,Le st (aZ [(2, .b (bN Y)),(8, .b (bN s)),(9, .b (bN y1)),(10, .b (bN y0)),(11, .b (bN t)),(13, .b (bN d1)),(14, .b (bN d0)),(15, .b (bN ((t * 4294967296+d1) / Y)))] [] 1)→KB st:=fun st hl=>hV st _ hl ?_
  rotate_left
  ·clear hV
   have hYp:0<Y:=by omega
   obtain ⟨Q,eQ⟩:∃ Q,Q=(t * 4294967296+d1) / Y:=⟨_,rfl⟩
   obtain ⟨u,eu⟩:∃ u,u=(t * 4294967296+d1) % Y:=⟨_,rfl⟩
   rw [← eQ]
   have h1:=Int.mul_ediv_add_emod (t * 4294967296+d1) Y
   rw [← eQ,← eu,Int.mul_comm] at h1
   have u0:0≤u:=by rw [eu];exact Int.emod_nonneg _ (by omega)
   have u1:u<Y:=by rw [eu];exact Int.emod_lt_of_pos _ hYp
   have Q0:0≤Q:=by rw [eQ];exact Int.ediv_nonneg (by omega) (by omega)
   have Q1:Q<4294967296:=by rw [eQ];exact (Int.ediv_lt_iff_lt_mul hYp).2 (by omega)
   have hw:=QS (a:=t * 4294967296) (b:=d1) (c:=Q * Y) (by omega) (by omega)
   rw [show t * 4294967296+d1 - Q * Y=u by omega] at hw
   have P2:DigP u d0 y1 y0:=⟨by omega,by omega,by omega,by omega,by omega,by omega,by omega,by omega⟩
   have I2:=tQ P2
   have hq2:=I2.q0
   have hr20:=I2.r0
   have hqb2:=vD P2 I2
   have hr2:u - u / y1 * y1<4294967296:=by
    have:=Int.emod_lt_of_pos u (show 0<y1 by omega)
    have h2:=Int.mul_ediv_add_emod u y1
    rw [Int.mul_comm] at h2
    omega
   have hqy2:0≤u / y1 * y1:=aq hq2 (by omega)
   repeat' ((with_reducible refine aT (id:=21) (fun K hW => ?_));(try simp (maxSteps:=999999)(disch:=omega) only [go_sem]);and_intros;all_goals first|(refine hK _ ?_;clear hK K)|try exact aa)
   refine hW _ (aZ [(2, .b (bN Y)),(8, .b (bN s)),(9, .b (bN y1)),(10, .b (bN y0)),(14, .b (bN d0)),(15, .b (bN Q)),(17, .b (bN u))] [] 1) ?_ ?_
   ·refine ay [] ?_ ?_
    and_intros
    all_goals first|exact ao|skip
    exact .inl (by rw [hw])
   clear hW
   repeat' (first|((with_reducible refine aT (id:=23) (fun K hW => ?_));(try simp (maxSteps:=999999)(disch:=omega) only [go_sem]);and_intros;all_goals first|(refine hK _ ?_;clear hK K)|try exact aa)|(refine ai (fun K hK => ?_);and_intros;all_goals first|(refine hK _ ?_;clear hK K)|try exact aa))
   refine hW _ (aZ [(2, .b (bN Y)),(8, .b (bN s)),(9, .b (bN y1)),(10, .b (bN y0)),(14, .b (bN d0)),(15, .b (bN Q)),(17, .b (bN u)),(18, .b (bN (u / y1))),(16, .b (bN (u - u / y1 * y1)))] [] 1) ?_ ?_
   ·refine ay [] ?_ ?_
    and_intros
    all_goals first|exact ao|skip
   clear hW
   refine jZ fun KB2 hV2 => ?_
   have tl2:∀ st,Le st (aZ [(2, .b (bN Y)),(8, .b (bN s)),(14, .b (bN d0)),(15, .b (bN Q)),(17, .b (bN u)),(18, .b (bN ((u * 4294967296+d0) / Y)))] [] 1)→KB2 st:=fun st hl=>hV2 st _ hl ?_
   rotate_left
   ·clear hV2
    obtain ⟨D,eD⟩:∃ D,D=(u * 4294967296+d0) / Y:=⟨_,rfl⟩
    have td:=zn (t:=t) (a:=d1) (b:=d0) hYp eQ eu eD ⟨by omega,by omega⟩
    rw [← eU] at td
    rw [← eD]
    have D0:0≤D:=by rw [eD];exact Int.ediv_nonneg (by omega) (by omega)
    have D1:D<4294967296:=by rw [eD];exact (Int.ediv_lt_iff_lt_mul hYp).2 (by omega)
    have h2:=Int.mul_ediv_add_emod (u * 4294967296+d0) Y
    rw [← eD,Int.mul_comm,td.2] at h2
    have v0:0≤U % Y:=Int.emod_nonneg _ (by omega)
    have v1:U % Y<Y:=Int.emod_lt_of_pos _ hYp
    have hw2:=QS (a:=u * 4294967296) (b:=d0) (c:=D * Y) (by omega) (by omega)
    rw [show u * 4294967296+d0 - D * Y=U % Y by omega] at hw2
    repeat' (first|(refine ai (fun K hK => ?_);and_intros;all_goals first|(refine hK _ ?_;clear hK K)|try exact aa)|(refine an ?_;(try clear hB KB);(try clear hK K)))
    rw [hw2,td.1,hs1,Int.fdiv_eq_ediv_of_nonneg _ (by omega)]
   ·clear hV2
    refine aS (X:=Int × Int) (fun x=>aZ [(2, .b (bN Y)),(8, .b (bN s)),(9, .b (bN y1)),(10, .b (bN y0)),(14, .b (bN d0)),(15, .b (bN Q)),(17, .b (bN u)),(18, .b (bN x.1)),(16, .b (bN x.2))] [] 1) (fun x=>DigI u d0 y1 y0 x.1 x.2∧x.2<4294967296) (fun x=>x.1.toNat) (u / y1,u - u / y1 * y1) ?_ ?_ ?_
    ·exact ⟨I2,hr2⟩
    ·refine ay [] ?_ ?_
     and_intros
     all_goals first|exact ao|skip
    ·rintro ⟨q,r⟩ ⟨I,rB⟩
     dsimp only at I rB ⊢
     have q0:=I.q0
     have r0:=I.r0
     have hqb:=vD P2 I
     by_cases c1:q≥4294967296
     ·have g1:decide (q≥4294967296)=true:=decide_eq_true c1
      have J:=mI P2 I (.inl c1)
      have q1:=J.q0
      by_cases c3:r+y1≥4294967296
      ·have g3:decide (r+y1≥4294967296)=true:=decide_eq_true c3
       have hq2:q - 1=(u * 4294967296+d0) / Y:=by rw [← eY];exact (lh P2 J (lR P2 J c3)).1
       repeat' (first|refine aj (And.intro g1 g3) ?_|refine ak ?_|(refine ai (fun K hK => ?_);and_intros;all_goals first|(refine hK _ ?_;clear hK K)|try exact aa))
       refine tl2 _ ?_
       rw [← hq2]
       refine ay [] ?_ ?_
       and_intros
       all_goals first|exact ao|skip
      ·have g3:decide (r+y1≥4294967296)=false:=decide_eq_false c3
       repeat' (first|refine aj (And.intro g1 g3) ?_|refine ak ?_|(refine ai (fun K hK => ?_);and_intros;all_goals first|(refine hK _ ?_;clear hK K)|try exact aa))
       refine au (q - 1,r+y1) ?_ ⟨J,by dsimp only;omega⟩ (by dsimp only;omega)
       refine ay [] ?_ ?_
       and_intros
       all_goals first|exact ao|skip
     ·have g1:decide (q≥4294967296)=false:=decide_eq_false c1
      have m0:0≤q * y0∧q * y0≤4294967295 * 4294967295:=⟨Int.mul_nonneg q0 (by omega),Int.mul_le_mul (by omega) (by omega) (by omega) (by omega)⟩
      by_cases c2:q * y0>4294967296 * r+d0
      ·have g2:decide (q * y0>4294967296 * r+d0)=true:=decide_eq_true c2
       have J:=mI P2 I (.inr c2)
       have q1:=J.q0
       by_cases c3:r+y1≥4294967296
       ·have g3:decide (r+y1≥4294967296)=true:=decide_eq_true c3
        have hq2:q - 1=(u * 4294967296+d0) / Y:=by rw [← eY];exact (lh P2 J (lR P2 J c3)).1
        repeat' (first|refine aj (And.intro g1 (And.intro g2 g3)) ?_|refine ak ?_|(refine ai (fun K hK => ?_);and_intros;all_goals first|(refine hK _ ?_;clear hK K)|try exact aa))
        refine tl2 _ ?_
        rw [← hq2]
        refine ay [] ?_ ?_
        and_intros
        all_goals first|exact ao|skip
       ·have g3:decide (r+y1≥4294967296)=false:=decide_eq_false c3
        repeat' (first|refine aj (And.intro g1 (And.intro g2 g3)) ?_|refine ak ?_|(refine ai (fun K hK => ?_);and_intros;all_goals first|(refine hK _ ?_;clear hK K)|try exact aa))
        refine au (q - 1,r+y1) ?_ ⟨J,by dsimp only;omega⟩ (by dsimp only;omega)
        refine ay [] ?_ ?_
        and_intros
        all_goals first|exact ao|skip
      ·have g2:decide (q * y0>4294967296 * r+d0)=false:=decide_eq_false c2
       have hq2:q=(u * 4294967296+d0) / Y:=by rw [← eY];exact (lh P2 I (by omega)).1
       repeat' (first|refine aj (And.intro g1 g2) ?_|refine ak ?_|(refine ai (fun K hK => ?_);and_intros;all_goals first|(refine hK _ ?_;clear hK K)|try exact aa))
       refine tl2 _ ?_
       rw [← hq2]
       refine ay [] ?_ ?_
       and_intros
       all_goals first|exact ao|skip
  ·clear hV
   refine aS (X:=Int × Int) (fun x=>aZ [(2, .b (bN Y)),(8, .b (bN s)),(9, .b (bN y1)),(10, .b (bN y0)),(11, .b (bN t)),(13, .b (bN d1)),(14, .b (bN d0)),(15, .b (bN x.1)),(16, .b (bN x.2))] [] 1) (fun x=>DigI t d1 y1 y0 x.1 x.2∧x.2<4294967296) (fun x=>x.1.toNat) (t / y1,t - t / y1 * y1) ?_ ?_ ?_
   ·exact ⟨I1,hr1⟩
   ·refine ay [] ?_ ?_
    and_intros
    all_goals first|exact ao|skip
   ·rintro ⟨q,r⟩ ⟨I,rB⟩
    dsimp only at I rB ⊢
    have q0:=I.q0
    have r0:=I.r0
    have hqb:=vD P1 I
    by_cases c1:q≥4294967296
    ·have g1:decide (q≥4294967296)=true:=decide_eq_true c1
     have J:=mI P1 I (.inl c1)
     have q1:=J.q0
     by_cases c3:r+y1≥4294967296
     ·have g3:decide (r+y1≥4294967296)=true:=decide_eq_true c3
      have hq2:q - 1=(t * 4294967296+d1) / Y:=by rw [← eY];exact (lh P1 J (lR P1 J c3)).1
      repeat' (first|refine aj (And.intro g1 g3) ?_|refine ak ?_|(refine ai (fun K hK => ?_);and_intros;all_goals first|(refine hK _ ?_;clear hK K)|try exact aa))
      refine tl _ ?_
      rw [← hq2]
      refine ay [] ?_ ?_
      and_intros
      all_goals first|exact ao|skip
     ·have g3:decide (r+y1≥4294967296)=false:=decide_eq_false c3
      repeat' (first|refine aj (And.intro g1 g3) ?_|refine ak ?_|(refine ai (fun K hK => ?_);and_intros;all_goals first|(refine hK _ ?_;clear hK K)|try exact aa))
      refine au (q - 1,r+y1) ?_ ⟨J,by dsimp only;omega⟩ (by dsimp only;omega)
      refine ay [] ?_ ?_
      and_intros
      all_goals first|exact ao|skip
    ·have g1:decide (q≥4294967296)=false:=decide_eq_false c1
     have m0:0≤q * y0∧q * y0≤4294967295 * 4294967295:=⟨Int.mul_nonneg q0 (by omega),Int.mul_le_mul (by omega) (by omega) (by omega) (by omega)⟩
     by_cases c2:q * y0>4294967296 * r+d1
     ·have g2:decide (q * y0>4294967296 * r+d1)=true:=decide_eq_true c2
      have J:=mI P1 I (.inr c2)
      have q1:=J.q0
      by_cases c3:r+y1≥4294967296
      ·have g3:decide (r+y1≥4294967296)=true:=decide_eq_true c3
       have hq2:q - 1=(t * 4294967296+d1) / Y:=by rw [← eY];exact (lh P1 J (lR P1 J c3)).1
       repeat' (first|refine aj (And.intro g1 (And.intro g2 g3)) ?_|refine ak ?_|(refine ai (fun K hK => ?_);and_intros;all_goals first|(refine hK _ ?_;clear hK K)|try exact aa))
       refine tl _ ?_
       rw [← hq2]
       refine ay [] ?_ ?_
       and_intros
       all_goals first|exact ao|skip
      ·have g3:decide (r+y1≥4294967296)=false:=decide_eq_false c3
       repeat' (first|refine aj (And.intro g1 (And.intro g2 g3)) ?_|refine ak ?_|(refine ai (fun K hK => ?_);and_intros;all_goals first|(refine hK _ ?_;clear hK K)|try exact aa))
       refine au (q - 1,r+y1) ?_ ⟨J,by dsimp only;omega⟩ (by dsimp only;omega)
       refine ay [] ?_ ?_
       and_intros
       all_goals first|exact ao|skip
     ·have g2:decide (q * y0>4294967296 * r+d1)=false:=decide_eq_false c2
      have hq2:q=(t * 4294967296+d1) / Y:=by rw [← eY];exact (lh P1 I (by omega)).1
      repeat' (first|refine aj (And.intro g1 g2) ?_|refine ak ?_|(refine ai (fun K hK => ?_);and_intros;all_goals first|(refine hK _ ?_;clear hK K)|try exact aa))
      refine tl _ ?_
      rw [← hq2]
      refine ay [] ?_ ?_
      and_intros
      all_goals first|exact ao|skip
end Go.Proofs.YtmfblbbemekkoaaGreatDoor
set_option maxHeartbeats 2000000
set_option maxRecDepth 16000
namespace Go.Proofs.YtmfblbbemekkoaaGreatDoor
open Go Go.SL
open Go.RowKit (wrap64)
def HY (f a m:Int):Int:=if f=1 then m else if f=2 then a else if f=3 then m - a else 0
def NU (h f g m:Int):Int:=if h=1 then f else if h=2 then g else if h=3 then bG (m * f+(m - f) * g) m else if h=4 then bG (f * g) m else 0
theorem Aq {op:Int} (h:1≤op∧op≤12):∃ nm fa fb sh,oN op=[.val (.string nm),PI fa,PI fb,PI sh]∧(∀ a b m,HY fa b m=jq op a b m∧HY fb a m=lT op a b m)∧∀ f g m,NU sh f g m=fj op f g m:=by
 have hv:op=1∨op=2∨op=3∨op=4∨op=5∨op=6∨op=7∨op=8∨op=9∨op=10∨op=11∨op=12:=by omega
 rcases hv with rfl|rfl|rfl|rfl|rfl|rfl|rfl|rfl|rfl|rfl|rfl|rfl <;> exact ⟨_,_,_,_,rfl,fun a b m=>⟨rfl,rfl⟩,fun f g m=>rfl⟩
theorem ug (f a m:Int) (ha:0≤a) (ham:a≤m) (hm:m≤65535):aD Sg 247 [I f,U a,U m] (fun r=>r = .b (U (HY f a m))):=by
 unfold HY
 refine aC Tryz.func247 [.tmp 6] ?_
 by_cases c1:f=1
 ·have g1:(f == 1)=true:=beq_iff_eq.2 c1
  rw [if_pos c1]
  repeat' (first|with_reducible exact cn|refine aj g1 ?_|refine ak ?_|(refine ai (fun K hK => ?_);and_intros;all_goals first|(refine hK _ ?_;clear hK K)|try exact aa)|(refine an ?_;(try clear hB KB);(try clear hK K)))
 have g1:(f == 1)=false:=beq_eq_false_iff_ne.2 c1
 rw [if_neg c1]
 by_cases c2:f=2
 ·have g2:(f == 2)=true:=beq_iff_eq.2 c2
  rw [if_pos c2]
  repeat' (first|with_reducible exact cn|refine aj (And.intro g1 g2) ?_|refine ak ?_|(refine ai (fun K hK => ?_);and_intros;all_goals first|(refine hK _ ?_;clear hK K)|try exact aa)|(refine an ?_;(try clear hB KB);(try clear hK K)))
 have g2:(f == 2)=false:=beq_eq_false_iff_ne.2 c2
 rw [if_neg c2]
 by_cases c3:f=3
 ·have g3:(f == 3)=true:=beq_iff_eq.2 c3
  rw [if_pos c3]
  repeat' (first|with_reducible exact cn|refine aj (And.intro g1 (And.intro g2 g3)) ?_|refine ak ?_|(refine ai (fun K hK => ?_);and_intros;all_goals first|(refine hK _ ?_;clear hK K)|try exact aa)|(refine an ?_;(try clear hB KB);(try clear hK K)))
 have g3:(f == 3)=false:=beq_eq_false_iff_ne.2 c3
 rw [if_neg c3]
 repeat' (first|with_reducible exact cn|refine aj (And.intro g1 (And.intro g2 g3)) ?_|refine ak ?_|(refine ai (fun K hK => ?_);and_intros;all_goals first|(refine hK _ ?_;clear hK K)|try exact aa)|(refine an ?_;(try clear hB KB);(try clear hK K)))
theorem oL (op a b m:Int) (hm:Full m) (ho:1≤op∧op≤12) (ha:0≤a) (ham:a≤m) (hb:0≤b) (hbm:b≤m):aD Sg 228 [I op,U a,U b,U m] (fun r=>r = .tup [U (jq op a b m),U (lT op a b m),B true]):=by
 have hle:=hm.le
 have d1:decide (a>m)=false:=decide_eq_false (by omega)
 have d2:decide (b>m)=false:=decide_eq_false (by omega)
 have hf:=nW op
 rw [decide_eq_true ho] at hf
 obtain ⟨nm,fa,fb,sh,e,hab,_⟩:=Aq ho
 rw [e] at hf
 have h1:=ug fa b m hb hbm hle
 have h2:=ug fb a m ha ham hle
 rw [(hab a b m).1] at h1
 rw [(hab a b m).2] at h2
 refine aC Tryz.func228 [.tmp 8, .tmp 9, .tmp 10] ?_
 repeat' (first|with_reducible exact cn|refine aj (And.intro d1 d2) ?_|refine ak ?_|((first|refine ai (fun K hK => ?_)|refine ae (hf) ?_|refine ae (h1) ?_|refine ae (h2) ?_);and_intros;all_goals first|(refine hK _ ?_;clear hK K)|try exact aa)|(refine an ?_;(try clear hB KB);(try clear hK K)))
theorem vE (x p y q m:Int) (hx:0≤x∧x≤65535) (hp:0≤p∧p≤65535) (hy:0≤y∧y≤65535) (hq:0≤q∧q≤65535) (hm:0<m∧m≤65535) (hr:bG (x * p+y * q) m≤65535):aD Sg 229 [U x,U p,U y,U q,U m] (fun r=>r = .b (U (bG (x * p+y * q) m))):=by
 have e1:0≤x * p∧x * p≤65535 * 65535:=⟨aq hx.1 hp.1,aw hx.2 hp.2 hp.1 (by decide)⟩
 have e2:0≤y * q∧y * q≤65535 * 65535:=⟨aq hy.1 hq.1,aw hy.2 hq.2 hq.1 (by decide)⟩
 have hn:=cE (n:=x * p+y * q) hm.1 (by omega)
 have hw:IntKind.u16.wrap (bG (x * p+y * q) m)=bG (x * p+y * q) m:=kx hn hr
 refine aC Tryz.func229 [.tmp 10] ?_
 repeat' (first|with_reducible exact cn|((first|refine ai (fun K hK => ?_)|refine ae (qD (x * p+y * q) m ⟨by omega,by omega⟩ ⟨by omega,by omega⟩) ?_);and_intros;all_goals first|(refine hK _ ?_;clear hK K)|try exact aa)|(refine an ?_;(try clear hB KB);(try clear hK K)))
theorem sY (op a b m:Int) (hm:Full m) (ho:1≤op∧op≤12) (ha:0≤a) (ham:a≤m) (hb:0≤b) (hbm:b≤m):aD Sg 209 [I op,U a,U b,U m] (fun r=>r = .b (U (dA op a b m))):=by
 have hle:=hm.le
 have hp:=hm.pos
 have hf:=oL op a b m hm ho ha ham hb hbm
 have hl:=qP (op:=op) hm ha ham hb hbm
 have ⟨a1,a2⟩:=lS (op:=op) ha ham hb hbm
 have ⟨b1,b2⟩:=mJ (op:=op) ha ham hb hbm
 have hs:=vE (jq op a b m) a (lT op a b m) b m ⟨a1,by omega⟩ ⟨ha,by omega⟩ ⟨b1,by omega⟩ ⟨hb,by omega⟩ ⟨hp,hle⟩ (by unfold dA at hl;omega)
 unfold dA at *
 generalize jq op a b m=fa at *
 generalize lT op a b m=fb at *
 refine aC Tryz.func209 [.tmp 8] ?_
 repeat' (first|with_reducible exact cn|((first|refine ai (fun K hK => ?_)|refine ae (hf) ?_|refine ae (hs) ?_);and_intros;all_goals first|(refine hK _ ?_;clear hK K)|try exact aa)|(refine an ?_;(try clear hB KB);(try clear hK K)))
end Go.Proofs.YtmfblbbemekkoaaGreatDoor
set_option maxHeartbeats 2000000
set_option maxRecDepth 16000
namespace Go.Proofs.YtmfblbbemekkoaaGreatDoor
open Go Go.SL
open Go.RowKit (wrap64)
theorem uw (op f g m:Int) (hm:Full m) (ho:1≤op∧op≤12) (hf:0≤f) (hfm:f≤m) (hg:0≤g) (hgm:g≤m):aD Sg 210 [I op,U f,U g,U m] (fun r=>r = .b (U (fj op f g m))):=by
 have hle:=hm.le
 have hp:=hm.pos
 have d1:decide (f>m)=false:=decide_eq_false (by omega)
 have d2:decide (g>m)=false:=decide_eq_false (by omega)
 have d3:(m == 0)=false:=beq_eq_false_iff_ne.2 (by omega)
 have hfi:=nW op
 rw [decide_eq_true ho] at hfi
 obtain ⟨nm,fa,fb,sh,e,_,hsh⟩:=Aq ho
 rw [e] at hfi
 have hs:=nw (op:=op) hm hf hfm hg hgm
 rw [← hsh f g m] at hs ⊢
 unfold NU at *
 refine aC Tryz.func210 [.tmp 8] ?_
 by_cases c1:sh=1
 ·have g1:(sh == 1)=true:=beq_iff_eq.2 c1
  rw [if_pos c1]
  repeat' (first|with_reducible exact cn|refine aj (And.intro d1 (And.intro d2 (And.intro d3 g1))) ?_|refine ak ?_|((first|refine ai (fun K hK => ?_)|refine ae (hfi) ?_);and_intros;all_goals first|(refine hK _ ?_;clear hK K)|try exact aa)|(refine an ?_;(try clear hB KB);(try clear hK K)))
 have g1:(sh == 1)=false:=beq_eq_false_iff_ne.2 c1
 rw [if_neg c1] at hs ⊢
 by_cases c2:sh=2
 ·have g2:(sh == 2)=true:=beq_iff_eq.2 c2
  rw [if_pos c2]
  repeat' (first|with_reducible exact cn|refine aj (And.intro d1 (And.intro d2 (And.intro d3 (And.intro g1 g2)))) ?_|refine ak ?_|((first|refine ai (fun K hK => ?_)|refine ae (hfi) ?_);and_intros;all_goals first|(refine hK _ ?_;clear hK K)|try exact aa)|(refine an ?_;(try clear hB KB);(try clear hK K)))
 have g2:(sh == 2)=false:=beq_eq_false_iff_ne.2 c2
 rw [if_neg c2] at hs ⊢
 by_cases c3:sh=3
 ·have g3:(sh == 3)=true:=beq_iff_eq.2 c3
  rw [if_pos c3] at hs ⊢
  have h1:=vE m f (m - f) g m ⟨by omega,hle⟩ ⟨hf,by omega⟩ ⟨by omega,by omega⟩ ⟨hg,by omega⟩ ⟨hp,hle⟩ (by omega)
  repeat' (first|with_reducible exact cn|refine aj (And.intro d1 (And.intro d2 (And.intro d3 (And.intro g1 (And.intro g2 g3))))) ?_|refine ak ?_|((first|refine ai (fun K hK => ?_)|refine ae (hfi) ?_|refine ae (h1) ?_);and_intros;all_goals first|(refine hK _ ?_;clear hK K)|try exact aa)|(refine an ?_;(try clear hB KB);(try clear hK K)))
 have g3:(sh == 3)=false:=beq_eq_false_iff_ne.2 c3
 rw [if_neg c3] at hs ⊢
 by_cases c4:sh=4
 ·have g4:(sh == 4)=true:=beq_iff_eq.2 c4
  rw [if_pos c4] at hs ⊢
  have h1:=vE f g 0 0 m ⟨hf,by omega⟩ ⟨hg,by omega⟩ ⟨by decide,by decide⟩ ⟨by decide,by decide⟩ ⟨hp,hle⟩ (by rw [Int.mul_zero,Int.add_zero];omega)
  rw [Int.mul_zero,Int.add_zero] at h1
  repeat' (first|with_reducible exact cn|refine aj (And.intro d1 (And.intro d2 (And.intro d3 (And.intro g1 (And.intro g2 (And.intro g3 g4)))))) ?_|refine ak ?_|((first|refine ai (fun K hK => ?_)|refine ae (hfi) ?_|refine ae (h1) ?_);and_intros;all_goals first|(refine hK _ ?_;clear hK K)|try exact aa)|(refine an ?_;(try clear hB KB);(try clear hK K)))
 have g4:(sh == 4)=false:=beq_eq_false_iff_ne.2 c4
 rw [if_neg c4]
 repeat' (first|with_reducible exact cn|refine aj (And.intro d1 (And.intro d2 (And.intro d3 (And.intro g1 (And.intro g2 (And.intro g3 g4)))))) ?_|refine ak ?_|((first|refine ai (fun K hK => ?_)|refine ae (hfi) ?_);and_intros;all_goals first|(refine hK _ ?_;clear hK K)|try exact aa)|(refine an ?_;(try clear hB KB);(try clear hK K)))
end Go.Proofs.YtmfblbbemekkoaaGreatDoor
