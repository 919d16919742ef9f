/- Part of the proof: W5, U5, W4, WB, WC, U2. -/
import Derived.Test.YtcbifofjjpfbcaaGreatDoorM10
set_option linter.unusedSimpArgs false
set_option linter.unusedVariables false
set_option maxHeartbeats 2000000
set_option maxRecDepth 16000
namespace Go.Proofs.YtcbifofjjpfbcaaGreatDoor
open Go Go.SL
open Go.RowKit (wrap64)
attribute [local go_sem] qE
theorem RQ (n:Int) (h:Q64 n):aF Sg 227 [cq n] (fun r=>r = .b (ag (qE n))):=by
 obtain ⟨h0,h1⟩:=h
 refine aI Tryz.func227 [.cell 2 251] ?_
 repeat' (first|(refine aj (fun K hK => ?_);and_intros;all_goals first|(refine hK _ ?_;clear hK K)|try exact aa)|(refine ai ?_;(try clear hB KB);(try clear hK K)))
 rw [show n / 18446744073709551616=0 by omega,show n % 18446744073709551616=n by omega]
 rfl
theorem jm (a b:Int) (ha:Q64 a) (hb:Q64 b):aF Sg 212 [cq a,cq b] (fun r=>r = .b (ag (qE (a * b)))):=by
 have h:=uX a b ha.l ha.u hb.l hb.u
 refine aI Tryz.func212 [.cell 4 251] ?_
 repeat' (first|((first|refine aj (fun K hK => ?_)|refine ae (h) ?_);and_intros;all_goals first|(refine hK _ ?_;clear hK K)|try exact aa)|(refine ai ?_;(try clear hB KB);(try clear hK K)))
 rfl
theorem qn (x y:Int) (hx:0≤x) (hy:0≤y) (h:x+y<340282366920938463463374607431768211456):aF Sg 211 [ag (qE x),ag (qE y)] (fun r=>r = .tup [ag (qE (x+y)),B true]):=by
 have qx:=yl (n:=x) ⟨hx,by omega⟩
 have qy:=yl (n:=y) ⟨hy,by omega⟩
 have h1:=DN (x % 18446744073709551616) (y % 18446744073709551616) 0 qx.2 qy.2 ⟨by decide,by decide⟩
 have h2:=DN (x / 18446744073709551616) (y / 18446744073709551616) ((x % 18446744073709551616+y % 18446744073709551616+0) / 18446744073709551616) qx.1 qy.1 ⟨by omega,by omega⟩
 refine aI Tryz.func211 [.cell 4 251, .tmp 5] ?_
 repeat' (first|refine an ?_|((first|refine aj (fun K hK => ?_)|refine qR (h1) ?_|refine qR (h2) ?_);and_intros;all_goals first|(refine hK _ ?_;clear hK K)|try exact aa)|(refine aH (fun hb => ?_) (fun hb => ?_);all_goals try exact ax)|(refine ai ?_;(try clear hB KB);(try clear hK K)))
 rw [show (x / 18446744073709551616 + y / 18446744073709551616 + (x % 18446744073709551616 + y % 18446744073709551616 + 0) / 18446744073709551616) % 18446744073709551616 = (x + y) / 18446744073709551616 by clear h1 h2; omega,
   show (x % 18446744073709551616+y % 18446744073709551616+0) % 18446744073709551616=(x+y) % 18446744073709551616 by clear h1 h2;omega]
 rfl
theorem Ly (x y:Int) (hx:Q128 x) (hy:Q128 y) (h:y≤x):aF Sg 232 [ag (qE x),ag (qE y)] (fun r=>r = .tup [ag (qE (x - y)),B true]):=by
 have qx:=yl hx
 have qy:=yl hy
 have h1:=tj (x % 18446744073709551616) (y % 18446744073709551616) 0 qx.2 qy.2 ⟨by decide,by decide⟩
 have h2:=tj (x / 18446744073709551616) (y / 18446744073709551616) (if x % 18446744073709551616<y % 18446744073709551616+0 then 1 else 0) qx.1 qy.1 ⟨by split <;> decide,by split <;> decide⟩
 have hx1:=hx.u
 have hy0:=hy.l
 refine aI Tryz.func232 [.cell 4 251, .tmp 5] ?_
 repeat' (first|refine an ?_|((first|refine aj (fun K hK => ?_)|refine qR (h1) ?_|refine qR (h2) ?_);and_intros;all_goals first|(refine hK _ ?_;clear hK K)|try exact aa)|(refine aH (fun hb => ?_) (fun hb => ?_);all_goals try exact ax)|(refine ai ?_;(try clear hB KB);(try clear hK K)))
 rw [show (x / 18446744073709551616 + 18446744073709551616 - y / 18446744073709551616 - if x % 18446744073709551616 < y % 18446744073709551616 + 0 then 1 else 0) % 18446744073709551616 = (x - y) / 18446744073709551616 by clear h1 h2; split <;> omega,
   show (x % 18446744073709551616+18446744073709551616 - y % 18446744073709551616 - 0) % 18446744073709551616=(x - y) % 18446744073709551616 by clear h1 h2;omega]
 rfl
theorem Nr (x y:Int) (hx:Q128 x) (hy:Q128 y) (h:x<y):aF Sg 232 [ag (qE x),ag (qE y)] (fun r=>r = .tup [ag (qE 0),B false]):=by
 have qx:=yl hx
 have qy:=yl hy
 have h1:=tj (x % 18446744073709551616) (y % 18446744073709551616) 0 qx.2 qy.2 ⟨by decide,by decide⟩
 have h2:=tj (x / 18446744073709551616) (y / 18446744073709551616) (if x % 18446744073709551616<y % 18446744073709551616+0 then 1 else 0) qx.1 qy.1 ⟨by split <;> decide,by split <;> decide⟩
 refine aI Tryz.func232 [.cell 4 251, .tmp 5] ?_
 repeat' (first|refine an ?_|((first|refine aj (fun K hK => ?_)|refine qR (h1) ?_|refine qR (h2) ?_);and_intros;all_goals first|(refine hK _ ?_;clear hK K)|try exact aa)|(refine aH (fun hb => ?_) (fun hb => ?_);all_goals try exact ax)|(refine ai ?_;(try clear hB KB);(try clear hK K)))
 rfl
theorem JR (x:Int):aF Sg 256 [cq x] (fun r=>r = .b (B false)):=by
 refine aI Tryz.func256 [.tmp 2] ?_
 repeat' (first|(refine aj (fun K hK => ?_);and_intros;all_goals first|(refine hK _ ?_;clear hK K)|try exact aa)|(refine ai ?_;(try clear hB KB);(try clear hK K)))
 rw [bne_self_eq_false]
theorem EH (x y:Int):aF Sg 251 [cq x,cq y] (fun r=>r = .b (I (kV x y))):=by
 have h1:=JR x
 have h2:=JR y
 have ht:True:=trivial
 refine aI Tryz.func251 [.tmp 4] ?_
 repeat' (first|refine ak ht ?_|refine an ?_|((first|refine aj (fun K hK => ?_)|refine ae (h1) ?_|refine ae (h2) ?_);and_intros;all_goals first|(refine hK _ ?_;clear hK K)|try exact aa)|(refine aH (fun hb => ?_) (fun hb => ?_);all_goals try exact ax)|(refine ai ?_;(try clear hB KB);(try clear hK K)))
 ·rw [kV,if_neg (by omega),if_pos (by omega)]
 ·rw [kV,if_neg (by omega),if_neg (by omega)]
 ·rw [kV,if_pos (by omega)]
theorem Sf (a b:Int):aF Sg 250 [.c (.p (.lst 1 2 (fun i _=>PI (if i=0 then a else b))))] (fun r=>r = .b (I (if a=0 then b else a))):=by
 have ht:True:=trivial
 refine aI Tryz.func250 [.tmp 2] ?_
 repeat' (first|refine an ?_|(refine aj (fun K hK => ?_);and_intros;all_goals first|(refine hK _ ?_;clear hK K)|try exact aa))
 refine aM (X:=Nat) (fun i=>bg [(3, .b (I 0)),(6, .b (.c (.p (.lst 1 2 (fun i _=>PI (if i=0 then a else b)))))),(7, .b (I 2)),(8, .b (I i))] [] 1) (fun i=>i≤2∧(0<i→a=0)∧(1<i→b=0)) (fun i=>2 - i) 0 ?_ ?_ ?_
 ·exact ⟨by omega,fun h=>absurd h (by omega),fun h=>absurd h (by omega)⟩
 ·refine aE [] ?_ ?_
  and_intros
  all_goals first|exact aw|skip
 ·rintro i ⟨i2,ia,ib⟩
  have hv:i=0∨i=1∨i=2:=by omega
  rcases hv with rfl|rfl|rfl
  ·repeat' (first|refine an ?_|(refine aj (fun K hK => ?_);and_intros;all_goals first|(refine hK _ ?_;clear hK K)|try exact aa)|(refine aH (fun hb => ?_) (fun hb => ?_);all_goals try exact ax)|(refine ai ?_;(try clear hB KB);(try clear hK K)))
   ·have hb':¬ a=0:=hb
    exact congrArg (fun v=>SV.b (I v)) (if_neg hb').symm
   ·have hb':a=0:=hb
    rw [ah]
    refine au 1 ?_ ⟨by omega,fun _=>hb',fun h=>absurd h (by omega)⟩ (by omega)
    refine aE [] ?_ ?_
    and_intros
    all_goals first|exact aw|skip
  ·have a0:=ia (by decide)
   repeat' (first|refine an ?_|(refine aj (fun K hK => ?_);and_intros;all_goals first|(refine hK _ ?_;clear hK K)|try exact aa)|(refine aH (fun hb => ?_) (fun hb => ?_);all_goals try exact ax)|(refine ai ?_;(try clear hB KB);(try clear hK K)))
   ·exact congrArg (fun v=>SV.b (I v)) (if_pos a0).symm
   ·have hb':b=0:=hb
    rw [ah]
    refine au 2 ?_ ⟨by omega,fun _=>a0,fun _=>hb'⟩ (by omega)
    refine aE [] ?_ ?_
    and_intros
    all_goals first|exact aw|skip
  ·have a0:=ia (by decide)
   have b0:=ib (by decide)
   repeat' (first|refine an ?_|(refine aj (fun K hK => ?_);and_intros;all_goals first|(refine hK _ ?_;clear hK K)|try exact aa)|(refine aH (fun hb => ?_) (fun hb => ?_);all_goals try exact ax)|(refine ai ?_;(try clear hB KB);(try clear hK K)))
   rw [if_pos a0,b0]
theorem Md {x y:Int}:(if kV (x / 18446744073709551616) (y / 18446744073709551616)=0 then kV (x % 18446744073709551616) (y % 18446744073709551616) else kV (x / 18446744073709551616) (y / 18446744073709551616))=kV x y:=by
 unfold kV
 repeat' split
 all_goals omega
theorem ze (x y:Int):aF Sg 234 [ag (qE x),ag (qE y)] (fun r=>r = .b (I (kV x y))):=by
 have ht:True:=trivial
 have h1:=EH (x / 18446744073709551616) (y / 18446744073709551616)
 have h2:=EH (x % 18446744073709551616) (y % 18446744073709551616)
 have h3:=Sf (kV (x / 18446744073709551616) (y / 18446744073709551616)) (kV (x % 18446744073709551616) (y % 18446744073709551616))
 rw [Md] at h3
 refine aI Tryz.func234 [.tmp 4] ?_
 repeat' (first|(((with_reducible refine bC (id:=1) [] (by decide +kernel) (by decide +kernel) ?_ (fun K hK => ?_));(first|(refine And.intro (fun iw hiw => ?_) ?_;(focus ((try simp (maxSteps:=999999)(disch:=omega) only [go_sem] at hiw ⊢);(repeat (refine Eq.trans (if_neg ?_) ?_;(focus omega)));(first|exact hw iw (by omega)|rfl)));(focus (first|exact Nat.zero_le _|(simp (maxSteps:=999999)(disch:=omega) only [go_sem];done)|(simp (maxSteps:=999999)(disch:=omega) only [go_sem];omega))))|exact cS));(try simp (maxSteps:=999999)(disch:=omega) only [go_sem]);and_intros;(all_goals first|(refine hK _ (by simp (maxSteps:=999999)(disch:=omega) only [go_sem]) ?_;clear hK K)|exact aa|skip))|((first|refine aj (fun K hK => ?_)|refine ae (h1) ?_|refine ae (h2) ?_);and_intros;all_goals first|(refine hK _ ?_;clear hK K)|try exact aa))
 refine fk ?_ ?_ (by simp (maxSteps:=999999)(disch:=omega) only [go_sem]) ?_ (h3)
 try simp (maxSteps:=999999)(disch:=omega) only [go_sem]
 try (refine hK _ ?_;clear hK K)
 ·refine hK _ (by simp (maxSteps:=999999)(disch:=omega) only [go_sem]) ?_
  clear hK
  repeat' (first|with_reducible exact aK|(refine ai ?_;(try clear hB KB);(try clear hK K)))
 ·simp (maxSteps:=1000000) (disch:=omega) only [go_sem,dU,eE]
  refine mA (gj fun i hi j hj => ?_)
  have:i=0∨i=1:=by omega
  have hj0:j=0:=by omega
  subst hj0
  rcases this with rfl|rfl <;> rfl
 ·trivial
end Go.Proofs.YtcbifofjjpfbcaaGreatDoor
set_option maxHeartbeats 2000000
set_option maxRecDepth 16000
namespace Go.Proofs.YtcbifofjjpfbcaaGreatDoor
open Go Go.SL
open Go.RowKit (wrap64)
def oB (x:Ex):List PV:=[.val (.int .u64 (x.p / 18446744073709551616)), .val (.int .u64 (x.p % 18446744073709551616)), .val (.int .u64 x.q), .val (.int .u64 x.r), .val (.int .u64 x.d)]
attribute [local go_sem] qE oB
structure ExS (x:Ex):Prop where
 p0:0≤x.p
 p1:x.p<79228162514264337593543950336
 q0:0≤x.q
 q1:x.q<140737488355328
 r0:0≤x.r
 r1:x.r<8589934592
 d0:0≤x.d
 d1:x.d<18446744073709551616
theorem tu {x:Ex} (h:ExS x):0≤x.q * x.q∧x.q * x.q<340282366920938463463374607431768211456∧0≤x.q * x.q * x.r∧x.q * x.q * x.r<340282366920938463463374607431768211456:=by
 obtain ⟨p0,p1,q0,q1,r0,r1,d0,d1⟩:=h
 have h1:0≤x.q * x.q:=az q0 q0
 have h2:x.q * x.q≤140737488355327 * 140737488355327:=aJ (by omega) (by omega) q0 (by omega)
 have h3:x.q * x.q * x.r≤140737488355327 * 140737488355327 * 8589934591:=aJ h2 (by omega) r0 (by omega)
 exact ⟨h1,by omega,az h1 r0,by omega⟩
def wX (x:Ex) (n:Int):Int:=if n / 18446744073709551616>0 then -1 else kV (x.q * x.q * x.r) (n % 18446744073709551616 * (n % 18446744073709551616))
theorem Nz {x:Ex} {n:Int} (h:ExS x) (hn:0≤n):(0≤wX x n)↔n * n≤x.q * x.q * x.r:=by
 have hs:=tu h
 unfold wX
 split
 ·rename_i q
  have:18446744073709551616 * 18446744073709551616≤n * n:=aJ (by omega) (by omega) (by omega) (by omega)
  omega
 ·rename_i q
  rw [show n % 18446744073709551616=n by omega]
  unfold kV
  split
  ·omega
  ·split <;> omega
end Go.Proofs.YtcbifofjjpfbcaaGreatDoor
set_option maxHeartbeats 4000000
set_option maxRecDepth 16000
namespace Go.Proofs.YtcbifofjjpfbcaaGreatDoor
open Go Go.SL
open Go.RowKit (wrap64)
def eK (n:Nat):Nat:=if n=0 then 0 else n.log2+1
theorem nt {n:Nat} (h:0<n):1≤eK n∧2 ^ (eK n - 1)≤n∧n<2 ^ eK n:=by
 unfold eK
 rw [if_neg (by omega)]
 refine ⟨by omega, ?_,Nat.lt_log2_self⟩
 rw [Nat.add_sub_cancel]
 exact Nat.log2_self_le (by omega)
theorem KQ {n a:Nat} (h1:2 ^ a≤n) (h2:n<2 ^ (a+1)):eK n=a+1:=by
 have h0:0<n:=Nat.lt_of_lt_of_le (Nat.pow_pos (by decide)) h1
 obtain ⟨b0,b1,b2⟩:=nt h0
 generalize eK n=b at *
 have c1:a<b:=(Nat.pow_lt_pow_iff_right (by decide)).1 (Nat.lt_of_le_of_lt h1 b2)
 have c2:b - 1<a+1:=(Nat.pow_lt_pow_iff_right (by decide)).1 (Nat.lt_of_le_of_lt b1 h2)
 omega
theorem GR {n k:Nat} (h:2 ^ k≤n):eK n=eK (n / 2 ^ k)+k:=by
 have hp:0<2 ^ k:=Nat.pow_pos (by decide)
 have h0:0<n / 2 ^ k:=Nat.div_pos h hp
 obtain ⟨b0,b1,b2⟩:=nt h0
 generalize eK (n / 2 ^ k)=b at *
 have e1:2 ^ (b - 1) * 2 ^ k≤n:=(Nat.le_div_iff_mul_le hp).1 b1
 have e2:n<2 ^ b * 2 ^ k:=(Nat.div_lt_iff_lt_mul hp).1 b2
 rw [← Nat.pow_add] at e1 e2
 have:=KQ (n:=n) (a:=b - 1+k) e1 (by rw [show b - 1+k+1=b+k by omega];exact e2)
 omega
theorem SB (a:Int):a.fdiv (2 ^ min 32 64)=a / 4294967296:=by rw [Int.fdiv_eq_ediv_of_nonneg _ (by decide)];rfl
theorem XD (a:Int):a.fdiv (2 ^ min 16 64)=a / 65536:=by rw [Int.fdiv_eq_ediv_of_nonneg _ (by decide)];rfl
theorem Yd (a:Int):a.fdiv (2 ^ min 8 64)=a / 256:=by rw [Int.fdiv_eq_ediv_of_nonneg _ (by decide)];rfl
attribute [local go_sem] SB XD Yd
theorem NS (n:Int):IntKind.u8.wrap n=n % 256:=by
 simp only [IntKind.wrap,IntKind.bits,IntKind.signed];simp
theorem iV {x v:Int} {k:Nat} (hv:v=((2 ^ k:Nat):Int)) (h:x≥v):eK x.toNat=eK (x / v).toNat+k:=by
 have hp:0<2 ^ k:=Nat.pow_pos (by decide)
 obtain ⟨n,rfl⟩:=Int.eq_ofNat_of_zero_le (show 0≤x by omega)
 subst hv
 rw [← Int.natCast_ediv,Int.toNat_natCast,Int.toNat_natCast]
 exact GR (by omega)
theorem kj {tab : ByteArray} (hz : tab.size = 256) (hg : ∀ k, k < 256 → (tab.get! k).toNat = eK k) {x y : Int} {k : Int} (h0 : 0 ≤ y) (h1 : y < 256) (hk : 0 ≤ k ∧ k ≤ 56) (hl : (eK x.toNat : Int) = eK y.toNat + k) :
  IntKind.u8.wrap y<tab.size∧SV.b (BV.c (CV.p (PV.val (Value.int IntKind.i64 (IntKind.i64.wrap (k+IntKind.i64.wrap ((tab.get! (IntKind.u8.wrap y).toNat).toNat:Int)))))))=SV.b (I (eK x.toNat)):=by
 have hw:IntKind.u8.wrap y=y:=by rw [NS];omega
 have hb:(tab.get! y.toNat).toNat<256:=(tab.get! y.toNat).toNat_lt
 have he:=hg y.toNat (by omega)
 rw [hw,hz]
 refine ⟨h1, ?_⟩
 rw [he] at hb ⊢
 rw [fA (n:=((eK y.toNat:Nat):Int)) (by omega) (by omega),fA (by omega) (by omega),hl,Int.add_comm]
theorem Ho (x:Int) (h:Q64 x):aF Sg 257 [cq x] (fun r=>r = .b (I (eK x.toNat))):=by
 obtain ⟨x0,xu⟩:=h
 refine aI Tryz.func257 [.tmp 2] ?_
 generalize hT:ByteArray.mk _=tab
 have hz:tab.size=256:=by rw [← hT];rfl
 have hg:∀ k,k<256→(tab.get! k).toNat=eK k:=by rw [← hT];decide +kernel
 clear hT
 by_cases c1:x≥4294967296
 ·have g1:decide (x≥4294967296)=true:=decide_eq_true c1
  by_cases c2:x / 4294967296≥65536
  ·have g2:decide (x / 4294967296≥65536)=true:=decide_eq_true c2
   by_cases c3:x / 4294967296 / 65536≥256
   ·have g3:decide (x / 4294967296 / 65536≥256)=true:=decide_eq_true c3
    have hl:(eK x.toNat:Int)=eK (x / 4294967296 / 65536 / 256).toNat+56:=by
     rw [iV (x:=x) (k:=32) (v:=4294967296) (by decide) c1]
     rw [iV (x:=x / 4294967296) (k:=16) (v:=65536) (by decide) c2]
     rw [iV (x:=x / 4294967296 / 65536) (k:=8) (v:=256) (by decide) c3]
     omega
    have hf:=kj hz hg (x:=x) (y:=x / 4294967296 / 65536 / 256) (k:=56) (by omega) (by omega) (by omega) hl
    repeat' (first|refine ak (And.intro g1 (And.intro g2 g3)) ?_|refine an ?_|(refine aj (fun K hK => ?_);and_intros;all_goals first|(refine hK _ ?_;clear hK K)|try exact aa)|(refine ai ?_;(try clear hB KB);(try clear hK K)))
    exact hf.2
   ·have g3:decide (x / 4294967296 / 65536≥256)=false:=decide_eq_false c3
    have hl:(eK x.toNat:Int)=eK (x / 4294967296 / 65536).toNat+48:=by
     rw [iV (x:=x) (k:=32) (v:=4294967296) (by decide) c1]
     rw [iV (x:=x / 4294967296) (k:=16) (v:=65536) (by decide) c2]
     omega
    have hf:=kj hz hg (x:=x) (y:=x / 4294967296 / 65536) (k:=48) (by omega) (by omega) (by omega) hl
    repeat' (first|refine ak (And.intro g1 (And.intro g2 g3)) ?_|refine an ?_|(refine aj (fun K hK => ?_);and_intros;all_goals first|(refine hK _ ?_;clear hK K)|try exact aa)|(refine ai ?_;(try clear hB KB);(try clear hK K)))
    exact hf.2
  ·have g2:decide (x / 4294967296≥65536)=false:=decide_eq_false c2
   by_cases c3:x / 4294967296≥256
   ·have g3:decide (x / 4294967296≥256)=true:=decide_eq_true c3
    have hl:(eK x.toNat:Int)=eK (x / 4294967296 / 256).toNat+40:=by
     rw [iV (x:=x) (k:=32) (v:=4294967296) (by decide) c1]
     rw [iV (x:=x / 4294967296) (k:=8) (v:=256) (by decide) c3]
     omega
    have hf:=kj hz hg (x:=x) (y:=x / 4294967296 / 256) (k:=40) (by omega) (by omega) (by omega) hl
    repeat' (first|refine ak (And.intro g1 (And.intro g2 g3)) ?_|refine an ?_|(refine aj (fun K hK => ?_);and_intros;all_goals first|(refine hK _ ?_;clear hK K)|try exact aa)|(refine ai ?_;(try clear hB KB);(try clear hK K)))
    exact hf.2
   ·have g3:decide (x / 4294967296≥256)=false:=decide_eq_false c3
    have hl:(eK x.toNat:Int)=eK (x / 4294967296).toNat+32:=by
     rw [iV (x:=x) (k:=32) (v:=4294967296) (by decide) c1]
     omega
    have hf:=kj hz hg (x:=x) (y:=x / 4294967296) (k:=32) (by omega) (by omega) (by omega) hl
    repeat' (first|refine ak (And.intro g1 (And.intro g2 g3)) ?_|refine an ?_|(refine aj (fun K hK => ?_);and_intros;all_goals first|(refine hK _ ?_;clear hK K)|try exact aa)|(refine ai ?_;(try clear hB KB);(try clear hK K)))
    exact hf.2
 ·have g1:decide (x≥4294967296)=false:=decide_eq_false c1
  by_cases c2:x≥65536
  ·have g2:decide (x≥65536)=true:=decide_eq_true c2
   by_cases c3:x / 65536≥256
   ·have g3:decide (x / 65536≥256)=true:=decide_eq_true c3
    have hl:(eK x.toNat:Int)=eK (x / 65536 / 256).toNat+24:=by
     rw [iV (x:=x) (k:=16) (v:=65536) (by decide) c2]
     rw [iV (x:=x / 65536) (k:=8) (v:=256) (by decide) c3]
     omega
    have hf:=kj hz hg (x:=x) (y:=x / 65536 / 256) (k:=24) (by omega) (by omega) (by omega) hl
    repeat' (first|refine ak (And.intro g1 (And.intro g2 g3)) ?_|refine an ?_|(refine aj (fun K hK => ?_);and_intros;all_goals first|(refine hK _ ?_;clear hK K)|try exact aa)|(refine ai ?_;(try clear hB KB);(try clear hK K)))
    exact hf.2
   ·have g3:decide (x / 65536≥256)=false:=decide_eq_false c3
    have hl:(eK x.toNat:Int)=eK (x / 65536).toNat+16:=by
     rw [iV (x:=x) (k:=16) (v:=65536) (by decide) c2]
     omega
    have hf:=kj hz hg (x:=x) (y:=x / 65536) (k:=16) (by omega) (by omega) (by omega) hl
    repeat' (first|refine ak (And.intro g1 (And.intro g2 g3)) ?_|refine an ?_|(refine aj (fun K hK => ?_);and_intros;all_goals first|(refine hK _ ?_;clear hK K)|try exact aa)|(refine ai ?_;(try clear hB KB);(try clear hK K)))
    exact hf.2
  ·have g2:decide (x≥65536)=false:=decide_eq_false c2
   by_cases c3:x≥256
   ·have g3:decide (x≥256)=true:=decide_eq_true c3
    have hl:(eK x.toNat:Int)=eK (x / 256).toNat+8:=by
     rw [iV (x:=x) (k:=8) (v:=256) (by decide) c3]
     omega
    have hf:=kj hz hg (x:=x) (y:=x / 256) (k:=8) (by omega) (by omega) (by omega) hl
    repeat' (first|refine ak (And.intro g1 (And.intro g2 g3)) ?_|refine an ?_|(refine aj (fun K hK => ?_);and_intros;all_goals first|(refine hK _ ?_;clear hK K)|try exact aa)|(refine ai ?_;(try clear hB KB);(try clear hK K)))
    exact hf.2
   ·have g3:decide (x≥256)=false:=decide_eq_false c3
    have hl:(eK x.toNat:Int)=eK (x).toNat+0:=by
     omega
    have hf:=kj hz hg (x:=x) (y:=x) (k:=0) (by omega) (by omega) (by omega) hl
    repeat' (first|refine ak (And.intro g1 (And.intro g2 g3)) ?_|refine an ?_|(refine aj (fun K hK => ?_);and_intros;all_goals first|(refine hK _ ?_;clear hK K)|try exact aa)|(refine ai ?_;(try clear hB KB);(try clear hK K)))
    exact hf.2
theorem ES {x:Int} (h:Q64 x):eK x.toNat≤64:=by
 obtain ⟨h0,h1⟩:=h
 rcases Nat.eq_zero_or_pos x.toNat with q|q
 ·rw [q];decide
 ·obtain ⟨b0,b1,b2⟩:=nt q
  refine Nat.not_lt.1 fun c => ?_
  have:2 ^ 64≤2 ^ (eK x.toNat - 1):=Nat.pow_le_pow_right (by decide) (by omega)
  omega
theorem OF (x:Int) (h:Q64 x):aF Sg 255 [cq x] (fun r=>r = .b (I (64 - eK x.toNat))):=by
 have hl:=Ho x h
 have hle:=ES h
 refine aI Tryz.func255 [.tmp 2] ?_
 repeat' (first|with_reducible exact aK|((first|refine aj (fun K hK => ?_)|refine ae (hl) ?_);and_intros;all_goals first|(refine hK _ ?_;clear hK K)|try exact aa)|(refine ai ?_;(try clear hB KB);(try clear hK K)))
end Go.Proofs.YtcbifofjjpfbcaaGreatDoor
set_option maxHeartbeats 2000000
set_option maxRecDepth 16000
namespace Go.Proofs.YtcbifofjjpfbcaaGreatDoor
open Go Go.SL
open Go.RowKit (wrap64)
def OH (f a m:Int):Int:=if f=1 then m else if f=2 then a else if f=3 then m - a else 0
def Vz (h f g m:Int):Int:=if h=1 then f else if h=2 then g else if h=3 then cf (m * f+(m - f) * g) m else if h=4 then cf (f * g) m else 0
theorem EV {op:Int} (h:1≤op∧op≤12):∃ nm fa fb sh,oe op=[.val (.string nm),PI fa,PI fb,PI sh]∧(∀ a b m,OH fa b m=gR op a b m∧OH fb a m=lC op a b m)∧∀ f g m,Vz sh f g m=fL op f g m:=by
 have hv:op=1∨op=2∨op=3∨op=4∨op=5∨op=6∨op=7∨op=8∨op=9∨op=10∨op=11∨op=12:=by omega
 rcases hv with rfl|rfl|rfl|rfl|rfl|rfl|rfl|rfl|rfl|rfl|rfl|rfl <;> exact ⟨_,_,_,_,rfl,fun a b m=>⟨rfl,rfl⟩,fun f g m=>rfl⟩
theorem xf (f a m:Int) (ha:0≤a) (ham:a≤m) (hm:m≤65535):aF Sg 216 [I f,U a,U m] (fun r=>r = .b (U (OH f a m))):=by
 unfold OH
 refine aI Tryz.func216 [.tmp 6] ?_
 by_cases c1:f=1
 ·have g1:(f == 1)=true:=beq_iff_eq.2 c1
  rw [if_pos c1]
  repeat' (first|with_reducible exact aK|refine ak g1 ?_|refine an ?_|(refine aj (fun K hK => ?_);and_intros;all_goals first|(refine hK _ ?_;clear hK K)|try exact aa)|(refine ai ?_;(try clear hB KB);(try clear hK K)))
 have g1:(f == 1)=false:=beq_eq_false_iff_ne.2 c1
 rw [if_neg c1]
 by_cases c2:f=2
 ·have g2:(f == 2)=true:=beq_iff_eq.2 c2
  rw [if_pos c2]
  repeat' (first|with_reducible exact aK|refine ak (And.intro g1 g2) ?_|refine an ?_|(refine aj (fun K hK => ?_);and_intros;all_goals first|(refine hK _ ?_;clear hK K)|try exact aa)|(refine ai ?_;(try clear hB KB);(try clear hK K)))
 have g2:(f == 2)=false:=beq_eq_false_iff_ne.2 c2
 rw [if_neg c2]
 by_cases c3:f=3
 ·have g3:(f == 3)=true:=beq_iff_eq.2 c3
  rw [if_pos c3]
  repeat' (first|with_reducible exact aK|refine ak (And.intro g1 (And.intro g2 g3)) ?_|refine an ?_|(refine aj (fun K hK => ?_);and_intros;all_goals first|(refine hK _ ?_;clear hK K)|try exact aa)|(refine ai ?_;(try clear hB KB);(try clear hK K)))
 have g3:(f == 3)=false:=beq_eq_false_iff_ne.2 c3
 rw [if_neg c3]
 repeat' (first|with_reducible exact aK|refine ak (And.intro g1 (And.intro g2 g3)) ?_|refine an ?_|(refine aj (fun K hK => ?_);and_intros;all_goals first|(refine hK _ ?_;clear hK K)|try exact aa)|(refine ai ?_;(try clear hB KB);(try clear hK K)))
theorem sj (op a b m:Int) (hm:Full m) (ho:1≤op∧op≤12) (ha:0≤a) (ham:a≤m) (hb:0≤b) (hbm:b≤m):aF Sg 201 [I op,U a,U b,U m] (fun r=>r = .tup [U (gR op a b m),U (lC op a b m),B true]):=by
 have hle:=hm.le
 have d1:decide (a>m)=false:=decide_eq_false (by omega)
 have d2:decide (b>m)=false:=decide_eq_false (by omega)
 have hf:=nj op
 rw [decide_eq_true ho] at hf
 obtain ⟨nm,fa,fb,sh,e,hab,_⟩:=EV ho
 rw [e] at hf
 have h1:=xf fa b m hb hbm hle
 have h2:=xf fb a m ha ham hle
 rw [(hab a b m).1] at h1
 rw [(hab a b m).2] at h2
 refine aI Tryz.func201 [.tmp 8, .tmp 9, .tmp 10] ?_
 repeat' (first|with_reducible exact aK|refine ak (And.intro d1 d2) ?_|refine an ?_|((first|refine aj (fun K hK => ?_)|refine ae (hf) ?_|refine ae (h1) ?_|refine ae (h2) ?_);and_intros;all_goals first|(refine hK _ ?_;clear hK K)|try exact aa)|(refine ai ?_;(try clear hB KB);(try clear hK K)))
theorem yj (x p y q m:Int) (hx:0≤x∧x≤65535) (hp:0≤p∧p≤65535) (hy:0≤y∧y≤65535) (hq:0≤q∧q≤65535) (hm:0<m∧m≤65535) (hr:cf (x * p+y * q) m≤65535):aF Sg 202 [U x,U p,U y,U q,U m] (fun r=>r = .b (U (cf (x * p+y * q) m))):=by
 have e1:0≤x * p∧x * p≤65535 * 65535:=⟨az hx.1 hp.1,aJ hx.2 hp.2 hp.1 (by decide)⟩
 have e2:0≤y * q∧y * q≤65535 * 65535:=⟨az hy.1 hq.1,aJ hy.2 hq.2 hq.1 (by decide)⟩
 have hn:=dC (n:=x * p+y * q) hm.1 (by omega)
 have hw:IntKind.u16.wrap (cf (x * p+y * q) m)=cf (x * p+y * q) m:=mD hn hr
 refine aI Tryz.func202 [.tmp 10] ?_
 repeat' (first|with_reducible exact aK|((first|refine aj (fun K hK => ?_)|refine ae (vw (x * p+y * q) m ⟨by omega,by omega⟩ ⟨by omega,by omega⟩) ?_);and_intros;all_goals first|(refine hK _ ?_;clear hK K)|try exact aa)|(refine ai ?_;(try clear hB KB);(try clear hK K)))
theorem xH (op a b m:Int) (hm:Full m) (ho:1≤op∧op≤12) (ha:0≤a) (ham:a≤m) (hb:0≤b) (hbm:b≤m):aF Sg 190 [I op,U a,U b,U m] (fun r=>r = .b (U (ec op a b m))):=by
 have hle:=hm.le
 have hp:=hm.pos
 have hf:=sj op a b m hm ho ha ham hb hbm
 have hl:=vn (op:=op) hm ha ham hb hbm
 have ⟨a1,a2⟩:=nK (op:=op) ha ham hb hbm
 have ⟨b1,b2⟩:=pc (op:=op) ha ham hb hbm
 have hs:=yj (gR op a b m) a (lC op a b m) b m ⟨a1,by omega⟩ ⟨ha,by omega⟩ ⟨b1,by omega⟩ ⟨hb,by omega⟩ ⟨hp,hle⟩ (by unfold ec at hl;omega)
 unfold ec at *
 generalize gR op a b m=fa at *
 generalize lC op a b m=fb at *
 refine aI Tryz.func190 [.tmp 8] ?_
 repeat' (first|with_reducible exact aK|((first|refine aj (fun K hK => ?_)|refine ae (hf) ?_|refine ae (hs) ?_);and_intros;all_goals first|(refine hK _ ?_;clear hK K)|try exact aa)|(refine ai ?_;(try clear hB KB);(try clear hK K)))
end Go.Proofs.YtcbifofjjpfbcaaGreatDoor
set_option maxHeartbeats 2000000
set_option maxRecDepth 16000
namespace Go.Proofs.YtcbifofjjpfbcaaGreatDoor
open Go Go.SL
open Go.RowKit (wrap64)
theorem xt (op f g m:Int) (hm:Full m) (ho:1≤op∧op≤12) (hf:0≤f) (hfm:f≤m) (hg:0≤g) (hgm:g≤m):aF Sg 191 [I op,U f,U g,U m] (fun r=>r = .b (U (fL op f g m))):=by
 have hle:=hm.le
 have hp:=hm.pos
 have d1:decide (f>m)=false:=decide_eq_false (by omega)
 have d2:decide (g>m)=false:=decide_eq_false (by omega)
 have d3:(m == 0)=false:=beq_eq_false_iff_ne.2 (by omega)
 have hfi:=nj op
 rw [decide_eq_true ho] at hfi
 obtain ⟨nm,fa,fb,sh,e,_,hsh⟩:=EV ho
 rw [e] at hfi
 have hs:=pz (op:=op) hm hf hfm hg hgm
 rw [← hsh f g m] at hs ⊢
 unfold Vz at *
 refine aI Tryz.func191 [.tmp 8] ?_
 by_cases c1:sh=1
 ·have g1:(sh == 1)=true:=beq_iff_eq.2 c1
  rw [if_pos c1]
  repeat' (first|with_reducible exact aK|refine ak (And.intro d1 (And.intro d2 (And.intro d3 g1))) ?_|refine an ?_|((first|refine aj (fun K hK => ?_)|refine ae (hfi) ?_);and_intros;all_goals first|(refine hK _ ?_;clear hK K)|try exact aa)|(refine ai ?_;(try clear hB KB);(try clear hK K)))
 have g1:(sh == 1)=false:=beq_eq_false_iff_ne.2 c1
 rw [if_neg c1] at hs ⊢
 by_cases c2:sh=2
 ·have g2:(sh == 2)=true:=beq_iff_eq.2 c2
  rw [if_pos c2]
  repeat' (first|with_reducible exact aK|refine ak (And.intro d1 (And.intro d2 (And.intro d3 (And.intro g1 g2)))) ?_|refine an ?_|((first|refine aj (fun K hK => ?_)|refine ae (hfi) ?_);and_intros;all_goals first|(refine hK _ ?_;clear hK K)|try exact aa)|(refine ai ?_;(try clear hB KB);(try clear hK K)))
 have g2:(sh == 2)=false:=beq_eq_false_iff_ne.2 c2
 rw [if_neg c2] at hs ⊢
 by_cases c3:sh=3
 ·have g3:(sh == 3)=true:=beq_iff_eq.2 c3
  rw [if_pos c3] at hs ⊢
  have h1:=yj m f (m - f) g m ⟨by omega,hle⟩ ⟨hf,by omega⟩ ⟨by omega,by omega⟩ ⟨hg,by omega⟩ ⟨hp,hle⟩ (by omega)
  repeat' (first|with_reducible exact aK|refine ak (And.intro d1 (And.intro d2 (And.intro d3 (And.intro g1 (And.intro g2 g3))))) ?_|refine an ?_|((first|refine aj (fun K hK => ?_)|refine ae (hfi) ?_|refine ae (h1) ?_);and_intros;all_goals first|(refine hK _ ?_;clear hK K)|try exact aa)|(refine ai ?_;(try clear hB KB);(try clear hK K)))
 have g3:(sh == 3)=false:=beq_eq_false_iff_ne.2 c3
 rw [if_neg c3] at hs ⊢
 by_cases c4:sh=4
 ·have g4:(sh == 4)=true:=beq_iff_eq.2 c4
  rw [if_pos c4] at hs ⊢
  have h1:=yj f g 0 0 m ⟨hf,by omega⟩ ⟨hg,by omega⟩ ⟨by decide,by decide⟩ ⟨by decide,by decide⟩ ⟨hp,hle⟩ (by rw [Int.mul_zero,Int.add_zero];omega)
  rw [Int.mul_zero,Int.add_zero] at h1
  repeat' (first|with_reducible exact aK|refine ak (And.intro d1 (And.intro d2 (And.intro d3 (And.intro g1 (And.intro g2 (And.intro g3 g4)))))) ?_|refine an ?_|((first|refine aj (fun K hK => ?_)|refine ae (hfi) ?_|refine ae (h1) ?_);and_intros;all_goals first|(refine hK _ ?_;clear hK K)|try exact aa)|(refine ai ?_;(try clear hB KB);(try clear hK K)))
 have g4:(sh == 4)=false:=beq_eq_false_iff_ne.2 c4
 rw [if_neg c4]
 repeat' (first|with_reducible exact aK|refine ak (And.intro d1 (And.intro d2 (And.intro d3 (And.intro g1 (And.intro g2 (And.intro g3 g4)))))) ?_|refine an ?_|((first|refine aj (fun K hK => ?_)|refine ae (hfi) ?_);and_intros;all_goals first|(refine hK _ ?_;clear hK K)|try exact aa)|(refine ai ?_;(try clear hB KB);(try clear hK K)))
end Go.Proofs.YtcbifofjjpfbcaaGreatDoor
set_option maxHeartbeats 2000000
set_option maxRecDepth 16000
namespace Go.Proofs.YtcbifofjjpfbcaaGreatDoor
open Go Go.SL
open Go.RowKit (wrap64)
theorem PixV.u {p:Pixel} {m:Int} (hm:Full m) (h:PixV p m):p.c0≤65535∧p.c1≤65535∧p.c2≤65535∧p.a≤65535∧p.f≤65535:=by
 have:=hm.le
 have:=h.l0
 have:=h.l1
 have:=h.l2
 have:=h.af
 have:=h.fm
 omega
theorem jZ {p:Pixel} {m:Int} (h:PixV p m):kv p m=true:=decide_eq_true ⟨h.l0,h.l1,h.l2,h.af,h.fm⟩
def cH (x:Acc):List PV:=[PU x.c0,PU x.c1,PU x.c2,PU x.a,PU x.own,PU x.f]
attribute [local go_sem] cH
theorem DP {i:Int} (h:0≤i∧i≤3):i=0∨i=1∨i=2∨i=3:=by omega
end Go.Proofs.YtcbifofjjpfbcaaGreatDoor
