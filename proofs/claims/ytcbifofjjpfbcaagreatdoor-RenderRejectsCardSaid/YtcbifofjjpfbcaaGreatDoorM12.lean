/- Part of the proof: U5, U6. -/
import Derived.Test.YtcbifofjjpfbcaaGreatDoorM9
set_option linter.unusedSimpArgs false
set_option linter.unusedVariables false
set_option maxHeartbeats 2000000
set_option maxRecDepth 16000
namespace Go.Proofs.YtcbifofjjpfbcaaGreatDoor
open Go Go.SL
open Go.RowKit (wrap64)
section
def ks (x:Ex):List PV:=[.val (.int .u64 (x.p / 18446744073709551616)), .val (.int .u64 (x.p % 18446744073709551616)), .val (.int .u64 x.q), .val (.int .u64 x.r), .val (.int .u64 x.d)]
attribute [local go_sem] qE ks
structure ExS (x:Ex):Prop where
 p0:0≤x.p
 p1:x.p<79228162514264337593543950336
 q0:0≤x.q
 q1:x.q<140737488355328
 r0:0≤x.r
 r1:x.r<8589934592
 d0:0≤x.d
 d1:x.d<18446744073709551616
theorem sI {x:Ex} (h:ExS x):0≤x.q * x.q∧x.q * x.q<340282366920938463463374607431768211456∧0≤x.q * x.q * x.r∧x.q * x.q * x.r<340282366920938463463374607431768211456:=by
 obtain ⟨p0,p1,q0,q1,r0,r1,d0,d1⟩:=h;have h1:0≤x.q * x.q:=ao q0 q0;have h2:x.q * x.q≤140737488355327 * 140737488355327:=az (by omega) (by omega) q0 (by omega);have h3:x.q * x.q * x.r≤140737488355327 * 140737488355327 * 8589934591:=az h2 (by omega) r0 (by omega);exact ⟨h1,by omega,ao h1 r0,by omega⟩
def mT (x:Ex) (n:Int):Int:=if n / 18446744073709551616>0 then -1 else jj (x.q * x.q * x.r) (n % 18446744073709551616 * (n % 18446744073709551616))
theorem GG (x:Ex) (n:Int) (h:ExS x) (hn:Q128 n):aA Sg 254 [ag (ks x),ag (qE n)] (fun r=>r = .b (I (mT x n))):=by
 have hs:=sI h;have q64:Q64 x.q:=⟨h.q0,by have:=h.q1;omega⟩
 have r64:Q64 x.r:=⟨h.r0,by have:=h.r1;omega⟩
 have hn2:=(rN hn).2;have h1:=xK x.q x.q q64 q64;have h2:=oK (x.q * x.q) x.r hs.1 r64 hs.2.2.2;have h3:=xK (n % 18446744073709551616) (n % 18446744073709551616) hn2 hn2;have hl:n % 18446744073709551616 * (n % 18446744073709551616)≤18446744073709551615 * 18446744073709551615:=az (by omega) (by omega) (by omega) (by omega);have h4:=ql (x.q * x.q * x.r) (n % 18446744073709551616 * (n % 18446744073709551616)) ⟨hs.2.2.1,hs.2.2.2⟩ ⟨ao hn2.l hn2.l,by omega⟩;refine aD Tryz.func254 [.tmp 4] ?_
 repeat' (first|refine aC ?_|(refine aK (fun hb => ?_) (fun hb => ?_) <;> try exact aE))
 ·rw [mT,if_pos hb]
 refine fw (id:=3) (.br 0 (.br 1 (.br 2 (.br 3 (.br 4 (.br 5 (.br 6 (.br 7 (.br 8 (.br 9 (.br 10 (.br 11 (.br 12 (.br 13 .leaf .nil) .nil) .nil) .nil) .nil) .nil) .nil) .nil) .nil) .nil) .nil) .nil) .nil) .nil) (by decide +kernel) dK (fun K0 hW => ?_);refine (fun (tl:∀ st,Le st (aT [(3, .b (.c (.ptr 1 0))),(5, .b (.c (.ptr 2 0)))] [(1, .fix ((qE n).map CV.p)),(2, .fix ((qE (x.q * x.q * x.r)).map CV.p))] 3)→K0 st) => ?_) (fun st hl=>hW st _ hl ?_)
 ·clear hW;repeat' (first|exact cg|(refine cH (fun K' hK' => ?_) ?_)|(refine bJ (tl _ ?_);clear tl)|((first|refine aa (h1) ?_|refine aa (h2) ?_);(try simp (maxSteps:=999999)(disch:=omega) only [go_sem]);and_intros;(all_goals first|(refine hK' _ ?_;clear hK' K')|trivial|omega|exact Nat.le_of_ble_eq_true rfl|exact ai|skip))|(simp (maxSteps:=999999)(disch:=omega) only [go_sem];and_intros;(all_goals first|(refine hK' _ ?_;clear hK' K')|trivial|omega|exact Nat.le_of_ble_eq_true rfl|exact ai|skip)))
  all_goals
   refine au [(1,some 1),(2,some 2)] ?_ ?_;and_intros;all_goals try exact aj
 clear hW;repeat' (first|refine an (fun K hK => ?_)|refine aa (h3) ?_|refine aa (h4) ?_|refine ax ?_|(refine aq hK ?_;try clear hK K))
 rw [mT,if_neg (by omega)]
theorem Bn {x:Ex} {n:Int} (h:ExS x) (hn:0≤n):(0≤mT x n)↔n * n≤x.q * x.q * x.r:=by
 have hs:=sI h;unfold mT;split
 ·rename_i q;have:18446744073709551616 * 18446744073709551616≤n * n:=az (by omega) (by omega) (by omega) (by omega);omega
 ·rename_i q;rw [show n % 18446744073709551616=n by omega];unfold jj;split
  ·omega
  ·split <;> omega
def jw (x:Ex) (t:Bool) (n:Int):Int :=
 if n * x.d<(if t=true then 2 * x.p else x.p) then 1 else mT { x with q:=if t=true then 2 * x.q else x.q } (n * x.d - (if t=true then 2 * x.p else x.p))
theorem vV {x:Ex} {n:Int} {t:Bool} (h:ExOk x) (hn:0≤n):(0≤jw x t n)↔nU x (if t=true then 2 else 1) n=true:=by
 obtain ⟨p0,p1,q0,q1,r0,r1,d0,d1,_⟩:=h;unfold jw nU;rw [decide_eq_true_eq];cases t
 ·simp only [Bool.false_eq_true,if_false,Int.one_mul];split
  ·omega
  ·rename_i q;rw [Bn (x := { x with q:=x.q }) ⟨p0,p1,q0,by first|omega|(dsimp only;omega),r0,r1,by first|omega|(dsimp only;omega),d1⟩ (by omega)];constructor
   ·exact fun q => .inr q
   ·rintro (q|q)
    ·have:n * x.d - x.p=0:=by omega
     rw [this];exact ao (ao q0 q0) r0
    ·exact q
 ·simp only [if_true];split
  ·omega
  ·rename_i q;rw [Bn (x := { x with q:=2 * x.q }) ⟨p0,p1,by first|omega|(dsimp only;omega),by first|omega|(dsimp only;omega),r0,r1,by first|omega|(dsimp only;omega),d1⟩ (by omega)];constructor
   ·exact fun q => .inr q
   ·rintro (q|q)
    ·have:n * x.d - 2 * x.p=0:=by omega
     rw [this];exact ao (ao (by first|omega|(dsimp only;omega)) (by first|omega|(dsimp only;omega))) r0
    ·exact q
theorem vA (x:Ex) (t:Bool) (n:Int) (h:ExOk x) (hn:Q64 n):aA Sg 241 [ag (ks x),B t,cm n] (fun r=>r = .b (I (jw x t n))):=by
 obtain ⟨p0,p1,q0,q1,r0,r1,d0,d1,_⟩:=h;have d64:Q64 x.d:=⟨by omega,d1⟩
 have h1:=xK n x.d hn d64;have hr:n * x.d≤18446744073709551615 * 18446744073709551615:=az (by have:=hn.u;omega) (by omega) (by omega) (by omega);have hr0:=ao hn.l d64.l;have h2:=mZ x.p x.p p0 p0 (by omega);have q1:Q128 (n * x.d):=⟨hr0,by omega⟩
 have q2:Q128 x.p:=⟨p0,by omega⟩
 have q3:Q128 (x.p+x.p):=⟨by omega,by omega⟩
 have s1:jw x true n=if n * x.d<x.p+x.p then 1 else mT { x with q:=2 * x.q } (n * x.d - (x.p+x.p)):=by simp only [jw,if_true,Int.two_mul]
 have s2:jw x false n=if n * x.d<x.p then 1 else mT x (n * x.d - x.p):=rfl;have ht:True:=trivial;have hr2:x.p+x.p≤n * x.d→aA Sg 254 [ag (ks { x with q:=2 * x.q }),ag (qE (n * x.d - (x.p+x.p)))] (fun r=>r = .b (I (mT { x with q:=2 * x.q } (n * x.d - (x.p+x.p))))):=fun q =>
  GG { x with q:=2 * x.q } (n * x.d - (x.p+x.p)) ⟨p0,p1,by dsimp only;omega,by dsimp only;omega,r0,r1,by dsimp only;omega,d1⟩ ⟨by omega,by omega⟩
 refine aD Tryz.func241 [.tmp 6] ?_;repeat' (first|refine an (fun K hK => ?_)|refine aa (h1) ?_|(refine aq hK ?_;try clear hK K))
 refine fw (id:=2) (.br 0 (.br 1 (.br 2 (.br 3 (.br 4 (.br 5 (.br 6 .leaf .nil) .nil) .nil) (.br 4 (.br 3 (.br 5 (.br 6 .leaf .nil) .nil) .nil) .nil)) (.br 3 (.br 2 (.br 4 (.br 5 (.br 6 .leaf .nil) .nil) .nil) (.br 4 (.br 2 (.br 5 (.br 6 .leaf .nil) .nil) (.br 5 (.br 2 (.br 6 .leaf .nil) .nil) .nil)) .nil)) (.br 4 (.br 2 (.br 3 (.br 5 (.br 6 .leaf .nil) .nil) .nil) (.br 3 (.br 2 (.br 5 (.br 6 .leaf .nil) .nil) (.br 5 (.br 2 (.br 6 .leaf .nil) .nil) .nil)) .nil)) .nil))) .nil) .nil) (by decide +kernel) dK (fun K0 hW => ?_);refine (fun (tl:∀ st,(Le st (aT [(1, .b (B t)),(7, .b (.c (.ptr 1 0))),(8, .b (.c (.ptr 2 0))),(9, .b (.c (.ptr 3 0)))] [(1, .fix ((qE (n * x.d)).map CV.p)),(2, .fix ((qE x.p).map CV.p)),(3, .fix ((ks x).map CV.p))] 4)∨Le st (aT [(1, .b (B t)),(7, .b (.c (.ptr 1 0))),(8, .b (.c (.ptr 3 0))),(9, .b (.c (.ptr 2 0)))] [(1, .fix ((qE (n * x.d)).map CV.p)),(3, .fix ((qE x.p).map CV.p)),(2, .fix ((ks x).map CV.p))] 4))→K0 st) => ?_) (fun st hl=>hl.elim (fun hl=>hW st _ hl ?_) (fun hl=>hW st _ hl ?_))
 ·clear hW;repeat' (first|exact cg|(refine cH (fun K' hK' => ?_) ?_)|(refine bJ (tl _ ?_);clear tl)|(simp (maxSteps:=999999)(disch:=omega) only [go_sem];and_intros;(all_goals first|(refine hK' _ ?_;clear hK' K')|trivial|omega|exact Nat.le_of_ble_eq_true rfl|exact ai|skip)))
  all_goals first|(refine Or.inl ?_;refine au [(1,some 1),(2,some 2),(3,some 3)] ?_ ?_ <;> and_intros <;> exact aj)|(refine Or.inr ?_;refine au [(1,some 1),(2,some 2),(3,some 3)] ?_ ?_ <;> and_intros <;> exact aj)
 all_goals
  clear hW;rename_i hl';clear hl hl' K0;cases t
  ·rw [s2];by_cases hc:n * x.d<x.p
   ·repeat' (first|refine ah ht ?_|refine ax ?_|refine an (fun K hK => ?_)|refine aa (JB _ _ q1 q2 hc) ?_|(refine aq hK ?_;try clear hK K))
    rw [if_pos hc]
   ·repeat' (first|refine ah ht ?_|refine ax ?_|refine an (fun K hK => ?_)|refine aa (AQ _ _ q1 q2 (by omega)) ?_|refine aa (GG x (n * x.d - x.p) ⟨p0,p1,q0,by omega,r0,r1,by omega,d1⟩ ⟨by omega,by omega⟩) ?_|(refine aq hK ?_;try clear hK K))
    rw [if_neg hc]
  ·rw [s1];by_cases hc:n * x.d<x.p+x.p
   ·repeat' (first|refine ah ht ?_|refine ax ?_|refine an (fun K hK => ?_)|refine aa (h2) ?_|refine aa (JB _ _ q1 q3 hc) ?_|(refine aq hK ?_;try clear hK K))
    rw [if_pos hc]
   ·repeat' (first|refine ah ht ?_|refine ax ?_|refine an (fun K hK => ?_)|refine aa (h2) ?_|refine aa (AQ _ _ q1 q3 (by omega)) ?_|refine aa (hr2 (by omega)) ?_|(refine aq hK ?_;try clear hK K))
    rw [if_neg hc]
end
section
attribute [local go_sem] qE ks
theorem GH {n:Int} {k:Nat} (h0:0≤n) (hk:k<64) (hm:n % 2 ^ (k+1)=0) (h:n+2 ^ k<18446744073709551616):Me .u64 n (2 ^ k)=n+2 ^ k:=by
 obtain ⟨m,rfl⟩:=Int.eq_ofNat_of_zero_le h0;have p:((2:Int) ^ k)=((2 ^ k:Nat):Int):=by simp
 have p1:((2:Int) ^ (k+1))=((2 ^ (k+1):Nat):Int):=by simp
 rw [p] at h ⊢;rw [p1] at hm;have hlt:m+2 ^ k<18446744073709551616:=by omega
 have hm':m % 2 ^ (k+1)=0:=by omega
 show IntKind.u64.wrap (BitVec.ofInt 64 (m:Int) ||| BitVec.ofInt 64 ((2 ^ k:Nat):Int)).toNat=_;rw [BitVec.toNat_or,BitVec.toNat_ofInt,BitVec.toNat_ofInt];have e1:((m:Int) % ((2 ^ 64:Nat):Int)).toNat=m:=by omega
 have e2:(((2 ^ k:Nat):Int) % ((2 ^ 64:Nat):Int)).toNat=2 ^ k:=by omega
 rw [e1,e2];have e3:m ||| 2 ^ k=m+2 ^ k:=by
  have h1:2 ^ (k+1) * (m / 2 ^ (k+1))=m:=by have:=Nat.div_add_mod m (2 ^ (k+1));omega
  have:=Nat.two_pow_add_eq_or_of_lt (b:=2 ^ k) (i:=k+1) (Nat.pow_lt_pow_right (by decide) (by omega)) (m / 2 ^ (k+1));rw [h1] at this;exact this.symm
 rw [e3,nW (by omega) (by omega)];omega
theorem yi (x:Ex) (h:ExOk x):aA Sg 253 [ag (ks x)] (fun r=>r = .b (B true)):=by
 obtain ⟨p0,p1,q0,q1,r0,r1,d0,d1,_⟩:=h;have g1:decide (x.p / 18446744073709551616<4294967296)=true:=decide_eq_true (by omega);have g2:decide (x.q<70368744177664)=true:=decide_eq_true q1;have g3:decide (x.r<8589934592)=true:=decide_eq_true r1;have g4:decide (x.d≥1)=true:=decide_eq_true d0;refine aD Tryz.func253 [.tmp 2] ?_;repeat' (refine aC ?_)
 rw [g1,g2,g3,g4];rfl
theorem Lr (x:Ex) (h:ExOk x):aA Sg 240 [ag (ks x)] (fun r=>r = .tup [cm (cE x),B true]):=by
 have hv:=yi x h;have ht:True:=trivial;have t1:=vA x false 9223372036854775808 h ⟨by decide,by decide⟩;have b1:decide (jw x false 9223372036854775808≥0)=false:=by
  refine decide_eq_false fun q => ?_;have q1:=(vV (t:=false) h (by decide)).1 q;have q2:=mA (by have:=h.d0;omega) q1 (show (4611686018427387904:Int)≤9223372036854775808 by decide);have:=h.b;simp only [Bool.false_eq_true,if_false] at q2;rw [q2] at this;cases this
 refine aD Tryz.func240 [.tmp 2, .tmp 3] ?_;repeat' (first|refine ah b1 ?_|refine ax ?_|refine an (fun K hK => ?_)|refine aa (hv) ?_|refine aw (fun hg=>t1) ?_|(refine aq hK ?_;try clear hK K))
 refine aH (X:=Int × Int) (fun s=>aT [(1, .b (.c (.ptr 0 0))),(4, .b (cm s.1)),(5, .b (I s.2))] [(0, .fix ((ks x).map CV.p))] 1)
  (fun s => -1≤s.2∧s.2≤62∧0≤s.1∧s.1+2 ^ (s.2+1).toNat≤9223372036854775808∧s.1 % 2 ^ (s.2+1).toNat=0∧vo (nU x 1) (s.2+1).toNat s.1=cE x) (fun s=>(s.2+1).toNat) (0,62) ?_ ?_ ?_
 ·exact ⟨by decide,by decide,by decide,by decide,by decide,rfl⟩
 ·refine au [(1,some 1)] ?_ ?_;and_intros;all_goals try exact aj
 ·rintro ⟨n,i⟩ ⟨i0,i1,n0,n1,hm,hs⟩;dsimp only at i0 i1 n0 n1 hm hs ⊢;by_cases hi:0≤i
  ·obtain ⟨k,rfl⟩:=Int.eq_ofNat_of_zero_le hi;have ek:((k:Int)+1).toNat=k+1:=rfl;rw [ek] at n1 hm hs;have hp:(2:Int) ^ (k+1)=2 ^ k+2 ^ k:=by rw [Int.pow_succ];omega
   have hpos:(0:Int)<2 ^ k:=Int.pow_pos (by decide);rw [hp] at n1;have hor:=GH (n:=n) (k:=k) n0 (by omega) hm (by omega);have t2:=vA x false (n+2 ^ k) h ⟨by omega,by omega⟩;have tg:=vV (t:=false) (n:=n+2 ^ k) h (by omega);simp only [Bool.false_eq_true,if_false] at tg;rw [show vo (nU x 1) (k+1) n=vo (nU x 1) k (if nU x 1 (n+2 ^ k)=true then n+2 ^ k else n) from rfl] at hs;have hm1:n % 2 ^ k=0:=by rw [← Int.emod_emod_of_dvd n (show (2:Int) ^ k ∣ 2 ^ (k+1) from ⟨2,by rw [Int.pow_succ]⟩),hm,Int.zero_emod]
   have hm2:(n+2 ^ k) % 2 ^ k=0:=by rw [Int.add_emod_right,hm1]
   have g0:decide ((k:Int)≥0)=true:=decide_eq_true hi;have es:IntKind.u64.wrap (1 * 2 ^ min ((k:Int)).toNat 64)=2 ^ k:=by
    rw [Int.toNat_natCast,Nat.min_eq_left (by omega),Int.one_mul];exact nW (by omega) (by omega)
   have eb:Me .u64 n (IntKind.u64.wrap (1 * 2 ^ min ((k:Int)).toNat 64))=n+2 ^ k:=by rw [es,hor]
   rw [← eb] at t2;have ez:((k:Int) - 1+1).toNat=k:=by omega
   by_cases hg:jw x false (n+2 ^ k)≥0
   ·have g1:decide (jw x false (Me .u64 n (IntKind.u64.wrap (1 * 2 ^ min ((k:Int)).toNat 64)))≥0)=true:=by rw [eb];exact decide_eq_true hg
    rw [if_pos (tg.1 hg)] at hs;repeat' (first|refine ah (And.intro g0 g1) ?_|refine ax ?_|refine an (fun K hK => ?_)|refine aa (t2) ?_|(apply ba;(case hf=>rfl);(case hc=>exact bM);(all_goals first|(intro hb;(try simp only [gL] at hb))|skip))|exact aG|(refine aq hK ?_;try clear hK K))
    refine ak (n+2 ^ k,(k:Int) - 1) ?_ ⟨by dsimp only;omega,by dsimp only;omega,by dsimp only;omega, ?_, ?_, ?_⟩ ?_
    ·refine au [(1,some 1)] ?_ ?_;and_intros;all_goals try exact aj
     exact .inl (by rw [eb,if_pos hg])
    ·dsimp only;rw [ez];omega
    ·dsimp only;rw [ez];exact hm2
    ·dsimp only;rw [ez];exact hs
    ·dsimp only;omega
   ·have g1:decide (jw x false (Me .u64 n (IntKind.u64.wrap (1 * 2 ^ min ((k:Int)).toNat 64)))≥0)=false:=by rw [eb];exact decide_eq_false hg
    rw [if_neg (fun q=>hg (tg.2 q))] at hs;repeat' (first|refine ah (And.intro g0 g1) ?_|refine ax ?_|refine an (fun K hK => ?_)|refine aa (t2) ?_|(apply ba;(case hf=>rfl);(case hc=>exact bM);(all_goals first|(intro hb;(try simp only [gL] at hb))|skip))|exact aG|(refine aq hK ?_;try clear hK K))
    refine ak (n,(k:Int) - 1) ?_ ⟨by dsimp only;omega,by dsimp only;omega,by dsimp only;omega, ?_, ?_, ?_⟩ ?_
    ·refine au [(1,some 1)] ?_ ?_;and_intros;all_goals try exact aj
     exact .inl (by rw [eb,if_neg hg])
    ·dsimp only;rw [ez];omega
    ·dsimp only;rw [ez];exact hm1
    ·dsimp only;rw [ez];exact hs
    ·dsimp only;omega
  ·have g0:decide (i≥0)=false:=decide_eq_false hi;have ez:(i+1).toNat=0:=by omega
   rw [ez] at hs;rw [← hs];repeat' (first|refine ah g0 ?_|refine aC ?_)
   rfl
theorem pN (x:Ex) (h:ExOk x):aA Sg 220 [ag (ks x)] (fun r=>r = .tup [cm (hx x),B true]):=by
 have hf:=Lr x h;have ht:True:=trivial;obtain ⟨_,_,f0,f1⟩:=iG h;have t1:=vA x true (2 * cE x+1) h ⟨by omega,by omega⟩;have tg:=vV (t:=true) (n:=2 * cE x+1) h (by omega);simp only [if_true] at tg;unfold hx;refine aD Tryz.func220 [.tmp 2, .tmp 3] ?_;by_cases hg:jw x true (2 * cE x+1)≥0
 ·have g1:decide (jw x true (2 * cE x+1)≥0)=true:=decide_eq_true hg;have g2:decide (cE x+1≥9223372036854775808)=false:=decide_eq_false (by omega);rw [if_pos (tg.1 hg)];repeat' (first|with_reducible exact bq|refine ah (And.intro g1 (And.intro g2 ht)) ?_|refine ax ?_|refine an (fun K hK => ?_)|refine aa (hf) ?_|refine aa (t1) ?_|(refine aq hK ?_;try clear hK K))
 ·have g1:decide (jw x true (2 * cE x+1)≥0)=false:=decide_eq_false hg;have g2:decide (cE x≥9223372036854775808)=false:=decide_eq_false (by omega);rw [if_neg (fun q=>hg (tg.2 q))];repeat' (first|with_reducible exact bq|refine ah (And.intro g1 (And.intro g2 ht)) ?_|refine ax ?_|refine an (fun K hK => ?_)|refine aa (hf) ?_|refine aa (t1) ?_|(refine aq hK ?_;try clear hK K))
end
end Go.Proofs.YtcbifofjjpfbcaaGreatDoor
