/- Part of the proof: U6. -/
import Derived.Test.YtmfblbbemekkoaaGreatDoorM18
set_option linter.unusedSimpArgs false
set_option linter.unusedVariables false
set_option maxHeartbeats 2000000
set_option maxRecDepth 16000
namespace Go.Proofs.YtmfblbbemekkoaaGreatDoor
open Go Go.SL
open Go.RowKit (wrap64)
attribute [local go_sem] qE jt
theorem Cw {n:Int} {k:Nat} (h0:0≤n) (hk:k<64) (hm:n % 2 ^ (k+1)=0) (h:n+2 ^ k<18446744073709551616):GU .u64 n (2 ^ k)=n+2 ^ k:=by
 obtain ⟨m,rfl⟩:=Int.eq_ofNat_of_zero_le h0
 have p:((2:Int) ^ k)=((2 ^ k:Nat):Int):=by simp
 have p1:((2:Int) ^ (k+1))=((2 ^ (k+1):Nat):Int):=by simp
 rw [p] at h ⊢
 rw [p1] at hm
 have hlt:m+2 ^ k<18446744073709551616:=by omega
 have hm':m % 2 ^ (k+1)=0:=by omega
 show IntKind.u64.wrap (BitVec.ofInt 64 (m:Int) ||| BitVec.ofInt 64 ((2 ^ k:Nat):Int)).toNat=_
 rw [BitVec.toNat_or,BitVec.toNat_ofInt,BitVec.toNat_ofInt]
 have e1:((m:Int) % ((2 ^ 64:Nat):Int)).toNat=m:=by omega
 have e2:(((2 ^ k:Nat):Int) % ((2 ^ 64:Nat):Int)).toNat=2 ^ k:=by omega
 rw [e1,e2]
 have e3:m ||| 2 ^ k=m+2 ^ k:=by
  have h1:2 ^ (k+1) * (m / 2 ^ (k+1))=m:=by have:=Nat.div_add_mod m (2 ^ (k+1));omega
  have:=Nat.two_pow_add_eq_or_of_lt (b:=2 ^ k) (i:=k+1) (Nat.pow_lt_pow_right (by decide) (by omega)) (m / 2 ^ (k+1))
  rw [h1] at this
  exact this.symm
 rw [e3,me (by omega) (by omega)]
 omega
theorem vm (x:Ex) (h:ExOk x):aC Sg 250 [ag (jt x)] (fun r=>r = .b (B true)):=by
 obtain ⟨p0,p1,q0,q1,r0,r1,d0,d1,_⟩:=h
 have g1:decide (x.p / 18446744073709551616<4294967296)=true:=decide_eq_true (by omega)
 have g2:decide (x.q<70368744177664)=true:=decide_eq_true q1
 have g3:decide (x.r<8589934592)=true:=decide_eq_true r1
 have g4:decide (x.d≥1)=true:=decide_eq_true d0
 refine aA Tryz.func250 [.tmp 2] ?_
 repeat' (first|(refine ai (fun K hK => ?_);and_intros;(all_goals first|(refine hK _ ?_;clear hK K)|exact aa|skip))|(refine ak ?_;(try clear hB KB);(try clear hK K)))
 rw [g1,g2,g3,g4];rfl
theorem Gf (x:Ex) (h:ExOk x):aC Sg 237 [ag (jt x)] (fun r=>r = .tup [bQ (cg x),B true]):=by
 have hv:=vm x h
 have ht:True:=trivial
 have t1:=tz x false 9223372036854775808 h ⟨by decide,by decide⟩
 have b1:decide (iu x false 9223372036854775808≥0)=false:=by
  refine decide_eq_false fun q => ?_
  have q1:=(uA (t:=false) h (by decide)).1 q
  have q2:=oJ (by have:=h.d0;omega) q1 (show (4611686018427387904:Int)≤9223372036854775808 by decide)
  have:=h.b
  simp only [Bool.false_eq_true,if_false] at q2
  rw [q2] at this;cases this
 refine aA Tryz.func237 [.tmp 2, .tmp 3] ?_
 repeat' (first|refine aj b1 ?_|refine an ?_|((first|refine ai (fun K hK => ?_)|refine ae (hv) ?_|refine aD (fun hg=>t1) ?_);and_intros;(all_goals first|(refine hK _ ?_;clear hK K)|exact aa|skip)))
 refine aO (X:=Int × Int) (fun s=>aQ [(1, .b (.c (.ptr 0 0))),(4, .b (bQ s.1)),(5, .b (I s.2))] [(0, .fix ((jt x).map CV.p))] 1)
  (fun s => -1≤s.2∧s.2≤62∧0≤s.1∧s.1+2 ^ (s.2+1).toNat≤9223372036854775808∧s.1 % 2 ^ (s.2+1).toNat=0∧sK (nD x 1) (s.2+1).toNat s.1=cg x) (fun s=>(s.2+1).toNat) (0,62) ?_ ?_ ?_
 ·exact ⟨by decide,by decide,by decide,by decide,by decide,rfl⟩
 ·refine az [(1,some 1)] ?_ ?_
  and_intros
  all_goals first|exact ao|skip
 ·rintro ⟨n,i⟩ ⟨i0,i1,n0,n1,hm,hs⟩
  dsimp only at i0 i1 n0 n1 hm hs ⊢
  by_cases hi:0≤i
  ·obtain ⟨k,rfl⟩:=Int.eq_ofNat_of_zero_le hi
   have ek:((k:Int)+1).toNat=k+1:=rfl
   rw [ek] at n1 hm hs
   have hp:(2:Int) ^ (k+1)=2 ^ k+2 ^ k:=by rw [Int.pow_succ];omega
   have hpos:(0:Int)<2 ^ k:=Int.pow_pos (by decide)
   rw [hp] at n1
   have hor:=Cw (n:=n) (k:=k) n0 (by omega) hm (by omega)
   have t2:=tz x false (n+2 ^ k) h ⟨by omega,by omega⟩
   have tg:=uA (t:=false) (n:=n+2 ^ k) h (by omega)
   simp only [Bool.false_eq_true,if_false] at tg
   rw [show sK (nD x 1) (k+1) n=sK (nD x 1) k (if nD x 1 (n+2 ^ k)=true then n+2 ^ k else n) from rfl] at hs
   have hm1:n % 2 ^ k=0:=by
    rw [← Int.emod_emod_of_dvd n (show (2:Int) ^ k ∣ 2 ^ (k+1) from ⟨2,by rw [Int.pow_succ]⟩),hm,Int.zero_emod]
   have hm2:(n+2 ^ k) % 2 ^ k=0:=by rw [Int.add_emod_right,hm1]
   have g0:decide ((k:Int)≥0)=true:=decide_eq_true hi
   have es:IntKind.u64.wrap (1 * 2 ^ min ((k:Int)).toNat 64)=2 ^ k:=by
    rw [Int.toNat_natCast,Nat.min_eq_left (by omega),Int.one_mul]
    exact me (by omega) (by omega)
   have eb:GU .u64 n (IntKind.u64.wrap (1 * 2 ^ min ((k:Int)).toNat 64))=n+2 ^ k:=by rw [es,hor]
   rw [← eb] at t2
   have ez:((k:Int) - 1+1).toNat=k:=by omega
   by_cases hg:iu x false (n+2 ^ k)≥0
   ·have g1:decide (iu x false (GU .u64 n (IntKind.u64.wrap (1 * 2 ^ min ((k:Int)).toNat 64)))≥0)=true:=by rw [eb];exact decide_eq_true hg
    rw [if_pos (tg.1 hg)] at hs
    repeat' (first|refine aj (And.intro g0 g1) ?_|refine an ?_|((first|refine ai (fun K hK => ?_)|refine ae (t2) ?_);and_intros;(all_goals first|(refine hK _ ?_;clear hK K)|exact aa|skip))|(apply gK;(case hf=>rfl);(case hc=>exact eH);(all_goals first|(intro hb;(try simp only [ov] at hb))|skip))|exact bB)
    refine aw (n+2 ^ k,(k:Int) - 1) ?_ ⟨by dsimp only;omega,by dsimp only;omega,by dsimp only;omega, ?_, ?_, ?_⟩ ?_
    ·refine az [(1,some 1)] ?_ ?_
     and_intros
     all_goals first|exact ao|skip
     exact .inl (by rw [eb,if_pos hg])
    ·dsimp only;rw [ez];omega
    ·dsimp only;rw [ez];exact hm2
    ·dsimp only;rw [ez];exact hs
    ·dsimp only;omega
   ·have g1:decide (iu x false (GU .u64 n (IntKind.u64.wrap (1 * 2 ^ min ((k:Int)).toNat 64)))≥0)=false:=by rw [eb];exact decide_eq_false hg
    rw [if_neg (fun q=>hg (tg.2 q))] at hs
    repeat' (first|refine aj (And.intro g0 g1) ?_|refine an ?_|((first|refine ai (fun K hK => ?_)|refine ae (t2) ?_);and_intros;(all_goals first|(refine hK _ ?_;clear hK K)|exact aa|skip))|(apply gK;(case hf=>rfl);(case hc=>exact eH);(all_goals first|(intro hb;(try simp only [ov] at hb))|skip))|exact bB)
    refine aw (n,(k:Int) - 1) ?_ ⟨by dsimp only;omega,by dsimp only;omega,by dsimp only;omega, ?_, ?_, ?_⟩ ?_
    ·refine az [(1,some 1)] ?_ ?_
     and_intros
     all_goals first|exact ao|skip
     exact .inl (by rw [eb,if_neg hg])
    ·dsimp only;rw [ez];omega
    ·dsimp only;rw [ez];exact hm1
    ·dsimp only;rw [ez];exact hs
    ·dsimp only;omega
  ·have g0:decide (i≥0)=false:=decide_eq_false hi
   have ez:(i+1).toNat=0:=by omega
   rw [ez] at hs
   rw [← hs]
   repeat' (first|refine aj g0 ?_|refine an ?_|(refine ai (fun K hK => ?_);and_intros;(all_goals first|(refine hK _ ?_;clear hK K)|exact aa|skip))|(refine ak ?_;(try clear hB KB);(try clear hK K)))
   rfl
theorem nL (x:Ex) (h:ExOk x):aC Sg 220 [ag (jt x)] (fun r=>r = .tup [bQ (hx x),B true]):=by
 have hf:=Gf x h
 have ht:True:=trivial
 obtain ⟨_,_,f0,f1⟩:=gB h
 have t1:=tz x true (2 * cg x+1) h ⟨by omega,by omega⟩
 have tg:=uA (t:=true) (n:=2 * cg x+1) h (by omega)
 simp only [if_true] at tg
 unfold hx
 refine aA Tryz.func220 [.tmp 2, .tmp 3] ?_
 by_cases hg:iu x true (2 * cg x+1)≥0
 ·have g1:decide (iu x true (2 * cg x+1)≥0)=true:=decide_eq_true hg
  have g2:decide (cg x+1≥9223372036854775808)=false:=decide_eq_false (by omega)
  rw [if_pos (tg.1 hg)]
  repeat' (first|with_reducible exact ca|refine aj (And.intro g1 (And.intro g2 ht)) ?_|refine an ?_|((first|refine ai (fun K hK => ?_)|refine ae (hf) ?_|refine ae (t1) ?_);and_intros;(all_goals first|(refine hK _ ?_;clear hK K)|exact aa|skip))|(refine ak ?_;(try clear hB KB);(try clear hK K)))
 ·have g1:decide (iu x true (2 * cg x+1)≥0)=false:=decide_eq_false hg
  have g2:decide (cg x≥9223372036854775808)=false:=decide_eq_false (by omega)
  rw [if_neg (fun q=>hg (tg.2 q))]
  repeat' (first|with_reducible exact ca|refine aj (And.intro g1 (And.intro g2 ht)) ?_|refine an ?_|((first|refine ai (fun K hK => ?_)|refine ae (hf) ?_|refine ae (t1) ?_);and_intros;(all_goals first|(refine hK _ ?_;clear hK K)|exact aa|skip))|(refine ak ?_;(try clear hB KB);(try clear hK K)))
end Go.Proofs.YtmfblbbemekkoaaGreatDoor
