/- Part of the proof: U2, W2, W4. -/
import Derived.Test.YtmfblbbemekkoaaGreatDoorK9
set_option linter.unusedSimpArgs false
set_option linter.unusedVariables false
set_option maxHeartbeats 2000000
set_option maxRecDepth 16000
namespace Go.Proofs.YtmfblbbemekkoaaGreatDoor
open Go Go.SL
open Go.RowKit (wrap64)
theorem PixV.u {p:Pixel} {m:Int} (hm:Full m) (h:PixV p m):p.c0≤65535∧p.c1≤65535∧p.c2≤65535∧p.a≤65535∧p.f≤65535:=by
 have:=hm.le
 have:=h.l0
 have:=h.l1
 have:=h.l2
 have:=h.af
 have:=h.fm
 omega
theorem lx {p:Pixel} {m:Int} (h:PixV p m):kP p m=true:=decide_eq_true ⟨h.l0,h.l1,h.l2,h.af,h.fm⟩
def dI (x:Acc):List PV:=[PU x.c0,PU x.c1,PU x.c2,PU x.a,PU x.own,PU x.f]
attribute [local go_sem] dI
theorem zt {i:Int} (h:0≤i∧i≤3):i=0∨i=1∨i=2∨i=3:=by omega
end Go.Proofs.YtmfblbbemekkoaaGreatDoor
set_option maxHeartbeats 2000000
set_option maxRecDepth 16000
namespace Go.Proofs.YtmfblbbemekkoaaGreatDoor
open Go Go.SL
open Go.RowKit (wrap64)
abbrev UD (x:Int):BV := .c (.p (.val (.int .u32 x)))
theorem qD (n d:Int) (hn:Q64 n) (hd:Q64 d):aD Sg 178 [UQ n,UQ d] (fun r=>r = .b (UQ (bG n d))):=by
 obtain ⟨n0,n1⟩:=hn
 obtain ⟨d0,d1⟩:=hd
 refine aC Tryz.func178 [.tmp 4] ?_
 repeat' (first|refine ak ?_|(refine ai (fun K hK => ?_);and_intros;all_goals first|(refine hK _ ?_;clear hK K)|try exact aa)|(apply eE;(case hf=>rfl);(case hc=>exact eC);(all_goals first|(intro hb;(try simp only [qK] at hb))|skip))|exact bO|(refine bc (fun hb => ?_) (fun hb => ?_);all_goals try exact aJ)|(refine an ?_;(try clear hB KB);(try clear hK K)))
 ·rw [bG,if_pos hb]
 ·have h1:=Int.emod_nonneg n hb
  have h2:=Int.emod_lt_of_pos n (show 0<d by omega)
  have h3:0≤n / d:=Int.ediv_nonneg n0 d0
  have h4:n / d≤n:=Int.ediv_le_self _ n0
  have h5:n % d≥d - n % d→n / d+1≤n:=fun q=>by
   have:=Gy n0 (show 0<d by omega)
   rw [bG,if_neg hb,if_pos q] at this
   exact this.2
  rw [bG,if_neg hb,wq (n / d) ⟨h3,by omega⟩,wq (d - n % d) ⟨by omega,by omega⟩]
  by_cases q:n % d≥d - n % d
  ·have:=h5 q
   rw [if_pos q,if_pos q,wq _ ⟨by omega,by omega⟩]
  ·rw [if_neg q,if_neg q]
theorem mM (n:Int):IntKind.u32.wrap n=n % 4294967296:=by
 simp only [IntKind.wrap,IntKind.bits,IntKind.signed];simp
theorem Iw {a:Int} (h0:0≤a) (h1:a<4294967296):yC .u32 a 255=a % 256:=by
 obtain ⟨n,rfl⟩:=Int.eq_ofNat_of_zero_le h0
 have e:(BitVec.ofInt 32 (n:Int)).toNat=n:=by
  rw [BitVec.toNat_ofInt];omega
 show IntKind.u32.wrap (BitVec.ofInt 32 (n:Int) &&& BitVec.ofInt 32 255).toNat=_
 rw [BitVec.toNat_and,e,show (BitVec.ofInt 32 255).toNat=2 ^ 8 - 1 by decide,Nat.and_two_pow_sub_one_eq_mod,mM]
 omega
theorem IR {a:Int} (h0:0≤a) (h1:a<18446744073709551616):yC .u64 a 65535=a % 65536:=by
 obtain ⟨n,rfl⟩:=Int.eq_ofNat_of_zero_le h0
 have e:(BitVec.ofInt 64 (n:Int)).toNat=n:=by
  rw [BitVec.toNat_ofInt];omega
 show IntKind.u64.wrap (BitVec.ofInt 64 (n:Int) &&& BitVec.ofInt 64 65535).toNat=_
 rw [BitVec.toNat_and,e,show (BitVec.ofInt 64 65535).toNat=2 ^ 16 - 1 by decide,Nat.and_two_pow_sub_one_eq_mod,ml (by omega) (by omega)]
 omega
theorem kL (n:Int) (h0:0≤n) (h1:n<4294967296):aD Sg 118 [UD n] (fun r=>r = .b (UD (bG n 255))):=by
 refine aC Tryz.func118 [.tmp 2] ?_
 repeat' (first|refine ak ?_|(refine ai (fun K hK => ?_);and_intros;all_goals first|(refine hK _ ?_;clear hK K)|try exact aa))
 refine aS (X:=Int × Int) (fun s=>aZ [(0, .b (UD s.1)),(3, .b (UD s.2))] [] 1) (fun s=>255 * s.2+s.1=n∧0≤s.1∧0≤s.2) (fun s=>s.1.toNat) (n,0) ?_ ?_ ?_
 ·exact ⟨by dsimp only;omega,h0,Int.le_refl _⟩
 ·refine ay [] ?_ ?_
  and_intros
  all_goals first|exact ao|skip
 ·rintro ⟨k,q⟩ ⟨e,k0,q0⟩
  dsimp only at e k0 q0 ⊢
  have ha:yC .u32 k 255=k % 256:=Iw k0 (by omega)
  by_cases c:k>255
  ·have g1:decide (k>255)=true:=decide_eq_true c
   repeat' (first|refine aj g1 ?_|refine ak ?_|(refine ai (fun K hK => ?_);and_intros;all_goals first|(refine hK _ ?_;clear hK K)|try exact aa))
   rw [jf,ah]
   refine au (k / 256+k % 256,q+k / 256) ?_ ⟨by dsimp only;omega,by dsimp only;omega,by dsimp only;omega⟩ (by dsimp only;omega)
   have hs:k.fdiv (2 ^ min 8 32)=k / 256:=by rw [Int.fdiv_eq_ediv_of_nonneg _ (by decide)];rfl
   refine ay [] ?_ ?_
   and_intros
   all_goals first|exact ao|skip
   ·exact .inl (by rw [hs,ha,mM,show (k / 256+k % 256) % 4294967296=k / 256+k % 256 by omega])
   ·exact .inl (by rw [hs,mM,show (q+k / 256) % 4294967296=q+k / 256 by omega])
  ·have g1:decide (k>255)=false:=decide_eq_false c
   repeat' (first|refine aj g1 ?_|refine ak ?_|(refine ai (fun K hK => ?_);and_intros;all_goals first|(refine hK _ ?_;clear hK K)|try exact aa)|(apply eE;(case hf=>rfl);(case hc=>exact eC);(all_goals first|(intro hb;(try simp only [qK] at hb))|skip))|exact bO|(refine an ?_;(try clear hB KB);(try clear hK K)))
   have hh:=zL (d:=255) (q:=q) (n:=k) (n0:=n) (by decide) e k0 (by omega) (by decide)
   rw [show ((255:Int)+1) / 2=128 from rfl] at hh
   rw [hh,mM,show (q+1) % 4294967296=q+1 by omega]
theorem iy (n:Int) (h:Q64 n):aD Sg 119 [UQ n] (fun r=>r = .b (UQ (bG n 65535))):=by
 obtain ⟨h0,h1⟩:=h
 refine aC Tryz.func119 [.tmp 2] ?_
 repeat' (first|refine ak ?_|(refine ai (fun K hK => ?_);and_intros;all_goals first|(refine hK _ ?_;clear hK K)|try exact aa))
 refine aS (X:=Int × Int) (fun s=>aZ [(0, .b (UQ s.1)),(3, .b (UQ s.2))] [] 1) (fun s=>65535 * s.2+s.1=n∧0≤s.1∧0≤s.2) (fun s=>s.1.toNat) (n,0) ?_ ?_ ?_
 ·exact ⟨by dsimp only;omega,h0,Int.le_refl _⟩
 ·refine ay [] ?_ ?_
  and_intros
  all_goals first|exact ao|skip
 ·rintro ⟨k,q⟩ ⟨e,k0,q0⟩
  dsimp only at e k0 q0 ⊢
  have ha:yC .u64 k 65535=k % 65536:=IR k0 (by omega)
  by_cases c:k>65535
  ·have g1:decide (k>65535)=true:=decide_eq_true c
   repeat' (first|refine aj g1 ?_|refine ak ?_|(refine ai (fun K hK => ?_);and_intros;all_goals first|(refine hK _ ?_;clear hK K)|try exact aa))
   rw [jf,ah]
   refine au (k / 65536+k % 65536,q+k / 65536) ?_ ⟨by dsimp only;omega,by dsimp only;omega,by dsimp only;omega⟩ (by dsimp only;omega)
   have hs:k.fdiv (2 ^ min 16 64)=k / 65536:=by rw [Int.fdiv_eq_ediv_of_nonneg _ (by decide)];rfl
   refine ay [] ?_ ?_
   and_intros
   all_goals first|exact ao|skip
   ·exact .inl (by rw [hs,ha])
   ·exact .inl (by rw [hs])
  ·have g1:decide (k>65535)=false:=decide_eq_false c
   repeat' (first|refine aj g1 ?_|refine ak ?_|(refine ai (fun K hK => ?_);and_intros;all_goals first|(refine hK _ ?_;clear hK K)|try exact aa)|(apply eE;(case hf=>rfl);(case hc=>exact eC);(all_goals first|(intro hb;(try simp only [qK] at hb))|skip))|exact bO|(refine an ?_;(try clear hB KB);(try clear hK K)))
   have hh:=zL (d:=65535) (q:=q) (n:=k) (n0:=n) (by decide) e k0 (by omega) (by decide)
   rw [show ((65535:Int)+1) / 2=32768 from rfl] at hh
   rw [hh]
end Go.Proofs.YtmfblbbemekkoaaGreatDoor
set_option maxHeartbeats 4000000
set_option maxRecDepth 16000
namespace Go.Proofs.YtmfblbbemekkoaaGreatDoor
open Go Go.SL
open Go.RowKit (wrap64)
def dp (n:Nat):Nat:=if n=0 then 0 else n.log2+1
theorem lD {n:Nat} (h:0<n):1≤dp n∧2 ^ (dp n - 1)≤n∧n<2 ^ dp n:=by
 unfold dp
 rw [if_neg (by omega)]
 refine ⟨by omega, ?_,Nat.lt_log2_self⟩
 rw [Nat.add_sub_cancel]
 exact Nat.log2_self_le (by omega)
theorem DX {n a:Nat} (h1:2 ^ a≤n) (h2:n<2 ^ (a+1)):dp n=a+1:=by
 have h0:0<n:=Nat.lt_of_lt_of_le (Nat.pow_pos (by decide)) h1
 obtain ⟨b0,b1,b2⟩:=lD h0
 generalize dp n=b at *
 have c1:a<b:=(Nat.pow_lt_pow_iff_right (by decide)).1 (Nat.lt_of_le_of_lt h1 b2)
 have c2:b - 1<a+1:=(Nat.pow_lt_pow_iff_right (by decide)).1 (Nat.lt_of_le_of_lt b1 h2)
 omega
theorem Bn {n k:Nat} (h:2 ^ k≤n):dp n=dp (n / 2 ^ k)+k:=by
 have hp:0<2 ^ k:=Nat.pow_pos (by decide)
 have h0:0<n / 2 ^ k:=Nat.div_pos h hp
 obtain ⟨b0,b1,b2⟩:=lD h0
 generalize dp (n / 2 ^ k)=b at *
 have e1:2 ^ (b - 1) * 2 ^ k≤n:=(Nat.le_div_iff_mul_le hp).1 b1
 have e2:n<2 ^ b * 2 ^ k:=(Nat.div_lt_iff_lt_mul hp).1 b2
 rw [← Nat.pow_add] at e1 e2
 have:=DX (n:=n) (a:=b - 1+k) e1 (by rw [show b - 1+k+1=b+k by omega];exact e2)
 omega
theorem JD (a:Int):a.fdiv (2 ^ min 32 64)=a / 4294967296:=by rw [Int.fdiv_eq_ediv_of_nonneg _ (by decide)];rfl
theorem Qw (a:Int):a.fdiv (2 ^ min 16 64)=a / 65536:=by rw [Int.fdiv_eq_ediv_of_nonneg _ (by decide)];rfl
theorem Rj (a:Int):a.fdiv (2 ^ min 8 64)=a / 256:=by rw [Int.fdiv_eq_ediv_of_nonneg _ (by decide)];rfl
attribute [local go_sem] JD Qw Rj
theorem Gq (n:Int):IntKind.u8.wrap n=n % 256:=by
 simp only [IntKind.wrap,IntKind.bits,IntKind.signed];simp
theorem fY {x v:Int} {k:Nat} (hv:v=((2 ^ k:Nat):Int)) (h:x≥v):dp x.toNat=dp (x / v).toNat+k:=by
 have hp:0<2 ^ k:=Nat.pow_pos (by decide)
 obtain ⟨n,rfl⟩:=Int.eq_ofNat_of_zero_le (show 0≤x by omega)
 subst hv
 rw [← Int.natCast_ediv,Int.toNat_natCast,Int.toNat_natCast]
 exact Bn (by omega)
theorem iP {tab : ByteArray} (hz : tab.size = 256) (hg : ∀ k, k < 256 → (tab.get! k).toNat = dp k) {x y : Int} {k : Int} (h0 : 0 ≤ y) (h1 : y < 256) (hk : 0 ≤ k ∧ k ≤ 56) (hl : (dp x.toNat : Int) = dp y.toNat + k) :
  IntKind.u8.wrap y<tab.size∧SV.b (BV.c (CV.p (PV.val (Value.int IntKind.i64 (IntKind.i64.wrap (k+IntKind.i64.wrap ((tab.get! (IntKind.u8.wrap y).toNat).toNat:Int)))))))=SV.b (I (dp x.toNat)):=by
 have hw:IntKind.u8.wrap y=y:=by rw [Gq];omega
 have hb:(tab.get! y.toNat).toNat<256:=(tab.get! y.toNat).toNat_lt
 have he:=hg y.toNat (by omega)
 rw [hw,hz]
 refine ⟨h1, ?_⟩
 rw [he] at hb ⊢
 rw [ef (n:=((dp y.toNat:Nat):Int)) (by omega) (by omega),ef (by omega) (by omega),hl,Int.add_comm]
theorem CA (x:Int) (h:Q64 x):aD Sg 272 [bN x] (fun r=>r = .b (I (dp x.toNat))):=by
 obtain ⟨x0,xu⟩:=h
 refine aC Tryz.func272 [.tmp 2] ?_
 generalize hT:ByteArray.mk _=tab
 have hz:tab.size=256:=by rw [← hT];rfl
 have hg:∀ k,k<256→(tab.get! k).toNat=dp k:=by rw [← hT];decide +kernel
 clear hT
 by_cases c1:x≥4294967296
 ·have g1:decide (x≥4294967296)=true:=decide_eq_true c1
  by_cases c2:x / 4294967296≥65536
  ·have g2:decide (x / 4294967296≥65536)=true:=decide_eq_true c2
   by_cases c3:x / 4294967296 / 65536≥256
   ·have g3:decide (x / 4294967296 / 65536≥256)=true:=decide_eq_true c3
    have hl:(dp x.toNat:Int)=dp (x / 4294967296 / 65536 / 256).toNat+56:=by
     rw [fY (x:=x) (k:=32) (v:=4294967296) (by decide) c1]
     rw [fY (x:=x / 4294967296) (k:=16) (v:=65536) (by decide) c2]
     rw [fY (x:=x / 4294967296 / 65536) (k:=8) (v:=256) (by decide) c3]
     omega
    have hf:=iP hz hg (x:=x) (y:=x / 4294967296 / 65536 / 256) (k:=56) (by omega) (by omega) (by omega) hl
    repeat' (first|refine aj (And.intro g1 (And.intro g2 g3)) ?_|refine ak ?_|(refine ai (fun K hK => ?_);and_intros;all_goals first|(refine hK _ ?_;clear hK K)|try exact aa)|(refine an ?_;(try clear hB KB);(try clear hK K)))
    exact hf.2
   ·have g3:decide (x / 4294967296 / 65536≥256)=false:=decide_eq_false c3
    have hl:(dp x.toNat:Int)=dp (x / 4294967296 / 65536).toNat+48:=by
     rw [fY (x:=x) (k:=32) (v:=4294967296) (by decide) c1]
     rw [fY (x:=x / 4294967296) (k:=16) (v:=65536) (by decide) c2]
     omega
    have hf:=iP hz hg (x:=x) (y:=x / 4294967296 / 65536) (k:=48) (by omega) (by omega) (by omega) hl
    repeat' (first|refine aj (And.intro g1 (And.intro g2 g3)) ?_|refine ak ?_|(refine ai (fun K hK => ?_);and_intros;all_goals first|(refine hK _ ?_;clear hK K)|try exact aa)|(refine an ?_;(try clear hB KB);(try clear hK K)))
    exact hf.2
  ·have g2:decide (x / 4294967296≥65536)=false:=decide_eq_false c2
   by_cases c3:x / 4294967296≥256
   ·have g3:decide (x / 4294967296≥256)=true:=decide_eq_true c3
    have hl:(dp x.toNat:Int)=dp (x / 4294967296 / 256).toNat+40:=by
     rw [fY (x:=x) (k:=32) (v:=4294967296) (by decide) c1]
     rw [fY (x:=x / 4294967296) (k:=8) (v:=256) (by decide) c3]
     omega
    have hf:=iP hz hg (x:=x) (y:=x / 4294967296 / 256) (k:=40) (by omega) (by omega) (by omega) hl
    repeat' (first|refine aj (And.intro g1 (And.intro g2 g3)) ?_|refine ak ?_|(refine ai (fun K hK => ?_);and_intros;all_goals first|(refine hK _ ?_;clear hK K)|try exact aa)|(refine an ?_;(try clear hB KB);(try clear hK K)))
    exact hf.2
   ·have g3:decide (x / 4294967296≥256)=false:=decide_eq_false c3
    have hl:(dp x.toNat:Int)=dp (x / 4294967296).toNat+32:=by
     rw [fY (x:=x) (k:=32) (v:=4294967296) (by decide) c1]
     omega
    have hf:=iP hz hg (x:=x) (y:=x / 4294967296) (k:=32) (by omega) (by omega) (by omega) hl
    repeat' (first|refine aj (And.intro g1 (And.intro g2 g3)) ?_|refine ak ?_|(refine ai (fun K hK => ?_);and_intros;all_goals first|(refine hK _ ?_;clear hK K)|try exact aa)|(refine an ?_;(try clear hB KB);(try clear hK K)))
    exact hf.2
 ·have g1:decide (x≥4294967296)=false:=decide_eq_false c1
  by_cases c2:x≥65536
  ·have g2:decide (x≥65536)=true:=decide_eq_true c2
   by_cases c3:x / 65536≥256
   ·have g3:decide (x / 65536≥256)=true:=decide_eq_true c3
    have hl:(dp x.toNat:Int)=dp (x / 65536 / 256).toNat+24:=by
     rw [fY (x:=x) (k:=16) (v:=65536) (by decide) c2]
     rw [fY (x:=x / 65536) (k:=8) (v:=256) (by decide) c3]
     omega
    have hf:=iP hz hg (x:=x) (y:=x / 65536 / 256) (k:=24) (by omega) (by omega) (by omega) hl
    repeat' (first|refine aj (And.intro g1 (And.intro g2 g3)) ?_|refine ak ?_|(refine ai (fun K hK => ?_);and_intros;all_goals first|(refine hK _ ?_;clear hK K)|try exact aa)|(refine an ?_;(try clear hB KB);(try clear hK K)))
    exact hf.2
   ·have g3:decide (x / 65536≥256)=false:=decide_eq_false c3
    have hl:(dp x.toNat:Int)=dp (x / 65536).toNat+16:=by
     rw [fY (x:=x) (k:=16) (v:=65536) (by decide) c2]
     omega
    have hf:=iP hz hg (x:=x) (y:=x / 65536) (k:=16) (by omega) (by omega) (by omega) hl
    repeat' (first|refine aj (And.intro g1 (And.intro g2 g3)) ?_|refine ak ?_|(refine ai (fun K hK => ?_);and_intros;all_goals first|(refine hK _ ?_;clear hK K)|try exact aa)|(refine an ?_;(try clear hB KB);(try clear hK K)))
    exact hf.2
  ·have g2:decide (x≥65536)=false:=decide_eq_false c2
   by_cases c3:x≥256
   ·have g3:decide (x≥256)=true:=decide_eq_true c3
    have hl:(dp x.toNat:Int)=dp (x / 256).toNat+8:=by
     rw [fY (x:=x) (k:=8) (v:=256) (by decide) c3]
     omega
    have hf:=iP hz hg (x:=x) (y:=x / 256) (k:=8) (by omega) (by omega) (by omega) hl
    repeat' (first|refine aj (And.intro g1 (And.intro g2 g3)) ?_|refine ak ?_|(refine ai (fun K hK => ?_);and_intros;all_goals first|(refine hK _ ?_;clear hK K)|try exact aa)|(refine an ?_;(try clear hB KB);(try clear hK K)))
    exact hf.2
   ·have g3:decide (x≥256)=false:=decide_eq_false c3
    have hl:(dp x.toNat:Int)=dp (x).toNat+0:=by
     omega
    have hf:=iP hz hg (x:=x) (y:=x) (k:=0) (by omega) (by omega) (by omega) hl
    repeat' (first|refine aj (And.intro g1 (And.intro g2 g3)) ?_|refine ak ?_|(refine ai (fun K hK => ?_);and_intros;all_goals first|(refine hK _ ?_;clear hK K)|try exact aa)|(refine an ?_;(try clear hB KB);(try clear hK K)))
    exact hf.2
theorem zx {x:Int} (h:Q64 x):dp x.toNat≤64:=by
 obtain ⟨h0,h1⟩:=h
 rcases Nat.eq_zero_or_pos x.toNat with q|q
 ·rw [q];decide
 ·obtain ⟨b0,b1,b2⟩:=lD q
  refine Nat.not_lt.1 fun c => ?_
  have:2 ^ 64≤2 ^ (dp x.toNat - 1):=Nat.pow_le_pow_right (by decide) (by omega)
  omega
theorem FQ (x:Int) (h:Q64 x):aD Sg 270 [bN x] (fun r=>r = .b (I (64 - dp x.toNat))):=by
 have hl:=CA x h
 have hle:=zx h
 refine aC Tryz.func270 [.tmp 2] ?_
 repeat' (first|with_reducible exact cn|((first|refine ai (fun K hK => ?_)|refine ae (hl) ?_);and_intros;all_goals first|(refine hK _ ?_;clear hK K)|try exact aa)|(refine an ?_;(try clear hB KB);(try clear hK K)))
end Go.Proofs.YtmfblbbemekkoaaGreatDoor
