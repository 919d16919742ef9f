/- Part of the proof: U2, W2, W4. -/
import Derived.Test.YtcbifofjjpfbcaaGreatDoorM9
set_option linter.unusedSimpArgs false
set_option linter.unusedVariables false
set_option maxHeartbeats 4000000
set_option maxRecDepth 16000
namespace Go.Proofs.YtcbifofjjpfbcaaGreatDoor
open Go Go.SL
open Go.RowKit (wrap64)
section
theorem PixV.u {p:Pixel} {m:Int} (hm:Full m) (h:PixV p m):p.c0≤65535∧p.c1≤65535∧p.c2≤65535∧p.a≤65535∧p.f≤65535:=by
 have:=hm.le;have:=h.l0;have:=h.l1;have:=h.l2;have:=h.af;have:=h.fm;omega
theorem jy {p:Pixel} {m:Int} (h:PixV p m):ly p m=true:=decide_eq_true ⟨h.l0,h.l1,h.l2,h.af,h.fm⟩
theorem Ky {m:Int} (h:Full m):decide (m=255∨m=65535)=true:=decide_eq_true h.h
theorem od (p:Pixel) (k m:Int) (hm:Full m) (hp:PixV p m) (hk:0≤k) (hkm:k≤m):aA Sg 176 [ag (aS p),U k,U m] (fun r=>r = .tup [ag (aS (bF p k m)),B true]):=by
 have hle:=hm.le;have hpos:=hm.pos;have hfs:=pJ m;rw [Ky hm] at hfs;have hvs:=fW p m;rw [jy hp] at hvs;have d1:decide (k>m)=false:=decide_eq_false (by omega);have hv:=mX hm hp hk hkm;have z0:=hp.n0;have z1:=hp.n1;have z2:=hp.n2;have z3:=hp.a0;have z4:=hp.f0;obtain ⟨u0,u1,u2,u3,u4⟩:=hp.u hm;obtain ⟨v0,v1,v2,v3,v4⟩:=hv.u hm;have pr:∀ {x:Int},0≤x→x≤65535→0≤x * k∧x * k≤65535 * 65535:=fun h0 h1=>⟨ao h0 hk,az h1 (by omega) hk (by omega)⟩
 have q0:=pr hp.n0 u0;have q1:=pr hp.n1 u1;have q2:=pr hp.n2 u2;have q3:=pr hp.a0 u3;have q4:=pr hp.f0 u4;obtain ⟨e0,e1,e2,e3,e4⟩:(bF p k m).c0=bV (p.c0 * k) m∧(bF p k m).c1=bV (p.c1 * k) m∧(bF p k m).c2=bV (p.c2 * k) m∧(bF p k m).a=bV (p.a * k) m∧(bF p k m).f=bV (p.f * k) m:=⟨rfl,rfl,rfl,rfl,rfl⟩
 have n0:=hv.n0;have n1:=hv.n1;have n2:=hv.n2;have n3:=hv.a0;have n4:=hv.f0;rw [e0] at v0 n0;rw [e1] at v1 n1;rw [e2] at v2 n2;rw [e3] at v3 n3;rw [e4] at v4 n4;refine aD Tryz.func176 [.cell 6 37, .tmp 7] ?_;repeat' (first|refine ah d1 ?_|refine ax ?_|refine an (fun K hK => ?_)|refine aa (hfs) ?_|refine aw (fun hg=>hvs) ?_|(refine aq hK ?_;try clear hK K))
 refine aH (X:=Int) (fun i=>aT [(1, .b (U k)),(2, .b (U m)),(3, .b (.c (.ptr 0 0))),(6, .b (.c (.ptr 1 0))),(8, .b (.c (.ptr 2 0))),(9, .b (I i))]
  [(0, .fix ((aS p).map CV.p)),(1, .fix ((aS bQ).map CV.p)),(2, .fix [.p (PU (if 0<i then bV (p.c0 * k) m else 0)), .p (PU (if 1<i then bV (p.c1 * k) m else 0)), .p (PU (if 2<i then bV (p.c2 * k) m else 0)), .p (PU 0), .p (PU 0)])] 3) (fun i=>0≤i∧i≤3) (fun i=>(3 - i).toNat) 0 ?_ ?_ ?_
 ·omega
 ·refine au [(1,some 1),(2,some 2)] ?_ ?_;and_intros;all_goals try exact aj
 ·intro i hi;have hiv:i=0∨i=1∨i=2∨i=3:=by omega
  rcases hiv with rfl|rfl|rfl|rfl
  ·repeat' (first|refine ax ?_|refine an (fun K hK => ?_)|refine aa (jz _ m ⟨by omega,by omega⟩ ⟨by omega,by omega⟩) ?_|(refine aK (fun hb => ?_) (fun hb => ?_) <;> try exact aE)|(refine aq hK ?_;try clear hK K))
   rw [ae];refine ak 1 ?_ (by omega) (by decide);refine au [(1,some 1),(2,some 2)] ?_ ?_;and_intros;all_goals try exact aj
  ·repeat' (first|refine ax ?_|refine an (fun K hK => ?_)|refine aa (jz _ m ⟨by omega,by omega⟩ ⟨by omega,by omega⟩) ?_|(refine aK (fun hb => ?_) (fun hb => ?_) <;> try exact aE)|(refine aq hK ?_;try clear hK K))
   rw [ae];refine ak 2 ?_ (by omega) (by decide);refine au [(1,some 1),(2,some 2)] ?_ ?_;and_intros;all_goals try exact aj
  ·repeat' (first|refine ax ?_|refine an (fun K hK => ?_)|refine aa (jz _ m ⟨by omega,by omega⟩ ⟨by omega,by omega⟩) ?_|(refine aK (fun hb => ?_) (fun hb => ?_) <;> try exact aE)|(refine aq hK ?_;try clear hK K))
   rw [ae];refine ak 3 ?_ (by omega) (by decide);refine au [(1,some 1),(2,some 2)] ?_ ?_;and_intros;all_goals try exact aj
  ·repeat' (first|refine bU ?_|((first|refine an (fun K hK => ?_)|refine aa (jz _ m ⟨by omega,by omega⟩ ⟨by omega,by omega⟩) ?_);and_intros;all_goals first|(refine hK _ ?_;clear hK K)|try exact ai)|(refine aK (fun hb => ?_) (fun hb => ?_);all_goals try exact aE)|(refine ct ?_;(try clear hB KB);(try clear hK K)))
   rfl
theorem FS (p:Pixel) (k o m:Int) (hm:Full m) (hp:PixV p m) (hk:0≤k) (hkm:k≤m) (ho:0≤o) (hom:o≤m):aA Sg 192 [ag (aS p),U k,U o,U m] (fun r=>r = .tup [ag (aS (bF (bF p k m) o m)),B true]):=by
 have h1:=od p k m hm hp hk hkm;have h2:=od (bF p k m) o m hm (mX hm hp hk hkm) ho hom;have ht:True:=trivial;refine aD Tryz.func192 [.cell 8 37, .tmp 9] ?_;repeat' (first|refine ah ht ?_|refine ax ?_|refine an (fun K hK => ?_)|refine aa (h1) ?_|refine aa (h2) ?_|(refine aq hK ?_;try clear hK K))
 rfl
def cO (x:Acc):List PV:=[PU x.c0,PU x.c1,PU x.c2,PU x.a,PU x.own,PU x.f]
attribute [local go_sem] cO
theorem Mq (i k:Bool) (x:Acc) (b:Pixel):aA Sg 179 [B i,B k,ag (cO x),ag (aS b)] (fun r=>r = .tup [ag (cO (oU (eA i k x b))),ag (aS (eA i k x b))]):=by
 have ht:True:=trivial;cases i <;> cases k
 all_goals
  refine aD Tryz.func179 [.cell 8 147, .cell 9 37] ?_;repeat' (first|refine ah ht ?_|((with_reducible refine IG (id:=6) [(23,8),(25,8),(10,8),(8,6),(9,7)] ?_ (fun K hK => ?_));exact dK;refine dz ?_)|refine ax ?_|refine an (fun K hK => ?_)|(refine aq hK ?_;try clear hK K)|(refine Bi hK ?_;try clear hK K))
 all_goals rfl
theorem yI {i:Int} (h:0≤i∧i≤3):i=0∨i=1∨i=2∨i=3:=by omega
theorem pR (x:Acc) (b:Pixel) (m:Int) (hm:Full m) (h:AccV x b m):aA Sg 180 [ag (cO x),ag (aS b),U m] (fun r=>r = .b (B true)):=by
 have hfs:=pJ m;rw [Ky hm] at hfs;have hvs:=fW b m;rw [jy h.bk] at hvs;have d0:decide (x.c0>x.a)=false:=decide_eq_false (by have:=h.l0;omega);have d1:decide (x.c1>x.a)=false:=decide_eq_false (by have:=h.l1;omega);have d2:decide (x.c2>x.a)=false:=decide_eq_false (by have:=h.l2;omega);have e1:decide (x.own≤x.a)=true:=decide_eq_true h.oa;have e2:decide (x.own≤x.f)=true:=decide_eq_true h.of;have e3:decide (x.a≤m)=true:=decide_eq_true h.am;have e4:decide (x.f≤m)=true:=decide_eq_true h.fm;have e5:(b.f == b.a)=true:=beq_iff_eq.2 h.bf;have ht:True:=trivial;refine aD Tryz.func180 [.tmp 6] ?_;repeat' (refine aC ?_)
 refine aH (X:=Int) (fun i=>aT [(2, .b (U m)),(3, .b (.c (.ptr 0 0))),(4, .b (.c (.ptr 1 0))),(7, .b (I i))] [(0, .fix ((cO x).map CV.p)),(1, .fix ((aS b).map CV.p))] 2) (fun i=>0≤i∧i≤3) (fun i=>(3 - i).toNat) 0 ?_ ?_ ?_
 ·omega
 ·refine au [(1,some 1)] ?_ ?_;and_intros;all_goals try exact aj
 ·intro i hi;rcases yI hi with rfl|rfl|rfl|rfl
  ·repeat' (first|refine ah d0 ?_|refine aC ?_)
   rw [ae];refine ak 1 ?_ (by omega) (by decide);refine au [(1,some 1)] ?_ ?_;and_intros;all_goals try exact aj
  ·repeat' (first|refine ah d1 ?_|refine aC ?_)
   rw [ae];refine ak 2 ?_ (by omega) (by decide);refine au [(1,some 1)] ?_ ?_;and_intros;all_goals try exact aj
  ·repeat' (first|refine ah d2 ?_|refine aC ?_)
   rw [ae];refine ak 3 ?_ (by omega) (by decide);refine au [(1,some 1)] ?_ ?_;and_intros;all_goals try exact aj
  ·repeat' (first|refine ah ht ?_|refine ax ?_|refine an (fun K hK => ?_)|refine aa (hfs) ?_|refine aw (fun hg=>hvs) ?_|(refine aq hK ?_;try clear hK K))
   rw [e1,e2,e3,e4,e5];rfl
theorem xj {c k own m:Int} (hm:0<m) (ho:0≤own) (hu:own≤65535):(if m * c>(m - own) * k then IntKind.u16.wrap (if own<bV (m * c - (m - own) * k) m then own else bV (m * c - (m - own) * k) m) else 0)=iI c k own m:=by
 unfold iI;by_cases q:(m - own) * k<m * c
 ·have h:=dL (n:=m * c - (m - own) * k) hm (by omega);generalize bV (m * c - (m - own) * k) m=z at *
  rw [if_pos q,if_pos q];split
  ·rw [gD ho hu];omega
  ·rw [gD h (by omega)];omega
 ·rw [if_neg q,if_neg q]
theorem tz (x:Acc) (b:Pixel) (m:Int) (hm:Full m) (h:AccV x b m):aA Sg 146 [ag (cO x),ag (aS b),U m] (fun r=>r = .tup [ag (aS (bI x b m)),B true]):=by
 have hva:=pR x b m hm h;have hle:=hm.le;have hpos:=hm.pos;have hrv:=mN hm h;obtain ⟨v0,v1,v2,v3,v4⟩:=hrv.u hm;have o0:=h.o0;have om:=h.om;have am:=h.am;have bm:=h.bk.am;have fact:∀ {c k:Int},0≤c→c≤x.a→0≤k→k≤b.a→0≤m * c∧m * c≤65535 * 65535∧0≤(m - x.own) * k∧(m - x.own) * k≤65535 * 65535:=fun h0 h1 h2 h3 =>
  ⟨ao (by omega) h0,az hle (by omega) h0 (by omega),ao (by omega) h2,az (by omega) (by omega) h2 (by omega)⟩
 have n0:=h.n0;have n1:=h.n1;have n2:=h.n2;have l0:=h.l0;have l1:=h.l1;have l2:=h.l2;have b0:=h.bk.n0;have b1:=h.bk.n1;have b2:=h.bk.n2;have k0:=h.bk.l0;have k1:=h.bk.l1;have k2:=h.bk.l2;have q0:=fact n0 l0 b0 k0;have q1:=fact n1 l1 b1 k1;have q2:=fact n2 l2 b2 k2;have ht:True:=trivial;refine aD Tryz.func146 [.cell 6 37, .tmp 7] ?_;repeat' (first|refine ah ht ?_|refine ax ?_|refine an (fun K hK => ?_)|refine aa (hva) ?_|(refine aq hK ?_;try clear hK K))
 refine aH (X:=Int) (fun i=>aT [(2, .b (U m)),(3, .b (.c (.ptr 0 0))),(4, .b (.c (.ptr 1 0))),(6, .b (.c (.ptr 2 0))),(8, .b (.c (.ptr 3 0))),(9, .b (UQ m)),(10, .b (I i))]
  [(0, .fix ((cO x).map CV.p)),(1, .fix ((aS b).map CV.p)),(2, .fix ((aS bQ).map CV.p)),(3, .fix [.p (PU (if 0<i then iI x.c0 b.c0 x.own m else 0)), .p (PU (if 1<i then iI x.c1 b.c1 x.own m else 0)), .p (PU (if 2<i then iI x.c2 b.c2 x.own m else 0)), .p (PU x.own), .p (PU x.f)])] 4)
  (fun i=>0≤i∧i≤3) (fun i=>(3 - i).toNat) 0 ?_ ?_ ?_
 ·omega
 ·refine au [(1,some 1),(2,some 2),(3,some 3)] ?_ ?_;and_intros;all_goals try exact aj
 ·intro i hi;rcases yI hi with rfl|rfl|rfl|rfl
  ·repeat' (first|refine ah ht ?_|refine ax ?_|refine an (fun K hK => ?_)|refine aa (jz _ m ⟨by omega,by omega⟩ ⟨by omega,by omega⟩) ?_|(apply ba;(case hf=>rfl);(case hc=>exact bM);(all_goals first|(intro hb;(try simp only [gL] at hb))|skip))|exact aG|(refine aq hK ?_;try clear hK K))
   rw [ae];refine ak 1 ?_ (by omega) (by decide);refine au [(1,some 1),(2,some 2),(3,some 3)] ?_ ?_;and_intros;all_goals try exact aj
   exact .inl (congrArg (fun v=>PV.val (.int .u16 v)) (xj hpos o0 (by omega)))
  ·repeat' (first|refine ah ht ?_|refine ax ?_|refine an (fun K hK => ?_)|refine aa (jz _ m ⟨by omega,by omega⟩ ⟨by omega,by omega⟩) ?_|(apply ba;(case hf=>rfl);(case hc=>exact bM);(all_goals first|(intro hb;(try simp only [gL] at hb))|skip))|exact aG|(refine aq hK ?_;try clear hK K))
   rw [ae];refine ak 2 ?_ (by omega) (by decide);refine au [(1,some 1),(2,some 2),(3,some 3)] ?_ ?_;and_intros;all_goals try exact aj
   exact .inl (congrArg (fun v=>PV.val (.int .u16 v)) (xj hpos o0 (by omega)))
  ·repeat' (first|refine ah ht ?_|refine ax ?_|refine an (fun K hK => ?_)|refine aa (jz _ m ⟨by omega,by omega⟩ ⟨by omega,by omega⟩) ?_|(apply ba;(case hf=>rfl);(case hc=>exact bM);(all_goals first|(intro hb;(try simp only [gL] at hb))|skip))|exact aG|(refine aq hK ?_;try clear hK K))
   rw [ae];refine ak 3 ?_ (by omega) (by decide);refine au [(1,some 1),(2,some 2),(3,some 3)] ?_ ?_;and_intros;all_goals try exact aj
   exact .inl (congrArg (fun v=>PV.val (.int .u16 v)) (xj hpos o0 (by omega)))
  ·repeat' (first|refine ah ht ?_|refine aC ?_)
   rfl
end
abbrev UD (x:Int):BV := .c (.p (.val (.int .u32 x)))
theorem xc (n d:Int) (hn:Q64 n) (hd:Q64 d):aA Sg 167 [UQ n,UQ d] (fun r=>r = .b (UQ (bV n d))):=by
 obtain ⟨n0,n1⟩:=hn;obtain ⟨d0,d1⟩:=hd;refine aD Tryz.func167 [.tmp 4] ?_
 repeat' (first|refine aC ?_|(apply bn;(case hf=>rfl);(case hc=>exact bM);(all_goals first|(intro hb;(try simp only [gL] at hb))|skip))|exact aG|(refine aK (fun hb => ?_) (fun hb => ?_) <;> try exact aE))
 ·rw [bV,if_pos hb]
 ·have h1:=Int.emod_nonneg n hb;have h2:=Int.emod_lt_of_pos n (show 0<d by omega);have h3:0≤n / d:=Int.ediv_nonneg n0 d0;have h4:n / d≤n:=Int.ediv_le_self _ n0;have h5:n % d≥d - n % d→n / d+1≤n:=fun q=>by
   have:=Gb n0 (show 0<d by omega);rw [bV,if_neg hb,if_pos q] at this;exact this.2
  rw [bV,if_neg hb,wq (n / d) ⟨h3,by omega⟩,wq (d - n % d) ⟨by omega,by omega⟩];by_cases q:n % d≥d - n % d
  ·have:=h5 q;rw [if_pos q,if_pos q,wq _ ⟨by omega,by omega⟩]
  ·rw [if_neg q,if_neg q]
theorem qZ (n:Int):IntKind.u32.wrap n=n % 4294967296:=by simp only [IntKind.wrap,IntKind.bits,IntKind.signed];simp
theorem NP {a:Int} (h0:0≤a) (h1:a<4294967296):ya .u32 a 255=a % 256:=by
 obtain ⟨n,rfl⟩:=Int.eq_ofNat_of_zero_le h0;have e:(BitVec.ofInt 32 (n:Int)).toNat=n:=by rw [BitVec.toNat_ofInt];omega
 show IntKind.u32.wrap (BitVec.ofInt 32 (n:Int) &&& BitVec.ofInt 32 255).toNat=_;rw [BitVec.toNat_and,e,show (BitVec.ofInt 32 255).toNat=2 ^ 8 - 1 by decide,Nat.and_two_pow_sub_one_eq_mod,qZ];omega
theorem PM {a:Int} (h0:0≤a) (h1:a<18446744073709551616):ya .u64 a 65535=a % 65536:=by
 obtain ⟨n,rfl⟩:=Int.eq_ofNat_of_zero_le h0;have e:(BitVec.ofInt 64 (n:Int)).toNat=n:=by rw [BitVec.toNat_ofInt];omega
 show IntKind.u64.wrap (BitVec.ofInt 64 (n:Int) &&& BitVec.ofInt 64 65535).toNat=_;rw [BitVec.toNat_and,e,show (BitVec.ofInt 64 65535).toNat=2 ^ 16 - 1 by decide,Nat.and_two_pow_sub_one_eq_mod,nW (by omega) (by omega)];omega
theorem oi (n:Int) (h0:0≤n) (h1:n<4294967296):aA Sg 168 [UD n] (fun r=>r = .b (UD (bV n 255))):=by
 refine aD Tryz.func168 [.tmp 2] ?_;repeat' (refine aC ?_)
 refine aH (X:=Int × Int) (fun s=>aT [(0, .b (UD s.1)),(3, .b (UD s.2))] [] 1) (fun s=>255 * s.2+s.1=n∧0≤s.1∧0≤s.2) (fun s=>s.1.toNat) (n,0) ?_ ?_ ?_
 ·exact ⟨by dsimp only;omega,h0,Int.le_refl _⟩
 ·refine au [] ?_ ?_;and_intros;all_goals try exact aj
 ·rintro ⟨k,q⟩ ⟨e,k0,q0⟩;dsimp only at e k0 q0 ⊢;have ha:ya .u32 k 255=k % 256:=NP k0 (by omega);by_cases c:k>255
  ·have g1:decide (k>255)=true:=decide_eq_true c;repeat' (first|refine ah g1 ?_|refine aC ?_)
   rw [eF,ae];refine ak (k / 256+k % 256,q+k / 256) ?_ ⟨by dsimp only;omega,by dsimp only;omega,by dsimp only;omega⟩ (by dsimp only;omega);have hs:k.fdiv (2 ^ min 8 32)=k / 256:=by rw [Int.fdiv_eq_ediv_of_nonneg _ (by decide)];rfl
   refine au [] ?_ ?_;and_intros;all_goals try exact aj
   ·exact .inl (by rw [hs,ha,qZ,show (k / 256+k % 256) % 4294967296=k / 256+k % 256 by omega])
   ·exact .inl (by rw [hs,qZ,show (q+k / 256) % 4294967296=q+k / 256 by omega])
  ·have g1:decide (k>255)=false:=decide_eq_false c;repeat' (first|refine ah g1 ?_|refine aC ?_|(apply bn;(case hf=>rfl);(case hc=>exact bM);(all_goals first|(intro hb;(try simp only [gL] at hb))|skip))|exact aG)
   have hh:=GO (d:=255) (q:=q) (n:=k) (n0:=n) (by decide) e k0 (by omega) (by decide);rw [show ((255:Int)+1) / 2=128 from rfl] at hh;rw [hh,qZ,show (q+1) % 4294967296=q+1 by omega]
theorem lp (n:Int) (h:Q64 n):aA Sg 169 [UQ n] (fun r=>r = .b (UQ (bV n 65535))):=by
 obtain ⟨h0,h1⟩:=h;refine aD Tryz.func169 [.tmp 2] ?_;repeat' (refine aC ?_)
 refine aH (X:=Int × Int) (fun s=>aT [(0, .b (UQ s.1)),(3, .b (UQ s.2))] [] 1) (fun s=>65535 * s.2+s.1=n∧0≤s.1∧0≤s.2) (fun s=>s.1.toNat) (n,0) ?_ ?_ ?_
 ·exact ⟨by dsimp only;omega,h0,Int.le_refl _⟩
 ·refine au [] ?_ ?_;and_intros;all_goals try exact aj
 ·rintro ⟨k,q⟩ ⟨e,k0,q0⟩;dsimp only at e k0 q0 ⊢;have ha:ya .u64 k 65535=k % 65536:=PM k0 (by omega);by_cases c:k>65535
  ·have g1:decide (k>65535)=true:=decide_eq_true c;repeat' (first|refine ah g1 ?_|refine aC ?_)
   rw [eF,ae];refine ak (k / 65536+k % 65536,q+k / 65536) ?_ ⟨by dsimp only;omega,by dsimp only;omega,by dsimp only;omega⟩ (by dsimp only;omega);have hs:k.fdiv (2 ^ min 16 64)=k / 65536:=by rw [Int.fdiv_eq_ediv_of_nonneg _ (by decide)];rfl
   refine au [] ?_ ?_;and_intros;all_goals try exact aj
   ·exact .inl (by rw [hs,ha])
   ·exact .inl (by rw [hs])
  ·have g1:decide (k>65535)=false:=decide_eq_false c;repeat' (first|refine ah g1 ?_|refine aC ?_|(apply bn;(case hf=>rfl);(case hc=>exact bM);(all_goals first|(intro hb;(try simp only [gL] at hb))|skip))|exact aG)
   have hh:=GO (d:=65535) (q:=q) (n:=k) (n0:=n) (by decide) e k0 (by omega) (by decide);rw [show ((65535:Int)+1) / 2=32768 from rfl] at hh;rw [hh]
section
def fQ (n:Nat):Nat:=if n=0 then 0 else n.log2+1
theorem pv {n:Nat} (h:0<n):1≤fQ n∧2 ^ (fQ n - 1)≤n∧n<2 ^ fQ n:=by
 unfold fQ;rw [if_neg (by omega)];refine ⟨by omega, ?_,Nat.lt_log2_self⟩;rw [Nat.add_sub_cancel];exact Nat.log2_self_le (by omega)
theorem Mh {n a:Nat} (h1:2 ^ a≤n) (h2:n<2 ^ (a+1)):fQ n=a+1:=by
 have h0:0<n:=Nat.lt_of_lt_of_le (Nat.pow_pos (by decide)) h1;obtain ⟨b0,b1,b2⟩:=pv h0;generalize fQ n=b at *
 have c1:a<b:=(Nat.pow_lt_pow_iff_right (by decide)).1 (Nat.lt_of_le_of_lt h1 b2);have c2:b - 1<a+1:=(Nat.pow_lt_pow_iff_right (by decide)).1 (Nat.lt_of_le_of_lt b1 h2);omega
theorem Ii {n k:Nat} (h:2 ^ k≤n):fQ n=fQ (n / 2 ^ k)+k:=by
 have hp:0<2 ^ k:=Nat.pow_pos (by decide);have h0:0<n / 2 ^ k:=Nat.div_pos h hp;obtain ⟨b0,b1,b2⟩:=pv h0;generalize fQ (n / 2 ^ k)=b at *
 have e1:2 ^ (b - 1) * 2 ^ k≤n:=(Nat.le_div_iff_mul_le hp).1 b1;have e2:n<2 ^ b * 2 ^ k:=(Nat.div_lt_iff_lt_mul hp).1 b2;rw [← Nat.pow_add] at e1 e2;have:=Mh (n:=n) (a:=b - 1+k) e1 (by rw [show b - 1+k+1=b+k by omega];exact e2);omega
theorem VG (a:Int):a.fdiv (2 ^ min 32 64)=a / 4294967296:=by rw [Int.fdiv_eq_ediv_of_nonneg _ (by decide)];rfl
theorem ZB (a:Int):a.fdiv (2 ^ min 16 64)=a / 65536:=by rw [Int.fdiv_eq_ediv_of_nonneg _ (by decide)];rfl
theorem fs8 (a:Int):a.fdiv (2 ^ min 8 64)=a / 256:=by rw [Int.fdiv_eq_ediv_of_nonneg _ (by decide)];rfl
attribute [local go_sem] VG ZB fs8
theorem OX (n:Int):IntKind.u8.wrap n=n % 256:=by simp only [IntKind.wrap,IntKind.bits,IntKind.signed];simp
theorem jT {x v:Int} {k:Nat} (hv:v=((2 ^ k:Nat):Int)) (h:x≥v):fQ x.toNat=fQ (x / v).toNat+k:=by
 have hp:0<2 ^ k:=Nat.pow_pos (by decide);obtain ⟨n,rfl⟩:=Int.eq_ofNat_of_zero_le (show 0≤x by omega);subst hv;rw [← Int.natCast_ediv,Int.toNat_natCast,Int.toNat_natCast];exact Ii (by omega)
theorem lC {tab : ByteArray} (hz : tab.size = 256) (hg : ∀ k, k < 256 → (tab.get! k).toNat = fQ k) {x y : Int} {k : Int} (h0 : 0 ≤ y) (h1 : y < 256) (hk : 0 ≤ k ∧ k ≤ 56) (hl : (fQ x.toNat : Int) = fQ y.toNat + k) :
  IntKind.u8.wrap y<tab.size∧SV.b (BV.c (CV.p (PV.val (Value.int IntKind.i64 (IntKind.i64.wrap (k+IntKind.i64.wrap ((tab.get! (IntKind.u8.wrap y).toNat).toNat:Int)))))))=SV.b (I (fQ x.toNat)):=by
 have hw:IntKind.u8.wrap y=y:=by rw [OX];omega
 have hb:(tab.get! y.toNat).toNat<256:=(tab.get! y.toNat).toNat_lt;have he:=hg y.toNat (by omega)
 rw [hw,hz];refine ⟨h1, ?_⟩;rw [he] at hb ⊢;rw [fY (n:=((fQ y.toNat:Nat):Int)) (by omega) (by omega),fY (by omega) (by omega),hl,Int.add_comm]
theorem Lk (x:Int) (h:Q64 x):aA Sg 257 [cm x] (fun r=>r = .b (I (fQ x.toNat))):=by
 obtain ⟨x0,xu⟩:=h;refine aD Tryz.func257 [.tmp 2] ?_;generalize hT:ByteArray.mk _=tab;have hz:tab.size=256:=by rw [← hT];rfl
 have hg:∀ k,k<256→(tab.get! k).toNat=fQ k:=by rw [← hT];decide +kernel
 clear hT;by_cases c1:x≥4294967296
 ·have g1:decide (x≥4294967296)=true:=decide_eq_true c1;by_cases c2:x / 4294967296≥65536
  ·have g2:decide (x / 4294967296≥65536)=true:=decide_eq_true c2;by_cases c3:x / 4294967296 / 65536≥256
   ·have g3:decide (x / 4294967296 / 65536≥256)=true:=decide_eq_true c3;have hl:(fQ x.toNat:Int)=fQ (x / 4294967296 / 65536 / 256).toNat+56:=by
     rw [jT (x:=x) (k:=32) (v:=4294967296) (by decide) c1];rw [jT (x:=x / 4294967296) (k:=16) (v:=65536) (by decide) c2];rw [jT (x:=x / 4294967296 / 65536) (k:=8) (v:=256) (by decide) c3];omega
    have hf:=lC hz hg (x:=x) (y:=x / 4294967296 / 65536 / 256) (k:=56) (by omega) (by omega) (by omega) hl;repeat' (first|refine ah (And.intro g1 (And.intro g2 g3)) ?_|refine aC ?_)
    exact hf.2
   ·have g3:decide (x / 4294967296 / 65536≥256)=false:=decide_eq_false c3;have hl:(fQ x.toNat:Int)=fQ (x / 4294967296 / 65536).toNat+48:=by
     rw [jT (x:=x) (k:=32) (v:=4294967296) (by decide) c1];rw [jT (x:=x / 4294967296) (k:=16) (v:=65536) (by decide) c2];omega
    have hf:=lC hz hg (x:=x) (y:=x / 4294967296 / 65536) (k:=48) (by omega) (by omega) (by omega) hl;repeat' (first|refine ah (And.intro g1 (And.intro g2 g3)) ?_|refine aC ?_)
    exact hf.2
  ·have g2:decide (x / 4294967296≥65536)=false:=decide_eq_false c2;by_cases c3:x / 4294967296≥256
   ·have g3:decide (x / 4294967296≥256)=true:=decide_eq_true c3;have hl:(fQ x.toNat:Int)=fQ (x / 4294967296 / 256).toNat+40:=by
     rw [jT (x:=x) (k:=32) (v:=4294967296) (by decide) c1];rw [jT (x:=x / 4294967296) (k:=8) (v:=256) (by decide) c3];omega
    have hf:=lC hz hg (x:=x) (y:=x / 4294967296 / 256) (k:=40) (by omega) (by omega) (by omega) hl;repeat' (first|refine ah (And.intro g1 (And.intro g2 g3)) ?_|refine aC ?_)
    exact hf.2
   ·have g3:decide (x / 4294967296≥256)=false:=decide_eq_false c3;have hl:(fQ x.toNat:Int)=fQ (x / 4294967296).toNat+32:=by
     rw [jT (x:=x) (k:=32) (v:=4294967296) (by decide) c1];omega
    have hf:=lC hz hg (x:=x) (y:=x / 4294967296) (k:=32) (by omega) (by omega) (by omega) hl;repeat' (first|refine ah (And.intro g1 (And.intro g2 g3)) ?_|refine aC ?_)
    exact hf.2
 ·have g1:decide (x≥4294967296)=false:=decide_eq_false c1;by_cases c2:x≥65536
  ·have g2:decide (x≥65536)=true:=decide_eq_true c2;by_cases c3:x / 65536≥256
   ·have g3:decide (x / 65536≥256)=true:=decide_eq_true c3;have hl:(fQ x.toNat:Int)=fQ (x / 65536 / 256).toNat+24:=by
     rw [jT (x:=x) (k:=16) (v:=65536) (by decide) c2];rw [jT (x:=x / 65536) (k:=8) (v:=256) (by decide) c3];omega
    have hf:=lC hz hg (x:=x) (y:=x / 65536 / 256) (k:=24) (by omega) (by omega) (by omega) hl;repeat' (first|refine ah (And.intro g1 (And.intro g2 g3)) ?_|refine aC ?_)
    exact hf.2
   ·have g3:decide (x / 65536≥256)=false:=decide_eq_false c3;have hl:(fQ x.toNat:Int)=fQ (x / 65536).toNat+16:=by
     rw [jT (x:=x) (k:=16) (v:=65536) (by decide) c2];omega
    have hf:=lC hz hg (x:=x) (y:=x / 65536) (k:=16) (by omega) (by omega) (by omega) hl;repeat' (first|refine ah (And.intro g1 (And.intro g2 g3)) ?_|refine aC ?_)
    exact hf.2
  ·have g2:decide (x≥65536)=false:=decide_eq_false c2;by_cases c3:x≥256
   ·have g3:decide (x≥256)=true:=decide_eq_true c3;have hl:(fQ x.toNat:Int)=fQ (x / 256).toNat+8:=by
     rw [jT (x:=x) (k:=8) (v:=256) (by decide) c3];omega
    have hf:=lC hz hg (x:=x) (y:=x / 256) (k:=8) (by omega) (by omega) (by omega) hl;repeat' (first|refine ah (And.intro g1 (And.intro g2 g3)) ?_|refine aC ?_)
    exact hf.2
   ·have g3:decide (x≥256)=false:=decide_eq_false c3;have hl:(fQ x.toNat:Int)=fQ (x).toNat+0:=by omega
    have hf:=lC hz hg (x:=x) (y:=x) (k:=0) (by omega) (by omega) (by omega) hl;repeat' (first|refine ah (And.intro g1 (And.intro g2 g3)) ?_|refine aC ?_)
    exact hf.2
theorem Gn {x:Int} (h:Q64 x):fQ x.toNat≤64:=by
 obtain ⟨h0,h1⟩:=h;rcases Nat.eq_zero_or_pos x.toNat with q|q
 ·rw [q];decide
 ·obtain ⟨b0,b1,b2⟩:=pv q;refine Nat.not_lt.1 fun c => ?_;have:2 ^ 64≤2 ^ (fQ x.toNat - 1):=Nat.pow_le_pow_right (by decide) (by omega);omega
theorem Pe (x:Int) (h:Q64 x):aA Sg 255 [cm x] (fun r=>r = .b (I (64 - fQ x.toNat))):=by
 have hl:=Lk x h;have hle:=Gn h;refine aD Tryz.func255 [.tmp 2] ?_;repeat' (first|with_reducible exact bq|refine an (fun K hK => ?_)|refine aa (hl) ?_|refine ax ?_|(refine aq hK ?_;try clear hK K))
end
end Go.Proofs.YtcbifofjjpfbcaaGreatDoor
