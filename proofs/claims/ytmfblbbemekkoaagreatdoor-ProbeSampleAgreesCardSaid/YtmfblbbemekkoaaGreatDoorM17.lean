/- Part of the proof: U2, W1, W2, W5, W3, W4, W7, WB, WC. -/
import Derived.Test.YtmfblbbemekkoaaGreatDoorM11
set_option linter.unusedSimpArgs false
set_option linter.unusedVariables false
set_option maxHeartbeats 2000000
set_option maxRecDepth 16000
namespace Go.Proofs.YtmfblbbemekkoaaGreatDoor
open Go Go.SL
open Go.RowKit (wrap64)
theorem PixV.u {p:Pixel} {m:Int} (hm:Full m) (h:PixV p m):p.c0≤65535∧p.c1≤65535∧p.c2≤65535∧p.a≤65535∧p.f≤65535:=by
 have:=hm.le
 have:=h.l0
 have:=h.l1
 have:=h.l2
 have:=h.af
 have:=h.fm
 omega
theorem gi {p:Pixel} {m:Int} (h:PixV p m):ky p m=true:=decide_eq_true ⟨h.l0,h.l1,h.l2,h.af,h.fm⟩
theorem Gx {m:Int} (h:Full m):decide (m=255∨m=65535)=true:=decide_eq_true h.h
theorem iN (p:Pixel) (k m:Int) (hm:Full m) (hp:PixV p m) (hk:0≤k) (hkm:k≤m):aC Sg 140 [ag (aF p),U k,U m] (fun r=>r = .tup [ag (aF (aL p k m)),B true]):=by
 have hle:=hm.le
 have hpos:=hm.pos
 have hfs:=np m
 rw [Gx hm] at hfs
 have hvs:=dY p m
 rw [gi hp] at hvs
 have d1:decide (k>m)=false:=decide_eq_false (by omega)
 have hv:=gP hm hp hk hkm
 have z0:=hp.n0
 have z1:=hp.n1
 have z2:=hp.n2
 have z3:=hp.a0
 have z4:=hp.f0
 obtain ⟨u0,u1,u2,u3,u4⟩:=hp.u hm
 obtain ⟨v0,v1,v2,v3,v4⟩:=hv.u hm
 have pr:∀ {x:Int},0≤x→x≤65535→0≤x * k∧x * k≤65535 * 65535:=fun h0 h1=>⟨ar h0 hk,ay h1 (by omega) hk (by omega)⟩
 have q0:=pr hp.n0 u0
 have q1:=pr hp.n1 u1
 have q2:=pr hp.n2 u2
 have q3:=pr hp.a0 u3
 have q4:=pr hp.f0 u4
 obtain ⟨e0,e1,e2,e3,e4⟩:(aL p k m).c0=bL (p.c0 * k) m∧(aL p k m).c1=bL (p.c1 * k) m∧(aL p k m).c2=bL (p.c2 * k) m∧(aL p k m).a=bL (p.a * k) m∧(aL p k m).f=bL (p.f * k) m:=⟨rfl,rfl,rfl,rfl,rfl⟩
 have n0:=hv.n0
 have n1:=hv.n1
 have n2:=hv.n2
 have n3:=hv.a0
 have n4:=hv.f0
 rw [e0] at v0 n0
 rw [e1] at v1 n1
 rw [e2] at v2 n2
 rw [e3] at v3 n3
 rw [e4] at v4 n4
 refine aA Tryz.func140 [.cell 6 41, .tmp 7] ?_
 repeat' (first|refine aj d1 ?_|refine an ?_|((first|refine ai (fun K hK => ?_)|refine ae (hfs) ?_|refine aD (fun hg=>hvs) ?_);and_intros;(all_goals first|(refine hK _ ?_;clear hK K)|exact aa|skip)))
 refine aO (X:=Int) (fun i=>aQ [(1, .b (U k)),(2, .b (U m)),(3, .b (.c (.ptr 0 0))),(6, .b (.c (.ptr 1 0))),(8, .b (.c (.ptr 2 0))),(9, .b (I i))]
  [(0, .fix ((aF p).map CV.p)),(1, .fix ((aF aI).map CV.p)),(2, .fix [.p (PU (if 0<i then bL (p.c0 * k) m else 0)), .p (PU (if 1<i then bL (p.c1 * k) m else 0)), .p (PU (if 2<i then bL (p.c2 * k) m else 0)), .p (PU 0), .p (PU 0)])] 3) (fun i=>0≤i∧i≤3) (fun i=>(3 - i).toNat) 0 ?_ ?_ ?_
 ·omega
 ·refine az [(1,some 1),(2,some 2)] ?_ ?_
  and_intros
  all_goals first|exact ao|skip
 ·intro i hi
  have hiv:i=0∨i=1∨i=2∨i=3:=by omega
  rcases hiv with rfl|rfl|rfl|rfl
  ·repeat' (first|refine an ?_|((first|refine ai (fun K hK => ?_)|refine ae (iA _ m ⟨by omega,by omega⟩ ⟨by omega,by omega⟩) ?_);and_intros;(all_goals first|(refine hK _ ?_;clear hK K)|exact aa|skip))|(refine aW (fun hb => ?_) (fun hb => ?_);all_goals try exact aG))
   rw [ah]
   refine aw 1 ?_ (by omega) (by decide)
   refine az [(1,some 1),(2,some 2)] ?_ ?_
   and_intros
   all_goals first|exact ao|skip
  ·repeat' (first|refine an ?_|((first|refine ai (fun K hK => ?_)|refine ae (iA _ m ⟨by omega,by omega⟩ ⟨by omega,by omega⟩) ?_);and_intros;(all_goals first|(refine hK _ ?_;clear hK K)|exact aa|skip))|(refine aW (fun hb => ?_) (fun hb => ?_);all_goals try exact aG))
   rw [ah]
   refine aw 2 ?_ (by omega) (by decide)
   refine az [(1,some 1),(2,some 2)] ?_ ?_
   and_intros
   all_goals first|exact ao|skip
  ·repeat' (first|refine an ?_|((first|refine ai (fun K hK => ?_)|refine ae (iA _ m ⟨by omega,by omega⟩ ⟨by omega,by omega⟩) ?_);and_intros;(all_goals first|(refine hK _ ?_;clear hK K)|exact aa|skip))|(refine aW (fun hb => ?_) (fun hb => ?_);all_goals try exact aG))
   rw [ah]
   refine aw 3 ?_ (by omega) (by decide)
   refine az [(1,some 1),(2,some 2)] ?_ ?_
   and_intros
   all_goals first|exact ao|skip
  ·repeat' (first|refine an ?_|((first|refine ai (fun K hK => ?_)|refine ae (iA _ m ⟨by omega,by omega⟩ ⟨by omega,by omega⟩) ?_);and_intros;(all_goals first|(refine hK _ ?_;clear hK K)|exact aa|skip))|(refine aW (fun hb => ?_) (fun hb => ?_);all_goals try exact aG)|(refine ak ?_;(try clear hB KB);(try clear hK K)))
   rfl
theorem CX (p:Pixel) (k o m:Int) (hm:Full m) (hp:PixV p m) (hk:0≤k) (hkm:k≤m) (ho:0≤o) (hom:o≤m):aC Sg 176 [ag (aF p),U k,U o,U m] (fun r=>r = .tup [ag (aF (aL (aL p k m) o m)),B true]):=by
 have h1:=iN p k m hm hp hk hkm
 have h2:=iN (aL p k m) o m hm (gP hm hp hk hkm) ho hom
 have ht:True:=trivial
 refine aA Tryz.func176 [.cell 8 41, .tmp 9] ?_
 repeat' (first|refine aj ht ?_|refine an ?_|((first|refine ai (fun K hK => ?_)|refine ae (h1) ?_|refine ae (h2) ?_);and_intros;(all_goals first|(refine hK _ ?_;clear hK K)|exact aa|skip))|(refine ak ?_;(try clear hB KB);(try clear hK K)))
 rfl
def cN (x:Acc):List PV:=[PU x.c0,PU x.c1,PU x.c2,PU x.a,PU x.own,PU x.f]
attribute [local go_sem] cN
theorem Fq (i k:Bool) (x:Acc) (b:Pixel):aC Sg 143 [B i,B k,ag (cN x),ag (aF b)] (fun r=>r = .tup [ag (cN (zN (fu i k x b))),ag (aF (fu i k x b))]):=by
 have ht:True:=trivial
 cases i <;> cases k
 all_goals
  refine aA Tryz.func143 [.cell 8 156, .cell 9 41] ?_
  repeat' (first|refine aj ht ?_|(((with_reducible refine bM (id:=6) [(23,8),(25,8),(10,8),(8,6),(9,7)] (by decide +kernel) (by decide +kernel) ?_ (fun K hK => ?_));(first|(refine And.intro (fun iw hiw => ?_) ?_;(focus ((try simp (maxSteps:=999999)(disch:=omega) only [go_sem] at hiw ⊢);(repeat (refine Eq.trans (if_neg ?_) ?_;(focus omega)));exact hw iw (by omega)));(focus (first|exact Nat.zero_le _|(simp (maxSteps:=999999)(disch:=omega) only [go_sem];done)|(simp (maxSteps:=999999)(disch:=omega) only [go_sem];omega))))|exact cR));(try simp (maxSteps:=999999)(disch:=omega) only [go_sem]);and_intros;(all_goals first|(refine hK _ (by simp (maxSteps:=999999)(disch:=omega) only [go_sem]) ?_;clear hK K)|exact aa|skip))|refine an ?_|(refine ai (fun K hK => ?_);and_intros;(all_goals first|(refine hK _ ?_;clear hK K)|exact aa|skip))|(refine ak ?_;(try clear hB KB);(try clear hK K)))
 all_goals rfl
theorem oT {i:Int} (h:0≤i∧i≤3):i=0∨i=1∨i=2∨i=3:=by omega
theorem nE (x:Acc) (b:Pixel) (m:Int) (hm:Full m) (h:AccV x b m):aC Sg 144 [ag (cN x),ag (aF b),U m] (fun r=>r = .b (B true)):=by
 have hfs:=np m
 rw [Gx hm] at hfs
 have hvs:=dY b m
 rw [gi h.bk] at hvs
 have d0:decide (x.c0>x.a)=false:=decide_eq_false (by have:=h.l0;omega)
 have d1:decide (x.c1>x.a)=false:=decide_eq_false (by have:=h.l1;omega)
 have d2:decide (x.c2>x.a)=false:=decide_eq_false (by have:=h.l2;omega)
 have e1:decide (x.own≤x.a)=true:=decide_eq_true h.oa
 have e2:decide (x.own≤x.f)=true:=decide_eq_true h.of
 have e3:decide (x.a≤m)=true:=decide_eq_true h.am
 have e4:decide (x.f≤m)=true:=decide_eq_true h.fm
 have e5:(b.f == b.a)=true:=beq_iff_eq.2 h.bf
 have ht:True:=trivial
 refine aA Tryz.func144 [.tmp 6] ?_
 repeat' (first|refine an ?_|(refine ai (fun K hK => ?_);and_intros;(all_goals first|(refine hK _ ?_;clear hK K)|exact aa|skip)))
 refine aO (X:=Int) (fun i=>aQ [(2, .b (U m)),(3, .b (.c (.ptr 0 0))),(4, .b (.c (.ptr 1 0))),(7, .b (I i))] [(0, .fix ((cN x).map CV.p)),(1, .fix ((aF b).map CV.p))] 2) (fun i=>0≤i∧i≤3) (fun i=>(3 - i).toNat) 0 ?_ ?_ ?_
 ·omega
 ·refine az [(1,some 1)] ?_ ?_
  and_intros
  all_goals first|exact ao|skip
 ·intro i hi
  rcases oT hi with rfl|rfl|rfl|rfl
  ·repeat' (first|refine aj d0 ?_|refine an ?_|(refine ai (fun K hK => ?_);and_intros;(all_goals first|(refine hK _ ?_;clear hK K)|exact aa|skip)))
   rw [ah]
   refine aw 1 ?_ (by omega) (by decide)
   refine az [(1,some 1)] ?_ ?_
   and_intros
   all_goals first|exact ao|skip
  ·repeat' (first|refine aj d1 ?_|refine an ?_|(refine ai (fun K hK => ?_);and_intros;(all_goals first|(refine hK _ ?_;clear hK K)|exact aa|skip)))
   rw [ah]
   refine aw 2 ?_ (by omega) (by decide)
   refine az [(1,some 1)] ?_ ?_
   and_intros
   all_goals first|exact ao|skip
  ·repeat' (first|refine aj d2 ?_|refine an ?_|(refine ai (fun K hK => ?_);and_intros;(all_goals first|(refine hK _ ?_;clear hK K)|exact aa|skip)))
   rw [ah]
   refine aw 3 ?_ (by omega) (by decide)
   refine az [(1,some 1)] ?_ ?_
   and_intros
   all_goals first|exact ao|skip
  ·repeat' (first|refine aj ht ?_|refine an ?_|((first|refine ai (fun K hK => ?_)|refine ae (hfs) ?_|refine aD (fun hg=>hvs) ?_);and_intros;(all_goals first|(refine hK _ ?_;clear hK K)|exact aa|skip))|(refine ak ?_;(try clear hB KB);(try clear hK K)))
   rw [e1,e2,e3,e4,e5];rfl
theorem tE {c k own m:Int} (hm:0<m) (ho:0≤own) (hu:own≤65535):(if m * c>(m - own) * k then IntKind.u16.wrap (if own<bL (m * c - (m - own) * k) m then own else bL (m * c - (m - own) * k) m) else 0)=iK c k own m:=by
 unfold iK
 by_cases q:(m - own) * k<m * c
 ·have h:=de (n:=m * c - (m - own) * k) hm (by omega)
  generalize bL (m * c - (m - own) * k) m=z at *
  rw [if_pos q,if_pos q]
  split
  ·rw [fz ho hu];omega
  ·rw [fz h (by omega)];omega
 ·rw [if_neg q,if_neg q]
theorem nB (x:Acc) (b:Pixel) (m:Int) (hm:Full m) (h:AccV x b m):aC Sg 99 [ag (cN x),ag (aF b),U m] (fun r=>r = .tup [ag (aF (aU x b m)),B true]):=by
 have hva:=nE x b m hm h
 have hle:=hm.le
 have hpos:=hm.pos
 have hrv:=fW hm h
 obtain ⟨v0,v1,v2,v3,v4⟩:=hrv.u hm
 have o0:=h.o0
 have om:=h.om
 have am:=h.am
 have bm:=h.bk.am
 have fact:∀ {c k:Int},0≤c→c≤x.a→0≤k→k≤b.a→0≤m * c∧m * c≤65535 * 65535∧0≤(m - x.own) * k∧(m - x.own) * k≤65535 * 65535:=fun h0 h1 h2 h3 =>
  ⟨ar (by omega) h0,ay hle (by omega) h0 (by omega),ar (by omega) h2,ay (by omega) (by omega) h2 (by omega)⟩
 have n0:=h.n0
 have n1:=h.n1
 have n2:=h.n2
 have l0:=h.l0
 have l1:=h.l1
 have l2:=h.l2
 have b0:=h.bk.n0
 have b1:=h.bk.n1
 have b2:=h.bk.n2
 have k0:=h.bk.l0
 have k1:=h.bk.l1
 have k2:=h.bk.l2
 have q0:=fact n0 l0 b0 k0
 have q1:=fact n1 l1 b1 k1
 have q2:=fact n2 l2 b2 k2
 have ht:True:=trivial
 refine aA Tryz.func99 [.cell 6 41, .tmp 7] ?_
 repeat' (first|refine aj ht ?_|refine an ?_|((first|refine ai (fun K hK => ?_)|refine ae (hva) ?_);and_intros;(all_goals first|(refine hK _ ?_;clear hK K)|exact aa|skip)))
 refine aO (X:=Int) (fun i=>aQ [(2, .b (U m)),(3, .b (.c (.ptr 0 0))),(4, .b (.c (.ptr 1 0))),(6, .b (.c (.ptr 2 0))),(8, .b (.c (.ptr 3 0))),(9, .b (UQ m)),(10, .b (I i))]
  [(0, .fix ((cN x).map CV.p)),(1, .fix ((aF b).map CV.p)),(2, .fix ((aF aI).map CV.p)),(3, .fix [.p (PU (if 0<i then iK x.c0 b.c0 x.own m else 0)), .p (PU (if 1<i then iK x.c1 b.c1 x.own m else 0)), .p (PU (if 2<i then iK x.c2 b.c2 x.own m else 0)), .p (PU x.own), .p (PU x.f)])] 4)
  (fun i=>0≤i∧i≤3) (fun i=>(3 - i).toNat) 0 ?_ ?_ ?_
 ·omega
 ·refine az [(1,some 1),(2,some 2),(3,some 3)] ?_ ?_
  and_intros
  all_goals first|exact ao|skip
 ·intro i hi
  rcases oT hi with rfl|rfl|rfl|rfl
  ·repeat' (first|refine aj ht ?_|refine an ?_|((first|refine ai (fun K hK => ?_)|refine ae (iA _ m ⟨by omega,by omega⟩ ⟨by omega,by omega⟩) ?_);and_intros;(all_goals first|(refine hK _ ?_;clear hK K)|exact aa|skip))|(apply gK;(case hf=>rfl);(case hc=>exact eH);(all_goals first|(intro hb;(try simp only [ov] at hb))|skip))|exact bB)
   rw [ah]
   refine aw 1 ?_ (by omega) (by decide)
   refine az [(1,some 1),(2,some 2),(3,some 3)] ?_ ?_
   and_intros
   all_goals first|exact ao|skip
   exact .inl (congrArg (fun v=>PV.val (.int .u16 v)) (tE hpos o0 (by omega)))
  ·repeat' (first|refine aj ht ?_|refine an ?_|((first|refine ai (fun K hK => ?_)|refine ae (iA _ m ⟨by omega,by omega⟩ ⟨by omega,by omega⟩) ?_);and_intros;(all_goals first|(refine hK _ ?_;clear hK K)|exact aa|skip))|(apply gK;(case hf=>rfl);(case hc=>exact eH);(all_goals first|(intro hb;(try simp only [ov] at hb))|skip))|exact bB)
   rw [ah]
   refine aw 2 ?_ (by omega) (by decide)
   refine az [(1,some 1),(2,some 2),(3,some 3)] ?_ ?_
   and_intros
   all_goals first|exact ao|skip
   exact .inl (congrArg (fun v=>PV.val (.int .u16 v)) (tE hpos o0 (by omega)))
  ·repeat' (first|refine aj ht ?_|refine an ?_|((first|refine ai (fun K hK => ?_)|refine ae (iA _ m ⟨by omega,by omega⟩ ⟨by omega,by omega⟩) ?_);and_intros;(all_goals first|(refine hK _ ?_;clear hK K)|exact aa|skip))|(apply gK;(case hf=>rfl);(case hc=>exact eH);(all_goals first|(intro hb;(try simp only [ov] at hb))|skip))|exact bB)
   rw [ah]
   refine aw 3 ?_ (by omega) (by decide)
   refine az [(1,some 1),(2,some 2),(3,some 3)] ?_ ?_
   and_intros
   all_goals first|exact ao|skip
   exact .inl (congrArg (fun v=>PV.val (.int .u16 v)) (tE hpos o0 (by omega)))
  ·repeat' (first|refine aj ht ?_|refine an ?_|(refine ai (fun K hK => ?_);and_intros;(all_goals first|(refine hK _ ?_;clear hK K)|exact aa|skip))|(refine ak ?_;(try clear hB KB);(try clear hK K)))
   rfl
end Go.Proofs.YtmfblbbemekkoaaGreatDoor
namespace Go.Proofs.YtmfblbbemekkoaaGreatDoor
theorem CC {d q n n0:Int} (hd:0<d) (e:d * q+n=n0) (h0:0≤n) (h1:n≤d) (ho:d % 2=1):bL n0 d=if n≥(d+1) / 2 then q+1 else q:=by
 split
 ·refine qO hd ?_ ?_
  ·rw [Int.mul_add,Int.mul_one];omega
  ·rw [Int.mul_add,Int.mul_one];omega
 ·refine qO hd ?_ ?_
  ·omega
  ·omega
structure IsSqrt (s A:Int):Prop where
 s0:0≤s
 le:s * s≤A
 lt:A<(s+1) * (s+1)
theorem IsSqrt.iff {s A n:Int} (h:IsSqrt s A) (hn:0≤n):n * n≤A↔n≤s:=by
 refine ⟨fun q => ?_,fun q => ?_⟩
 ·refine Int.not_lt.1 fun c => ?_
  have:=jZ (a:=s+1) (b:=n) (by have:=h.s0;omega) (by omega)
  have:=h.lt
  omega
 ·exact Int.le_trans (jZ hn q) h.le
theorem yU {x:Ex} {s:Int} (h:ExOk x) (hs:IsSqrt s (x.q * x.q * x.r)):cg x=(x.p+s) / x.d:=by
 obtain ⟨h1,h2,h3,h4⟩:=gB h
 have hd:=h.d0
 have key:∀ n,0≤n→(nD x 1 n=true↔n * x.d≤x.p+s):=fun n hn=>by
  simp only [nD,decide_eq_true_eq,Int.one_mul]
  have hs0:=hs.s0
  rcases Int.le_total (n * x.d) x.p with q|q
  ·exact ⟨fun _=>by omega,fun _ => .inl q⟩
  ·rw [hs.iff (show 0≤n * x.d - x.p by omega)]
   omega
 have e1:=(key _ h3).1 h1
 have e2:¬ (cg x+1) * x.d≤x.p+s:=fun q=>by
  have:=(key _ (show 0≤cg x+1 by omega)).2 q
  rw [h2] at this;cases this
 generalize cg x=f at *
 have a1:f≤(x.p+s) / x.d:=(Int.le_ediv_iff_mul_le (by omega)).2 e1
 have a2:(x.p+s) / x.d<f+1:=(Int.ediv_lt_iff_lt_mul (by omega)).2 (by omega)
 omega
theorem Ox {x : Ex} {f k : Int} (hk : (2 * f + 1) * x.d - 2 * x.p = k) :
  (nD x 2 (2 * f+1)=true↔k≤0∨0<k∧(if k % 2=0 then k / 2 * (k / 2)≤x.q * x.q * x.r else k / 2 * (k / 2)+k / 2<x.q * x.q * x.r)):=by
 have e4:2 * x.q * (2 * x.q) * x.r=4 * (x.q * x.q * x.r):=by grind
 simp only [nD,decide_eq_true_eq]
 rw [e4,hk]
 generalize x.q * x.q * x.r=A
 rcases Decidable.em (0<k) with c|c
 ·have hm:=Int.mul_ediv_add_emod k 2
  generalize k / 2=m at *
  have hkk:k * k=4 * (m * m)+4 * (m * (k % 2))+k % 2 * (k % 2):=by
   have:k=2 * m+k % 2:=by omega
   generalize k % 2=o at *
   rw [this];grind
  have ho:k % 2=0∨k % 2=1:=by omega
  rcases ho with o|o
  ·rw [if_pos o]
   rw [o] at hkk
   constructor
   ·rintro (q|q)
    ·omega
    ·exact .inr ⟨c,by omega⟩
   ·rintro (q|q)
    ·omega
    ·exact .inr (by have:=q.2;omega)
  ·rw [if_neg (by omega)]
   rw [o] at hkk
   constructor
   ·rintro (q|q)
    ·omega
    ·exact .inr ⟨c,by omega⟩
   ·rintro (q|q)
    ·omega
    ·exact .inr (by have:=q.2;omega)
 ·exact ⟨fun _ => .inl (by omega),fun _ => .inl (by omega)⟩
theorem HR {A:Int} (h0:0≤A) (h1:A<2 ^ 64 * 2 ^ 64):IsSqrt (sK (fun n=>decide (n * n≤A)) 64 0) A:=by
 have hm:∀ a b:Int,0≤a→a≤b→b * b≤A→a * a≤A:=fun a b ha hab h=>Int.le_trans (jZ ha hab) h
 have key:∀ (i:Nat) (n:Int),0≤n→n * n≤A→A<(n+2 ^ i) * (n+2 ^ i)→IsSqrt (sK (fun n=>decide (n * n≤A)) i n) A:=by
  intro i
  induction i with
  | zero=>exact fun n hn a b=>⟨hn,a,by simpa [sK] using b⟩
  | succ i ih =>
   intro n hn a b
   have e:(2:Int) ^ (i+1)=2 ^ i+2 ^ i:=by rw [Int.pow_succ];omega
   have hp:(0:Int)<2 ^ i:=Int.pow_pos (by decide)
   rw [e] at b
   rw [show sK (fun n=>decide (n * n≤A)) (i+1) n=sK (fun n=>decide (n * n≤A)) i (if decide ((n+2 ^ i) * (n+2 ^ i)≤A)=true then n+2 ^ i else n) from rfl]
   split
   ·rename_i h
    rw [decide_eq_true_eq] at h
    exact ih _ (by omega) h (by rw [show n+2 ^ i+2 ^ i=n+(2 ^ i+2 ^ i) by omega];exact b)
   ·rename_i h
    rw [decide_eq_true_eq] at h
    exact ih _ hn a (by omega)
 exact key 64 0 (by omega) (by omega) (by simpa using h1)
end Go.Proofs.YtmfblbbemekkoaaGreatDoor
set_option maxHeartbeats 2000000
set_option maxRecDepth 16000
namespace Go.Proofs.YtmfblbbemekkoaaGreatDoor
open Go Go.SL
open Go.RowKit (wrap64)
abbrev UD (x:Int):BV := .c (.p (.val (.int .u32 x)))
theorem tP (n d:Int) (hn:Q64 n) (hd:Q64 d):aC Sg 178 [UQ n,UQ d] (fun r=>r = .b (UQ (bL n d))):=by
 obtain ⟨n0,n1⟩:=hn
 obtain ⟨d0,d1⟩:=hd
 refine aA Tryz.func178 [.tmp 4] ?_
 repeat' (first|refine an ?_|(refine ai (fun K hK => ?_);and_intros;(all_goals first|(refine hK _ ?_;clear hK K)|exact aa|skip))|(apply fo;(case hf=>rfl);(case hc=>exact eH);(all_goals first|(intro hb;(try simp only [ov] at hb))|skip))|exact bB|(refine aW (fun hb => ?_) (fun hb => ?_);all_goals try exact aG)|(refine ak ?_;(try clear hB KB);(try clear hK K)))
 ·rw [bL,if_pos hb]
 ·have h1:=Int.emod_nonneg n hb
  have h2:=Int.emod_lt_of_pos n (show 0<d by omega)
  have h3:0≤n / d:=Int.ediv_nonneg n0 d0
  have h4:n / d≤n:=Int.ediv_le_self _ n0
  have h5:n % d≥d - n % d→n / d+1≤n:=fun q=>by
   have:=CZ n0 (show 0<d by omega)
   rw [bL,if_neg hb,if_pos q] at this
   exact this.2
  rw [bL,if_neg hb,wq (n / d) ⟨h3,by omega⟩,wq (d - n % d) ⟨by omega,by omega⟩]
  by_cases q:n % d≥d - n % d
  ·have:=h5 q
   rw [if_pos q,if_pos q,wq _ ⟨by omega,by omega⟩]
  ·rw [if_neg q,if_neg q]
theorem ox (n:Int):IntKind.u32.wrap n=n % 4294967296:=by
 simp only [IntKind.wrap,IntKind.bits,IntKind.signed];simp
theorem Ix {a:Int} (h0:0≤a) (h1:a<4294967296):vB .u32 a 255=a % 256:=by
 obtain ⟨n,rfl⟩:=Int.eq_ofNat_of_zero_le h0
 have e:(BitVec.ofInt 32 (n:Int)).toNat=n:=by
  rw [BitVec.toNat_ofInt];omega
 show IntKind.u32.wrap (BitVec.ofInt 32 (n:Int) &&& BitVec.ofInt 32 255).toNat=_
 rw [BitVec.toNat_and,e,show (BitVec.ofInt 32 255).toNat=2 ^ 8 - 1 by decide,Nat.and_two_pow_sub_one_eq_mod,ox]
 omega
theorem LH {a:Int} (h0:0≤a) (h1:a<18446744073709551616):vB .u64 a 65535=a % 65536:=by
 obtain ⟨n,rfl⟩:=Int.eq_ofNat_of_zero_le h0
 have e:(BitVec.ofInt 64 (n:Int)).toNat=n:=by
  rw [BitVec.toNat_ofInt];omega
 show IntKind.u64.wrap (BitVec.ofInt 64 (n:Int) &&& BitVec.ofInt 64 65535).toNat=_
 rw [BitVec.toNat_and,e,show (BitVec.ofInt 64 65535).toNat=2 ^ 16 - 1 by decide,Nat.and_two_pow_sub_one_eq_mod,me (by omega) (by omega)]
 omega
theorem mC (n:Int) (h0:0≤n) (h1:n<4294967296):aC Sg 118 [UD n] (fun r=>r = .b (UD (bL n 255))):=by
 refine aA Tryz.func118 [.tmp 2] ?_
 repeat' (first|refine an ?_|(refine ai (fun K hK => ?_);and_intros;(all_goals first|(refine hK _ ?_;clear hK K)|exact aa|skip)))
 refine aO (X:=Int × Int) (fun s=>aQ [(0, .b (UD s.1)),(3, .b (UD s.2))] [] 1) (fun s=>255 * s.2+s.1=n∧0≤s.1∧0≤s.2) (fun s=>s.1.toNat) (n,0) ?_ ?_ ?_
 ·exact ⟨by dsimp only;omega,h0,Int.le_refl _⟩
 ·refine az [] ?_ ?_
  and_intros
  all_goals first|exact ao|skip
 ·rintro ⟨k,q⟩ ⟨e,k0,q0⟩
  dsimp only at e k0 q0 ⊢
  have ha:vB .u32 k 255=k % 256:=Ix k0 (by omega)
  by_cases c:k>255
  ·have g1:decide (k>255)=true:=decide_eq_true c
   repeat' (first|refine aj g1 ?_|refine an ?_|(refine ai (fun K hK => ?_);and_intros;(all_goals first|(refine hK _ ?_;clear hK K)|exact aa|skip)))
   rw [ee,ah]
   refine aw (k / 256+k % 256,q+k / 256) ?_ ⟨by dsimp only;omega,by dsimp only;omega,by dsimp only;omega⟩ (by dsimp only;omega)
   have hs:k.fdiv (2 ^ min 8 32)=k / 256:=by rw [Int.fdiv_eq_ediv_of_nonneg _ (by decide)];rfl
   refine az [] ?_ ?_
   and_intros
   all_goals first|exact ao|skip
   ·exact .inl (by rw [hs,ha,ox,show (k / 256+k % 256) % 4294967296=k / 256+k % 256 by omega])
   ·exact .inl (by rw [hs,ox,show (q+k / 256) % 4294967296=q+k / 256 by omega])
  ·have g1:decide (k>255)=false:=decide_eq_false c
   repeat' (first|refine aj g1 ?_|refine an ?_|(refine ai (fun K hK => ?_);and_intros;(all_goals first|(refine hK _ ?_;clear hK K)|exact aa|skip))|(apply fo;(case hf=>rfl);(case hc=>exact eH);(all_goals first|(intro hb;(try simp only [ov] at hb))|skip))|exact bB|(refine ak ?_;(try clear hB KB);(try clear hK K)))
   have hh:=CC (d:=255) (q:=q) (n:=k) (n0:=n) (by decide) e k0 (by omega) (by decide)
   rw [show ((255:Int)+1) / 2=128 from rfl] at hh
   rw [hh,ox,show (q+1) % 4294967296=q+1 by omega]
theorem jK (n:Int) (h:Q64 n):aC Sg 119 [UQ n] (fun r=>r = .b (UQ (bL n 65535))):=by
 obtain ⟨h0,h1⟩:=h
 refine aA Tryz.func119 [.tmp 2] ?_
 repeat' (first|refine an ?_|(refine ai (fun K hK => ?_);and_intros;(all_goals first|(refine hK _ ?_;clear hK K)|exact aa|skip)))
 refine aO (X:=Int × Int) (fun s=>aQ [(0, .b (UQ s.1)),(3, .b (UQ s.2))] [] 1) (fun s=>65535 * s.2+s.1=n∧0≤s.1∧0≤s.2) (fun s=>s.1.toNat) (n,0) ?_ ?_ ?_
 ·exact ⟨by dsimp only;omega,h0,Int.le_refl _⟩
 ·refine az [] ?_ ?_
  and_intros
  all_goals first|exact ao|skip
 ·rintro ⟨k,q⟩ ⟨e,k0,q0⟩
  dsimp only at e k0 q0 ⊢
  have ha:vB .u64 k 65535=k % 65536:=LH k0 (by omega)
  by_cases c:k>65535
  ·have g1:decide (k>65535)=true:=decide_eq_true c
   repeat' (first|refine aj g1 ?_|refine an ?_|(refine ai (fun K hK => ?_);and_intros;(all_goals first|(refine hK _ ?_;clear hK K)|exact aa|skip)))
   rw [ee,ah]
   refine aw (k / 65536+k % 65536,q+k / 65536) ?_ ⟨by dsimp only;omega,by dsimp only;omega,by dsimp only;omega⟩ (by dsimp only;omega)
   have hs:k.fdiv (2 ^ min 16 64)=k / 65536:=by rw [Int.fdiv_eq_ediv_of_nonneg _ (by decide)];rfl
   refine az [] ?_ ?_
   and_intros
   all_goals first|exact ao|skip
   ·exact .inl (by rw [hs,ha])
   ·exact .inl (by rw [hs])
  ·have g1:decide (k>65535)=false:=decide_eq_false c
   repeat' (first|refine aj g1 ?_|refine an ?_|(refine ai (fun K hK => ?_);and_intros;(all_goals first|(refine hK _ ?_;clear hK K)|exact aa|skip))|(apply fo;(case hf=>rfl);(case hc=>exact eH);(all_goals first|(intro hb;(try simp only [ov] at hb))|skip))|exact bB|(refine ak ?_;(try clear hB KB);(try clear hK K)))
   have hh:=CC (d:=65535) (q:=q) (n:=k) (n0:=n) (by decide) e k0 (by omega) (by decide)
   rw [show ((65535:Int)+1) / 2=32768 from rfl] at hh
   rw [hh]
end Go.Proofs.YtmfblbbemekkoaaGreatDoor
set_option maxHeartbeats 2000000
set_option maxRecDepth 16000
namespace Go.Proofs.YtmfblbbemekkoaaGreatDoor
open Go Go.SL
open Go.RowKit (wrap64)
attribute [local go_sem] qE
theorem Mu (n:Int) (h:Q64 n):aC Sg 254 [bQ n] (fun r=>r = .b (ag (qE n))):=by
 obtain ⟨h0,h1⟩:=h
 refine aA Tryz.func254 [.cell 2 260] ?_
 repeat' (first|(refine ai (fun K hK => ?_);and_intros;(all_goals first|(refine hK _ ?_;clear hK K)|exact aa|skip))|(refine ak ?_;(try clear hB KB);(try clear hK K)))
 rw [show n / 18446744073709551616=0 by omega,show n % 18446744073709551616=n by omega]
 rfl
theorem jn (a b:Int) (ha:Q64 a) (hb:Q64 b):aC Sg 243 [bQ a,bQ b] (fun r=>r = .b (ag (qE (a * b)))):=by
 have h:=og a b ha.l ha.u hb.l hb.u
 refine aA Tryz.func243 [.cell 4 260] ?_
 repeat' (first|((first|refine ai (fun K hK => ?_)|refine ae (h) ?_);and_intros;(all_goals first|(refine hK _ ?_;clear hK K)|exact aa|skip))|(refine ak ?_;(try clear hB KB);(try clear hK K)))
 rfl
theorem pj (x y:Int) (hx:0≤x) (hy:0≤y) (h:x+y<340282366920938463463374607431768211456):aC Sg 242 [ag (qE x),ag (qE y)] (fun r=>r = .tup [ag (qE (x+y)),B true]):=by
 have qx:=pK (n:=x) ⟨hx,by omega⟩
 have qy:=pK (n:=y) ⟨hy,by omega⟩
 have h1:=sj (x % 18446744073709551616) (y % 18446744073709551616) 0 qx.2 qy.2 ⟨by decide,by decide⟩
 have h2:=sj (x / 18446744073709551616) (y / 18446744073709551616) ((x % 18446744073709551616+y % 18446744073709551616+0) / 18446744073709551616) qx.1 qy.1 ⟨by omega,by omega⟩
 refine aA Tryz.func242 [.cell 4 260, .tmp 5] ?_
 repeat' (first|refine an ?_|((first|refine ai (fun K hK => ?_)|refine lx (h1) ?_|refine lx (h2) ?_);and_intros;(all_goals first|(refine hK _ ?_;clear hK K)|exact aa|skip))|(refine aW (fun hb => ?_) (fun hb => ?_);all_goals try exact aG)|(refine ak ?_;(try clear hB KB);(try clear hK K)))
 rw [show (x / 18446744073709551616 + y / 18446744073709551616 + (x % 18446744073709551616 + y % 18446744073709551616 + 0) / 18446744073709551616) % 18446744073709551616 = (x + y) / 18446744073709551616 by clear h1 h2; omega,
   show (x % 18446744073709551616+y % 18446744073709551616+0) % 18446744073709551616=(x+y) % 18446744073709551616 by clear h1 h2;omega]
 rfl
theorem Io (x y:Int) (hx:Q128 x) (hy:Q128 y) (h:y≤x):aC Sg 259 [ag (qE x),ag (qE y)] (fun r=>r = .tup [ag (qE (x - y)),B true]):=by
 have qx:=pK hx
 have qy:=pK hy
 have h1:=pn (x % 18446744073709551616) (y % 18446744073709551616) 0 qx.2 qy.2 ⟨by decide,by decide⟩
 have h2:=pn (x / 18446744073709551616) (y / 18446744073709551616) (if x % 18446744073709551616<y % 18446744073709551616+0 then 1 else 0) qx.1 qy.1 ⟨by split <;> decide,by split <;> decide⟩
 have hx1:=hx.u
 have hy0:=hy.l
 refine aA Tryz.func259 [.cell 4 260, .tmp 5] ?_
 repeat' (first|refine an ?_|((first|refine ai (fun K hK => ?_)|refine lx (h1) ?_|refine lx (h2) ?_);and_intros;(all_goals first|(refine hK _ ?_;clear hK K)|exact aa|skip))|(refine aW (fun hb => ?_) (fun hb => ?_);all_goals try exact aG)|(refine ak ?_;(try clear hB KB);(try clear hK K)))
 rw [show (x / 18446744073709551616 + 18446744073709551616 - y / 18446744073709551616 - if x % 18446744073709551616 < y % 18446744073709551616 + 0 then 1 else 0) % 18446744073709551616 = (x - y) / 18446744073709551616 by clear h1 h2; split <;> omega,
   show (x % 18446744073709551616+18446744073709551616 - y % 18446744073709551616 - 0) % 18446744073709551616=(x - y) % 18446744073709551616 by clear h1 h2;omega]
 rfl
theorem KM (x y:Int) (hx:Q128 x) (hy:Q128 y) (h:x<y):aC Sg 259 [ag (qE x),ag (qE y)] (fun r=>r = .tup [ag (qE 0),B false]):=by
 have qx:=pK hx
 have qy:=pK hy
 have h1:=pn (x % 18446744073709551616) (y % 18446744073709551616) 0 qx.2 qy.2 ⟨by decide,by decide⟩
 have h2:=pn (x / 18446744073709551616) (y / 18446744073709551616) (if x % 18446744073709551616<y % 18446744073709551616+0 then 1 else 0) qx.1 qy.1 ⟨by split <;> decide,by split <;> decide⟩
 refine aA Tryz.func259 [.cell 4 260, .tmp 5] ?_
 repeat' (first|refine an ?_|((first|refine ai (fun K hK => ?_)|refine lx (h1) ?_|refine lx (h2) ?_);and_intros;(all_goals first|(refine hK _ ?_;clear hK K)|exact aa|skip))|(refine aW (fun hb => ?_) (fun hb => ?_);all_goals try exact aG)|(refine ak ?_;(try clear hB KB);(try clear hK K)))
 rfl
theorem Ia (x:Int):aC Sg 271 [bQ x] (fun r=>r = .b (B false)):=by
 refine aA Tryz.func271 [.tmp 2] ?_
 repeat' (first|(refine ai (fun K hK => ?_);and_intros;(all_goals first|(refine hK _ ?_;clear hK K)|exact aa|skip))|(refine ak ?_;(try clear hB KB);(try clear hK K)))
 rw [bne_self_eq_false]
theorem Dc (x y:Int):aC Sg 269 [bQ x,bQ y] (fun r=>r = .b (I (gY x y))):=by
 have h1:=Ia x
 have h2:=Ia y
 have ht:True:=trivial
 refine aA Tryz.func269 [.tmp 4] ?_
 repeat' (first|refine aj ht ?_|refine an ?_|((first|refine ai (fun K hK => ?_)|refine ae (h1) ?_|refine ae (h2) ?_);and_intros;(all_goals first|(refine hK _ ?_;clear hK K)|exact aa|skip))|(refine aW (fun hb => ?_) (fun hb => ?_);all_goals try exact aG)|(refine ak ?_;(try clear hB KB);(try clear hK K)))
 ·rw [gY,if_neg (by omega),if_pos (by omega)]
 ·rw [gY,if_neg (by omega),if_neg (by omega)]
 ·rw [gY,if_pos (by omega)]
theorem Pn (a b:Int):aC Sg 268 [.c (.p (.lst 1 2 (fun i _=>PI (if i=0 then a else b))))] (fun r=>r = .b (I (if a=0 then b else a))):=by
 have ht:True:=trivial
 refine aA Tryz.func268 [.tmp 2] ?_
 repeat' (first|refine an ?_|(refine ai (fun K hK => ?_);and_intros;(all_goals first|(refine hK _ ?_;clear hK K)|exact aa|skip)))
 refine aO (X:=Nat) (fun i=>aQ [(3, .b (I 0)),(6, .b (.c (.p (.lst 1 2 (fun i _=>PI (if i=0 then a else b)))))),(7, .b (I 2)),(8, .b (I i))] [] 1) (fun i=>i≤2∧(0<i→a=0)∧(1<i→b=0)) (fun i=>2 - i) 0 ?_ ?_ ?_
 ·exact ⟨by omega,fun h=>absurd h (by omega),fun h=>absurd h (by omega)⟩
 ·refine az [] ?_ ?_
  and_intros
  all_goals first|exact ao|skip
 ·rintro i ⟨i2,ia,ib⟩
  have hv:i=0∨i=1∨i=2:=by omega
  rcases hv with rfl|rfl|rfl
  ·repeat' (first|refine an ?_|(refine ai (fun K hK => ?_);and_intros;(all_goals first|(refine hK _ ?_;clear hK K)|exact aa|skip))|(refine aW (fun hb => ?_) (fun hb => ?_);all_goals try exact aG)|(refine ak ?_;(try clear hB KB);(try clear hK K)))
   ·have hb':¬ a=0:=hb
    exact congrArg (fun v=>SV.b (I v)) (if_neg hb').symm
   ·have hb':a=0:=hb
    rw [ah]
    refine aw 1 ?_ ⟨by omega,fun _=>hb',fun h=>absurd h (by omega)⟩ (by omega)
    refine az [] ?_ ?_
    and_intros
    all_goals first|exact ao|skip
  ·have a0:=ia (by decide)
   repeat' (first|refine an ?_|(refine ai (fun K hK => ?_);and_intros;(all_goals first|(refine hK _ ?_;clear hK K)|exact aa|skip))|(refine aW (fun hb => ?_) (fun hb => ?_);all_goals try exact aG)|(refine ak ?_;(try clear hB KB);(try clear hK K)))
   ·exact congrArg (fun v=>SV.b (I v)) (if_pos a0).symm
   ·have hb':b=0:=hb
    rw [ah]
    refine aw 2 ?_ ⟨by omega,fun _=>a0,fun _=>hb'⟩ (by omega)
    refine az [] ?_ ?_
    and_intros
    all_goals first|exact ao|skip
  ·have a0:=ia (by decide)
   have b0:=ib (by decide)
   repeat' (first|refine an ?_|(refine ai (fun K hK => ?_);and_intros;(all_goals first|(refine hK _ ?_;clear hK K)|exact aa|skip))|(refine aW (fun hb => ?_) (fun hb => ?_);all_goals try exact aG)|(refine ak ?_;(try clear hB KB);(try clear hK K)))
   rw [if_pos a0,b0]
theorem Kr {x y:Int}:(if gY (x / 18446744073709551616) (y / 18446744073709551616)=0 then gY (x % 18446744073709551616) (y % 18446744073709551616) else gY (x / 18446744073709551616) (y / 18446744073709551616))=gY x y:=by
 unfold gY
 repeat' split
 all_goals omega
theorem xN (x y:Int):aC Sg 261 [ag (qE x),ag (qE y)] (fun r=>r = .b (I (gY x y))):=by
 have ht:True:=trivial
 have h1:=Dc (x / 18446744073709551616) (y / 18446744073709551616)
 have h2:=Dc (x % 18446744073709551616) (y % 18446744073709551616)
 have h3:=Pn (gY (x / 18446744073709551616) (y / 18446744073709551616)) (gY (x % 18446744073709551616) (y % 18446744073709551616))
 rw [Kr] at h3
 refine aA Tryz.func261 [.tmp 4] ?_
 repeat' (first|(((with_reducible refine bM (id:=1) [] (by decide +kernel) (by decide +kernel) ?_ (fun K hK => ?_));(first|(refine And.intro (fun iw hiw => ?_) ?_;(focus ((try simp (maxSteps:=999999)(disch:=omega) only [go_sem] at hiw ⊢);(repeat (refine Eq.trans (if_neg ?_) ?_;(focus omega)));exact hw iw (by omega)));(focus (first|exact Nat.zero_le _|(simp (maxSteps:=999999)(disch:=omega) only [go_sem];done)|(simp (maxSteps:=999999)(disch:=omega) only [go_sem];omega))))|exact cR));(try simp (maxSteps:=999999)(disch:=omega) only [go_sem]);and_intros;(all_goals first|(refine hK _ (by simp (maxSteps:=999999)(disch:=omega) only [go_sem]) ?_;clear hK K)|exact aa|skip))|((first|refine ai (fun K hK => ?_)|refine ae (h1) ?_|refine ae (h2) ?_);and_intros;(all_goals first|(refine hK _ ?_;clear hK K)|exact aa|skip)))
 refine ik ?_ ?_ (by simp (maxSteps:=999999)(disch:=omega) only [go_sem]) ?_ (h3)
 try simp (maxSteps:=999999)(disch:=omega) only [go_sem]
 try (refine hK _ ?_;clear hK K)
 ·refine hK _ (by simp (maxSteps:=999999)(disch:=omega) only [go_sem]) ?_
  clear hK
  repeat' (first|with_reducible exact ca|(refine ak ?_;(try clear hB KB);(try clear hK K)))
 ·simp (maxSteps:=1000000) (disch:=omega) only [go_sem,fA,gn]
  refine uP (lA fun i hi j hj => ?_)
  have:i=0∨i=1:=by omega
  have hj0:j=0:=by omega
  subst hj0
  rcases this with rfl|rfl <;> rfl
 ·trivial
end Go.Proofs.YtmfblbbemekkoaaGreatDoor
namespace Go.Proofs.YtmfblbbemekkoaaGreatDoor
structure DigI (u d y1 y0 q r:Int):Prop where
 q0:0≤q
 r0:0≤r
 e:q * y1+r=u
 lt:u * 4294967296+d<(q+1) * (y1 * 4294967296+y0)
structure DigP (u d y1 y0:Int):Prop where
 u0:0≤u
 uy:u<y1 * 4294967296+y0
 d0:0≤d
 d1:d<4294967296
 a0:2147483648≤y1
 a1:y1<4294967296
 b0:0≤y0
 b1:y0<4294967296
section
variable {u d y1 y0 q r:Int}
theorem ss {q:Int}:q * (y1 * 4294967296+y0)=q * y1 * 4294967296+q * y0:=by rw [Int.mul_add,Int.mul_assoc]
theorem wm (P:DigP u d y1 y0):DigI u d y1 y0 (u / y1) (u - u / y1 * y1):=by
 obtain ⟨u0,uy,d0,d1,a0,a1,b0,b1⟩:=P
 have hq:0≤u / y1:=Int.ediv_nonneg u0 (by omega)
 have h1:=Int.mul_ediv_add_emod u y1
 have h2:=Int.emod_nonneg u (show y1≠0 by omega)
 have h3:=Int.emod_lt_of_pos u (show 0<y1 by omega)
 rw [Int.mul_comm] at h1
 generalize u / y1=q at *
 refine ⟨hq,by omega,by omega, ?_⟩
 rw [ss]
 have h4:0≤(q+1) * y0:=Int.mul_nonneg (by omega) b0
 have h5:(q+1) * y1=q * y1+y1:=by rw [Int.add_mul,Int.one_mul]
 omega
theorem pq (P:DigP u d y1 y0) (I:DigI u d y1 y0 q r) (h:4294967296≤q∨4294967296 * r+d<q * y0):DigI u d y1 y0 (q - 1) (r+y1):=by
 obtain ⟨u0,uy,d0,d1,a0,a1,b0,b1⟩:=P
 obtain ⟨q0,r0,e,lt⟩:=I
 have hq:1≤q:=by
  rcases h with h|h
  ·omega
  ·refine Int.not_lt.1 fun c => ?_
   have:q=0:=by omega
   subst this
   rw [Int.zero_mul] at h
   omega
 have e2:(q - 1) * y1=q * y1 - y1:=by rw [Int.sub_mul,Int.one_mul]
 refine ⟨by omega,by omega,by omega, ?_⟩
 rw [show q - 1+1=q by omega,ss]
 rcases h with h|h
 ·have h1:4294967296 * (y1 * 4294967296+y0)≤q * (y1 * 4294967296+y0):=Int.mul_le_mul_of_nonneg_right h (by omega)
  rw [ss (q:=q)] at h1
  omega
 ·omega
theorem mX (P:DigP u d y1 y0) (I:DigI u d y1 y0 q r) (h:q * y0≤4294967296 * r+d):q=(u * 4294967296+d) / (y1 * 4294967296+y0)∧q<4294967296∧u * 4294967296+d - q * (y1 * 4294967296+y0)=(u * 4294967296+d) % (y1 * 4294967296+y0):=by
 obtain ⟨u0,uy,d0,d1,a0,a1,b0,b1⟩:=P
 obtain ⟨q0,r0,e,lt⟩:=I
 have h1:q * (y1 * 4294967296+y0)≤u * 4294967296+d:=by rw [ss];omega
 have hy:0<y1 * 4294967296+y0:=by omega
 have e1:q=(u * 4294967296+d) / (y1 * 4294967296+y0):=by
  have a:q≤(u * 4294967296+d) / (y1 * 4294967296+y0):=(Int.le_ediv_iff_mul_le hy).2 h1
  have b:(u * 4294967296+d) / (y1 * 4294967296+y0)<q+1:=(Int.ediv_lt_iff_lt_mul hy).2 lt
  omega
 refine ⟨e1, ?_, ?_⟩
 ·refine Int.not_le.1 fun c => ?_
  have h2:4294967296 * (y1 * 4294967296+y0)≤q * (y1 * 4294967296+y0):=Int.mul_le_mul_of_nonneg_right c (by omega)
  omega
 ·have:=Int.mul_ediv_add_emod (u * 4294967296+d) (y1 * 4294967296+y0)
  rw [← e1,Int.mul_comm] at this
  omega
theorem mU (P:DigP u d y1 y0) (I:DigI u d y1 y0 q r) (h:4294967296≤r):q * y0≤4294967296 * r+d:=by
 obtain ⟨u0,uy,d0,d1,a0,a1,b0,b1⟩:=P
 obtain ⟨q0,r0,e,lt⟩:=I
 have hq:q≤4294967296:=by
  refine Int.not_lt.1 fun c => ?_
  have h2:4294967297 * y1≤q * y1:=Int.mul_le_mul_of_nonneg_right c (by omega)
  omega
 have h3:q * y0≤4294967296 * 4294967295:=Int.mul_le_mul hq (by omega) b0 (by omega)
 omega
theorem yn (P:DigP u d y1 y0) (I:DigI u d y1 y0 q r):q≤8589934592:=by
 obtain ⟨u0,uy,d0,d1,a0,a1,b0,b1⟩:=P
 obtain ⟨q0,r0,e,lt⟩:=I
 refine Int.not_lt.1 fun c => ?_
 have h2:q * 2147483648≤q * y1:=Int.mul_le_mul_of_nonneg_left a0 q0
 omega
end
theorem DQ {a y k:Int} (hk:0<k) (hy:0<y):a * k / (y * k)=a / y∧a * k % (y * k)=a % y * k:=by
 have h:=Int.mul_ediv_add_emod a y
 have h2:=Int.emod_nonneg a (show y≠0 by omega)
 have h3:=Int.emod_lt_of_pos a hy
 refine ⟨Int.mul_ediv_mul_of_pos_left a y hk, ?_⟩
 rw [Int.mul_comm a,Int.mul_comm y,Int.mul_emod_mul_of_pos _ _ hk,Int.mul_comm]
theorem BX {t a b y q1 q0 r1 : Int} (hy : 0 < y) (h1 : q1 = (t * 4294967296 + a) / y) (hr : r1 = (t * 4294967296 + a) % y) (h0 : q0 = (r1 * 4294967296 + b) / y) (hb : 0 ≤ b ∧ b < 4294967296) :
  q1 * 4294967296+q0=(t * 18446744073709551616+(a * 4294967296+b)) / y∧(r1 * 4294967296+b) % y=(t * 18446744073709551616+(a * 4294967296+b)) % y:=by
 have e1:=Int.mul_ediv_add_emod (t * 4294967296+a) y
 have e2:=Int.mul_ediv_add_emod (r1 * 4294967296+b) y
 have m0:=Int.emod_nonneg (r1 * 4294967296+b) (show y≠0 by omega)
 have m1:=Int.emod_lt_of_pos (r1 * 4294967296+b) hy
 rw [← h1,← hr] at e1
 rw [← h0] at e2
 have e3:t * 18446744073709551616+(a * 4294967296+b)=y * (q1 * 4294967296+q0)+(r1 * 4294967296+b) % y:=by
  have:y * (q1 * 4294967296+q0)=y * q1 * 4294967296+y * q0:=by rw [Int.mul_add,Int.mul_assoc]
  omega
 generalize (r1 * 4294967296+b) % y=m at *
 rw [e3]
 constructor
 ·rw [Int.mul_add_ediv_left _ _ (by omega),Int.ediv_eq_zero_of_lt m0 m1,Int.add_zero]
 ·rw [Int.mul_add_emod_self_left,Int.emod_eq_of_lt m0 m1]
end Go.Proofs.YtmfblbbemekkoaaGreatDoor
set_option maxHeartbeats 4000000
set_option maxRecDepth 16000
namespace Go.Proofs.YtmfblbbemekkoaaGreatDoor
open Go Go.SL
open Go.RowKit (wrap64)
def eN (n:Nat):Nat:=if n=0 then 0 else n.log2+1
theorem na {n:Nat} (h:0<n):1≤eN n∧2 ^ (eN n - 1)≤n∧n<2 ^ eN n:=by
 unfold eN
 rw [if_neg (by omega)]
 refine ⟨by omega, ?_,Nat.lt_log2_self⟩
 rw [Nat.add_sub_cancel]
 exact Nat.log2_self_le (by omega)
theorem Hh {n a:Nat} (h1:2 ^ a≤n) (h2:n<2 ^ (a+1)):eN n=a+1:=by
 have h0:0<n:=Nat.lt_of_lt_of_le (Nat.pow_pos (by decide)) h1
 obtain ⟨b0,b1,b2⟩:=na h0
 generalize eN n=b at *
 have c1:a<b:=(Nat.pow_lt_pow_iff_right (by decide)).1 (Nat.lt_of_le_of_lt h1 b2)
 have c2:b - 1<a+1:=(Nat.pow_lt_pow_iff_right (by decide)).1 (Nat.lt_of_le_of_lt b1 h2)
 omega
theorem DA {n k:Nat} (h:2 ^ k≤n):eN n=eN (n / 2 ^ k)+k:=by
 have hp:0<2 ^ k:=Nat.pow_pos (by decide)
 have h0:0<n / 2 ^ k:=Nat.div_pos h hp
 obtain ⟨b0,b1,b2⟩:=na h0
 generalize eN (n / 2 ^ k)=b at *
 have e1:2 ^ (b - 1) * 2 ^ k≤n:=(Nat.le_div_iff_mul_le hp).1 b1
 have e2:n<2 ^ b * 2 ^ k:=(Nat.div_lt_iff_lt_mul hp).1 b2
 rw [← Nat.pow_add] at e1 e2
 have:=Hh (n:=n) (a:=b - 1+k) e1 (by rw [show b - 1+k+1=b+k by omega];exact e2)
 omega
theorem OR (a:Int):a.fdiv (2 ^ min 32 64)=a / 4294967296:=by rw [Int.fdiv_eq_ediv_of_nonneg _ (by decide)];rfl
theorem RM (a:Int):a.fdiv (2 ^ min 16 64)=a / 65536:=by rw [Int.fdiv_eq_ediv_of_nonneg _ (by decide)];rfl
theorem TQ (a:Int):a.fdiv (2 ^ min 8 64)=a / 256:=by rw [Int.fdiv_eq_ediv_of_nonneg _ (by decide)];rfl
attribute [local go_sem] OR RM TQ
theorem Kh (n:Int):IntKind.u8.wrap n=n % 256:=by
 simp only [IntKind.wrap,IntKind.bits,IntKind.signed];simp
theorem jb {x v:Int} {k:Nat} (hv:v=((2 ^ k:Nat):Int)) (h:x≥v):eN x.toNat=eN (x / v).toNat+k:=by
 have hp:0<2 ^ k:=Nat.pow_pos (by decide)
 obtain ⟨n,rfl⟩:=Int.eq_ofNat_of_zero_le (show 0≤x by omega)
 subst hv
 rw [← Int.natCast_ediv,Int.toNat_natCast,Int.toNat_natCast]
 exact DA (by omega)
theorem kk {tab : ByteArray} (hz : tab.size = 256) (hg : ∀ k, k < 256 → (tab.get! k).toNat = eN k) {x y : Int} {k : Int} (h0 : 0 ≤ y) (h1 : y < 256) (hk : 0 ≤ k ∧ k ≤ 56) (hl : (eN x.toNat : Int) = eN y.toNat + k) :
  IntKind.u8.wrap y<tab.size∧SV.b (BV.c (CV.p (PV.val (Value.int IntKind.i64 (IntKind.i64.wrap (k+IntKind.i64.wrap ((tab.get! (IntKind.u8.wrap y).toNat).toNat:Int)))))))=SV.b (I (eN x.toNat)):=by
 have hw:IntKind.u8.wrap y=y:=by rw [Kh];omega
 have hb:(tab.get! y.toNat).toNat<256:=(tab.get! y.toNat).toNat_lt
 have he:=hg y.toNat (by omega)
 rw [hw,hz]
 refine ⟨h1, ?_⟩
 rw [he] at hb ⊢
 rw [fq (n:=((eN y.toNat:Nat):Int)) (by omega) (by omega),fq (by omega) (by omega),hl,Int.add_comm]
theorem FQ (x:Int) (h:Q64 x):aC Sg 272 [bQ x] (fun r=>r = .b (I (eN x.toNat))):=by
 obtain ⟨x0,xu⟩:=h
 refine aA Tryz.func272 [.tmp 2] ?_
 generalize hT:ByteArray.mk _=tab
 have hz:tab.size=256:=by rw [← hT];rfl
 have hg:∀ k,k<256→(tab.get! k).toNat=eN k:=by rw [← hT];decide +kernel
 clear hT
 by_cases c1:x≥4294967296
 ·have g1:decide (x≥4294967296)=true:=decide_eq_true c1
  by_cases c2:x / 4294967296≥65536
  ·have g2:decide (x / 4294967296≥65536)=true:=decide_eq_true c2
   by_cases c3:x / 4294967296 / 65536≥256
   ·have g3:decide (x / 4294967296 / 65536≥256)=true:=decide_eq_true c3
    have hl:(eN x.toNat:Int)=eN (x / 4294967296 / 65536 / 256).toNat+56:=by
     rw [jb (x:=x) (k:=32) (v:=4294967296) (by decide) c1]
     rw [jb (x:=x / 4294967296) (k:=16) (v:=65536) (by decide) c2]
     rw [jb (x:=x / 4294967296 / 65536) (k:=8) (v:=256) (by decide) c3]
     omega
    have hf:=kk hz hg (x:=x) (y:=x / 4294967296 / 65536 / 256) (k:=56) (by omega) (by omega) (by omega) hl
    repeat' (first|refine aj (And.intro g1 (And.intro g2 g3)) ?_|refine an ?_|(refine ai (fun K hK => ?_);and_intros;(all_goals first|(refine hK _ ?_;clear hK K)|exact aa|skip))|(refine ak ?_;(try clear hB KB);(try clear hK K)))
    exact hf.2
   ·have g3:decide (x / 4294967296 / 65536≥256)=false:=decide_eq_false c3
    have hl:(eN x.toNat:Int)=eN (x / 4294967296 / 65536).toNat+48:=by
     rw [jb (x:=x) (k:=32) (v:=4294967296) (by decide) c1]
     rw [jb (x:=x / 4294967296) (k:=16) (v:=65536) (by decide) c2]
     omega
    have hf:=kk hz hg (x:=x) (y:=x / 4294967296 / 65536) (k:=48) (by omega) (by omega) (by omega) hl
    repeat' (first|refine aj (And.intro g1 (And.intro g2 g3)) ?_|refine an ?_|(refine ai (fun K hK => ?_);and_intros;(all_goals first|(refine hK _ ?_;clear hK K)|exact aa|skip))|(refine ak ?_;(try clear hB KB);(try clear hK K)))
    exact hf.2
  ·have g2:decide (x / 4294967296≥65536)=false:=decide_eq_false c2
   by_cases c3:x / 4294967296≥256
   ·have g3:decide (x / 4294967296≥256)=true:=decide_eq_true c3
    have hl:(eN x.toNat:Int)=eN (x / 4294967296 / 256).toNat+40:=by
     rw [jb (x:=x) (k:=32) (v:=4294967296) (by decide) c1]
     rw [jb (x:=x / 4294967296) (k:=8) (v:=256) (by decide) c3]
     omega
    have hf:=kk hz hg (x:=x) (y:=x / 4294967296 / 256) (k:=40) (by omega) (by omega) (by omega) hl
    repeat' (first|refine aj (And.intro g1 (And.intro g2 g3)) ?_|refine an ?_|(refine ai (fun K hK => ?_);and_intros;(all_goals first|(refine hK _ ?_;clear hK K)|exact aa|skip))|(refine ak ?_;(try clear hB KB);(try clear hK K)))
    exact hf.2
   ·have g3:decide (x / 4294967296≥256)=false:=decide_eq_false c3
    have hl:(eN x.toNat:Int)=eN (x / 4294967296).toNat+32:=by
     rw [jb (x:=x) (k:=32) (v:=4294967296) (by decide) c1]
     omega
    have hf:=kk hz hg (x:=x) (y:=x / 4294967296) (k:=32) (by omega) (by omega) (by omega) hl
    repeat' (first|refine aj (And.intro g1 (And.intro g2 g3)) ?_|refine an ?_|(refine ai (fun K hK => ?_);and_intros;(all_goals first|(refine hK _ ?_;clear hK K)|exact aa|skip))|(refine ak ?_;(try clear hB KB);(try clear hK K)))
    exact hf.2
 ·have g1:decide (x≥4294967296)=false:=decide_eq_false c1
  by_cases c2:x≥65536
  ·have g2:decide (x≥65536)=true:=decide_eq_true c2
   by_cases c3:x / 65536≥256
   ·have g3:decide (x / 65536≥256)=true:=decide_eq_true c3
    have hl:(eN x.toNat:Int)=eN (x / 65536 / 256).toNat+24:=by
     rw [jb (x:=x) (k:=16) (v:=65536) (by decide) c2]
     rw [jb (x:=x / 65536) (k:=8) (v:=256) (by decide) c3]
     omega
    have hf:=kk hz hg (x:=x) (y:=x / 65536 / 256) (k:=24) (by omega) (by omega) (by omega) hl
    repeat' (first|refine aj (And.intro g1 (And.intro g2 g3)) ?_|refine an ?_|(refine ai (fun K hK => ?_);and_intros;(all_goals first|(refine hK _ ?_;clear hK K)|exact aa|skip))|(refine ak ?_;(try clear hB KB);(try clear hK K)))
    exact hf.2
   ·have g3:decide (x / 65536≥256)=false:=decide_eq_false c3
    have hl:(eN x.toNat:Int)=eN (x / 65536).toNat+16:=by
     rw [jb (x:=x) (k:=16) (v:=65536) (by decide) c2]
     omega
    have hf:=kk hz hg (x:=x) (y:=x / 65536) (k:=16) (by omega) (by omega) (by omega) hl
    repeat' (first|refine aj (And.intro g1 (And.intro g2 g3)) ?_|refine an ?_|(refine ai (fun K hK => ?_);and_intros;(all_goals first|(refine hK _ ?_;clear hK K)|exact aa|skip))|(refine ak ?_;(try clear hB KB);(try clear hK K)))
    exact hf.2
  ·have g2:decide (x≥65536)=false:=decide_eq_false c2
   by_cases c3:x≥256
   ·have g3:decide (x≥256)=true:=decide_eq_true c3
    have hl:(eN x.toNat:Int)=eN (x / 256).toNat+8:=by
     rw [jb (x:=x) (k:=8) (v:=256) (by decide) c3]
     omega
    have hf:=kk hz hg (x:=x) (y:=x / 256) (k:=8) (by omega) (by omega) (by omega) hl
    repeat' (first|refine aj (And.intro g1 (And.intro g2 g3)) ?_|refine an ?_|(refine ai (fun K hK => ?_);and_intros;(all_goals first|(refine hK _ ?_;clear hK K)|exact aa|skip))|(refine ak ?_;(try clear hB KB);(try clear hK K)))
    exact hf.2
   ·have g3:decide (x≥256)=false:=decide_eq_false c3
    have hl:(eN x.toNat:Int)=eN (x).toNat+0:=by
     omega
    have hf:=kk hz hg (x:=x) (y:=x) (k:=0) (by omega) (by omega) (by omega) hl
    repeat' (first|refine aj (And.intro g1 (And.intro g2 g3)) ?_|refine an ?_|(refine ai (fun K hK => ?_);and_intros;(all_goals first|(refine hK _ ?_;clear hK K)|exact aa|skip))|(refine ak ?_;(try clear hB KB);(try clear hK K)))
    exact hf.2
theorem Ch {x:Int} (h:Q64 x):eN x.toNat≤64:=by
 obtain ⟨h0,h1⟩:=h
 rcases Nat.eq_zero_or_pos x.toNat with q|q
 ·rw [q];decide
 ·obtain ⟨b0,b1,b2⟩:=na q
  refine Nat.not_lt.1 fun c => ?_
  have:2 ^ 64≤2 ^ (eN x.toNat - 1):=Nat.pow_le_pow_right (by decide) (by omega)
  omega
theorem Lj (x:Int) (h:Q64 x):aC Sg 270 [bQ x] (fun r=>r = .b (I (64 - eN x.toNat))):=by
 have hl:=FQ x h
 have hle:=Ch h
 refine aA Tryz.func270 [.tmp 2] ?_
 repeat' (first|with_reducible exact ca|((first|refine ai (fun K hK => ?_)|refine ae (hl) ?_);and_intros;(all_goals first|(refine hK _ ?_;clear hK K)|exact aa|skip))|(refine ak ?_;(try clear hB KB);(try clear hK K)))
end Go.Proofs.YtmfblbbemekkoaaGreatDoor
set_option maxHeartbeats 8000000
set_option maxRecDepth 16000
namespace Go.Proofs.YtmfblbbemekkoaaGreatDoor
open Go Go.SL
open Go.RowKit (wrap64)
theorem Kz {y:Int} (h0:0<y) (h1:y<18446744073709551616):∃ s:Nat,(64:Int) - eN y.toNat=s∧s≤63∧9223372036854775808≤y * 2 ^ s∧y * 2 ^ s<18446744073709551616:=by
 obtain ⟨n,rfl⟩:=Int.eq_ofNat_of_zero_le (show 0≤y by omega)
 have hl:=Ch (x:=(n:Int)) ⟨by omega,h1⟩
 rw [Int.toNat_natCast] at hl ⊢
 obtain ⟨b0,b1,b2⟩:=na (n:=n) (by omega)
 generalize eN n=l at *
 refine ⟨64 - l,by omega,by omega, ?_, ?_⟩
 ·have:=Nat.mul_le_mul_right (2 ^ (64 - l)) b1
  rw [← Nat.pow_add,show l - 1+(64 - l)=63 by omega] at this
  have e:((n:Int) * 2 ^ (64 - l))=((n * 2 ^ (64 - l):Nat):Int):=by simp
  rw [e];omega
 ·have:=Nat.mul_lt_mul_of_pos_right b2 (show 0<2 ^ (64 - l) from Nat.pow_pos (by decide))
  rw [← Nat.pow_add,show l+(64 - l)=64 by omega] at this
  have e:((n:Int) * 2 ^ (64 - l))=((n * 2 ^ (64 - l):Nat):Int):=by simp
  rw [e];omega
theorem JH {a b:Int} {s:Nat} (ha:0≤a) (hm:a % 2 ^ s=0) (hb:0≤b) (ov:b<2 ^ s) (h:a+b<18446744073709551616):GU .u64 a b=a+b:=by
 obtain ⟨m,rfl⟩:=Int.eq_ofNat_of_zero_le ha
 obtain ⟨n,rfl⟩:=Int.eq_ofNat_of_zero_le hb
 have p:((2:Int) ^ s)=((2 ^ s:Nat):Int):=by simp
 rw [p] at hm ov
 have hm':m % 2 ^ s=0:=by omega
 show IntKind.u64.wrap (BitVec.ofInt 64 (m:Int) ||| BitVec.ofInt 64 (n:Int)).toNat=_
 rw [BitVec.toNat_or,BitVec.toNat_ofInt,BitVec.toNat_ofInt]
 have e1:((m:Int) % ((2 ^ 64:Nat):Int)).toNat=m:=by omega
 have e2:((n:Int) % ((2 ^ 64:Nat):Int)).toNat=n:=by omega
 rw [e1,e2]
 have e3:m ||| n=m+n:=by
  have h1:2 ^ s * (m / 2 ^ s)=m:=by have:=Nat.div_add_mod m (2 ^ s);omega
  have:=Nat.two_pow_add_eq_or_of_lt (b:=n) (i:=s) (by omega) (m / 2 ^ s)
  rw [h1] at this
  exact this.symm
 rw [e3,me (by omega) (by omega)]
 omega
theorem FD {a:Int} (h0:0≤a) (h1:a<18446744073709551616):vB .u64 a 4294967295=a % 4294967296:=by
 obtain ⟨n,rfl⟩:=Int.eq_ofNat_of_zero_le h0
 have e:(BitVec.ofInt 64 (n:Int)).toNat=n:=by
  rw [BitVec.toNat_ofInt];omega
 show IntKind.u64.wrap (BitVec.ofInt 64 (n:Int) &&& BitVec.ofInt 64 4294967295).toNat=_
 rw [BitVec.toNat_and,e,show (BitVec.ofInt 64 4294967295).toNat=2 ^ 32 - 1 by decide,Nat.and_two_pow_sub_one_eq_mod,me (by omega) (by omega)]
 omega
theorem NL {hi lo : Int} {s : Nat} (hh : 0 ≤ hi) (l0 : 0 ≤ lo) (l1 : lo < 18446744073709551616) (s63 : s ≤ 63) (hb : hi * 2 ^ s < 18446744073709551616 - 2 ^ s + 1) :
  GU .u64 (hi * 2 ^ s) (lo.fdiv (2 ^ (64 - s)))=(hi * 18446744073709551616+lo) * 2 ^ s / 18446744073709551616∧lo * 2 ^ s % 18446744073709551616=(hi * 18446744073709551616+lo) * 2 ^ s % 18446744073709551616:=by
 have hk:(0:Int)<2 ^ s:=Int.pow_pos (by decide)
 have hj:(0:Int)<2 ^ (64 - s):=Int.pow_pos (by decide)
 have hkj:(2:Int) ^ (64 - s) * 2 ^ s=18446744073709551616:=by
  rw [← Int.pow_add,show 64 - s+s=64 by omega];rfl
 have h1:(hi * 18446744073709551616+lo) * 2 ^ s=hi * 2 ^ s * 18446744073709551616+lo * 2 ^ s:=by
  rw [Int.add_mul,Int.mul_right_comm]
 have h2:lo * 2 ^ s / 18446744073709551616=lo / 2 ^ (64 - s):=by
  rw [← hkj,Int.mul_ediv_mul_of_pos_left _ _ hk]
 have h3:0≤lo / 2 ^ (64 - s):=Int.ediv_nonneg l0 (by omega)
 have h4:lo / 2 ^ (64 - s)<2 ^ s:=by
  rw [Int.ediv_lt_iff_lt_mul hj,Int.mul_comm,hkj];exact l1
 rw [h1]
 constructor
 ·rw [Int.fdiv_eq_ediv_of_nonneg _ (by omega),JH (s:=s) (ar hh (by omega)) (Int.mul_emod_left _ _) h3 h4 (by omega),← h2]
  generalize lo * 2 ^ s=b
  generalize hi * 2 ^ s=a
  omega
 ·generalize lo * 2 ^ s=b
  generalize hi * 2 ^ s=a
  omega
theorem TA {a b c:Int} (h0:0≤a+b - c) (h1:a+b - c<18446744073709551616):IntKind.u64.wrap (IntKind.u64.wrap (IntKind.u64.wrap a+b) - IntKind.u64.wrap c)=a+b - c:=by
 rw [ld,ld,ld,ld];omega
theorem Gc (hi lo y : Int) (hh : 0 ≤ hi) (hy : hi < y) (hyu : y < 18446744073709551616) (hlo : Q64 lo) :
  aC Sg 267 [bQ hi,bQ lo,bQ y] (fun r=>r = .tup [bQ ((hi * 18446744073709551616+lo) / y),bQ ((hi * 18446744073709551616+lo) % y)]):=by
 obtain ⟨l0,l1⟩:=hlo
 have g1:(y == 0)=false:=beq_eq_false_iff_ne.2 (by omega)
 have g2:decide (y≤hi)=false:=decide_eq_false (by omega)
 by_cases hz:hi=0
 ·subst hz
  have g3:((0:Int) == 0)=true:=rfl
  refine aA Tryz.func267 [.tmp 6, .tmp 7] ?_
  repeat' (first|refine aj (And.intro g1 (And.intro g2 g3)) ?_|refine an ?_|(refine ai (fun K hK => ?_);and_intros;(all_goals first|(refine hK _ ?_;clear hK K)|exact aa|skip))|(refine ak ?_;(try clear hB KB);(try clear hK K)))
  have h3:0≤lo / y:=Int.ediv_nonneg l0 (by omega)
  have h4:lo / y≤lo:=Int.ediv_le_self _ l0
  rw [Int.zero_mul,Int.zero_add,wq (lo / y) ⟨h3,by omega⟩]
 ·have g3:(hi == 0)=false:=beq_eq_false_iff_ne.2 hz
  obtain ⟨s,es,s63,Y0,Y1⟩:=Kz (y:=y) (by omega) hyu
  have hl:=Lj y ⟨by omega,hyu⟩
  rw [es] at hl
  have hk:(0:Int)<2 ^ s:=Int.pow_pos (by decide)
  have hb:hi * 2 ^ s<18446744073709551616 - 2 ^ s+1:=by
   have:=Int.mul_le_mul_of_nonneg_right (show hi+1≤y by omega) (Int.le_of_lt hk)
   rw [Int.add_mul,Int.one_mul] at this
   omega
  have hT:=NL hh l0 l1 s63 hb
  have hh2:0≤hi * 2 ^ s:=ar hh (by omega)
  have hs1:min (s:Int).toNat 64=s:=by omega
  have hs2:min ((64:Int) - s).toNat 64=64 - s:=by omega
  have hUY:(hi * 18446744073709551616+lo) * 2 ^ s / 18446744073709551616<y * 2 ^ s:=by
   have h1:=Int.mul_le_mul_of_nonneg_right (show hi+1≤y by omega) (Int.le_of_lt hk)
   have h2:(hi * 18446744073709551616+lo) * 2 ^ s<(hi+1) * 2 ^ s * 18446744073709551616:=by
    have:=Int.mul_lt_mul_of_pos_right (show hi * 18446744073709551616+lo<(hi+1) * 18446744073709551616 by omega) hk
    rwa [Int.mul_right_comm (hi+1)] at this
   generalize (hi * 18446744073709551616+lo) * 2 ^ s=U at *
   omega
  obtain ⟨hd1,hd2⟩:=DQ (a:=hi * 18446744073709551616+lo) (y:=y) (k:=2 ^ s) hk (by omega)
  have hU0:0≤(hi * 18446744073709551616+lo) * 2 ^ s:=ar (by omega) (by omega)
  have hw1:IntKind.u64.wrap (lo * 2 ^ s)=(hi * 18446744073709551616+lo) * 2 ^ s % 18446744073709551616:=by
   rw [← hT.2];simp only [IntKind.wrap,IntKind.bits,IntKind.signed];simp
  rw [← hd1]
  have hrem:(hi * 18446744073709551616+lo) % y=(hi * 18446744073709551616+lo) * 2 ^ s % (y * 2 ^ s) / 2 ^ s:=by
   rw [hd2,Int.mul_ediv_cancel _ (by omega)]
  rw [hrem]
  refine aA Tryz.func267 [.tmp 6, .tmp 7] ?_
  repeat' (first|refine aj (And.intro g1 (And.intro g2 g3)) ?_|refine an ?_|((with_reducible refine aT (id:=14) (fun K hW => ?_));(try simp (maxSteps:=999999)(disch:=omega) only [go_sem]);and_intros;(all_goals first|(refine hK _ ?_;clear hK K)|exact aa|skip))|((first|refine ai (fun K hK => ?_)|refine ae (hl) ?_);and_intros;(all_goals first|(refine hK _ ?_;clear hK K)|exact aa|skip)))
  refine hW _ (aQ [(2, .b (bQ (y * 2 ^ s))),(8, .b (bQ s)),(9, .b (bQ (y * 2 ^ s / 4294967296))),(10, .b (bQ (y * 2 ^ s % 4294967296))),(11, .b (bQ ((hi * 18446744073709551616+lo) * 2 ^ s / 18446744073709551616))),
   (13, .b (bQ ((hi * 18446744073709551616+lo) * 2 ^ s % 18446744073709551616 / 4294967296))),(14, .b (bQ ((hi * 18446744073709551616+lo) * 2 ^ s % 18446744073709551616 % 4294967296)))] [] 1) ?_ ?_
  ·have hy2:IntKind.u64.wrap (y * 2 ^ s)=y * 2 ^ s:=wq _ ⟨by omega,Y1⟩
   have hh3:IntKind.u64.wrap (hi * 2 ^ s)=hi * 2 ^ s:=wq _ ⟨hh2,by omega⟩
   refine az [] ?_ ?_
   and_intros
   all_goals first|exact ao|skip
   ·exact .inl (by rw [hs1,hy2])
   ·exact .inl (by rw [hs1,hy2,OR])
   ·exact .inl (by rw [hs1,hy2,FD (by omega) Y1])
   ·exact .inl (by rw [hs1,hs2,hh3,hT.1])
   ·exact .inl (by rw [hs1,hw1,OR])
   ·exact .inl (by rw [hs1,hw1,FD (by omega) (by omega)])
  clear hW hw1 hT hrem hd1 hd2 hl
  generalize (hi * 18446744073709551616+lo) * 2 ^ s=U at *
  generalize y * 2 ^ s=Y at *
  clear hb hh2
  obtain ⟨y1,e1⟩:∃ y1,y1=Y / 4294967296:=⟨_,rfl⟩
  obtain ⟨y0,e0⟩:∃ y0,y0=Y % 4294967296:=⟨_,rfl⟩
  obtain ⟨t,et⟩:∃ t,t=U / 18446744073709551616:=⟨_,rfl⟩
  obtain ⟨d1,f1⟩:∃ d1,d1=U % 18446744073709551616 / 4294967296:=⟨_,rfl⟩
  obtain ⟨d0,f0⟩:∃ d0,d0=U % 18446744073709551616 % 4294967296:=⟨_,rfl⟩
  rw [← e1,← e0,← et,← f1,← f0]
  have eY:y1 * 4294967296+y0=Y:=by omega
  have eU:U=t * 18446744073709551616+(d1 * 4294967296+d0):=by omega
  have P1:DigP t d1 y1 y0:=⟨by omega,by omega,by omega,by omega,by omega,by omega,by omega,by omega⟩
  have I1:=wm P1
  have z1:(y1 == 0)=false:=beq_eq_false_iff_ne.2 (by omega)
  have hq:=I1.q0
  have hr:=I1.r0
  have hqb:=yn P1 I1
  have hr1:t - t / y1 * y1<4294967296:=by
   have:=Int.emod_lt_of_pos t (show 0<y1 by omega)
   have h2:=Int.mul_ediv_add_emod t y1
   rw [Int.mul_comm] at h2
   omega
  have hqy:0≤t / y1 * y1:=ar hq (by omega)
  repeat' (first|((with_reducible refine aT (id:=16) (fun K hW => ?_));(try simp (maxSteps:=999999)(disch:=omega) only [go_sem]);and_intros;(all_goals first|(refine hK _ ?_;clear hK K)|exact aa|skip))|(refine ai (fun K hK => ?_);and_intros;(all_goals first|(refine hK _ ?_;clear hK K)|exact aa|skip)))
  refine hW _ (aQ [(2, .b (bQ Y)),(8, .b (bQ s)),(9, .b (bQ y1)),(10, .b (bQ y0)),(11, .b (bQ t)),(13, .b (bQ d1)),(14, .b (bQ d0)),(15, .b (bQ (t / y1))),(16, .b (bQ (t - t / y1 * y1)))] [] 1) ?_ ?_
  ·refine az [] ?_ ?_
   and_intros
   all_goals first|exact ao|skip
  clear hW
  refine dZ fun KB hV => ?_
  have tl:∀ st,Le st (aQ [(2, .b (bQ Y)),(8, .b (bQ s)),(9, .b (bQ y1)),(10, .b (bQ y0)),(11, .b (bQ t)),(13, .b (bQ d1)),(14, .b (bQ d0)),(15, .b (bQ ((t * 4294967296+d1) / Y)))] [] 1)→KB st:=fun st hl=>hV st _ hl ?_
  rotate_left
  ·clear hV
   have hYp:0<Y:=by omega
   obtain ⟨Q,eQ⟩:∃ Q,Q=(t * 4294967296+d1) / Y:=⟨_,rfl⟩
   obtain ⟨u,eu⟩:∃ u,u=(t * 4294967296+d1) % Y:=⟨_,rfl⟩
   rw [← eQ]
   have h1:=Int.mul_ediv_add_emod (t * 4294967296+d1) Y
   rw [← eQ,← eu,Int.mul_comm] at h1
   have u0:0≤u:=by rw [eu];exact Int.emod_nonneg _ (by omega)
   have u1:u<Y:=by rw [eu];exact Int.emod_lt_of_pos _ hYp
   have Q0:0≤Q:=by rw [eQ];exact Int.ediv_nonneg (by omega) (by omega)
   have Q1:Q<4294967296:=by rw [eQ];exact (Int.ediv_lt_iff_lt_mul hYp).2 (by omega)
   have hw:=TA (a:=t * 4294967296) (b:=d1) (c:=Q * Y) (by omega) (by omega)
   rw [show t * 4294967296+d1 - Q * Y=u by omega] at hw
   have P2:DigP u d0 y1 y0:=⟨by omega,by omega,by omega,by omega,by omega,by omega,by omega,by omega⟩
   have I2:=wm P2
   have hq2:=I2.q0
   have hr20:=I2.r0
   have hqb2:=yn P2 I2
   have hr2:u - u / y1 * y1<4294967296:=by
    have:=Int.emod_lt_of_pos u (show 0<y1 by omega)
    have h2:=Int.mul_ediv_add_emod u y1
    rw [Int.mul_comm] at h2
    omega
   have hqy2:0≤u / y1 * y1:=ar hq2 (by omega)
   repeat' ((with_reducible refine aT (id:=21) (fun K hW => ?_));(try simp (maxSteps:=999999)(disch:=omega) only [go_sem]);and_intros;(all_goals first|(refine hK _ ?_;clear hK K)|exact aa|skip))
   refine hW _ (aQ [(2, .b (bQ Y)),(8, .b (bQ s)),(9, .b (bQ y1)),(10, .b (bQ y0)),(14, .b (bQ d0)),(15, .b (bQ Q)),(17, .b (bQ u))] [] 1) ?_ ?_
   ·refine az [] ?_ ?_
    and_intros
    all_goals first|exact ao|skip
    exact .inl (by rw [hw])
   clear hW
   repeat' (first|((with_reducible refine aT (id:=23) (fun K hW => ?_));(try simp (maxSteps:=999999)(disch:=omega) only [go_sem]);and_intros;(all_goals first|(refine hK _ ?_;clear hK K)|exact aa|skip))|(refine ai (fun K hK => ?_);and_intros;(all_goals first|(refine hK _ ?_;clear hK K)|exact aa|skip)))
   refine hW _ (aQ [(2, .b (bQ Y)),(8, .b (bQ s)),(9, .b (bQ y1)),(10, .b (bQ y0)),(14, .b (bQ d0)),(15, .b (bQ Q)),(17, .b (bQ u)),(18, .b (bQ (u / y1))),(16, .b (bQ (u - u / y1 * y1)))] [] 1) ?_ ?_
   ·refine az [] ?_ ?_
    and_intros
    all_goals first|exact ao|skip
   clear hW
   refine dZ fun KB2 hV2 => ?_
   have tl2:∀ st,Le st (aQ [(2, .b (bQ Y)),(8, .b (bQ s)),(14, .b (bQ d0)),(15, .b (bQ Q)),(17, .b (bQ u)),(18, .b (bQ ((u * 4294967296+d0) / Y)))] [] 1)→KB2 st:=fun st hl=>hV2 st _ hl ?_
   rotate_left
   ·clear hV2
    obtain ⟨D,eD⟩:∃ D,D=(u * 4294967296+d0) / Y:=⟨_,rfl⟩
    have td:=BX (t:=t) (a:=d1) (b:=d0) hYp eQ eu eD ⟨by omega,by omega⟩
    rw [← eU] at td
    rw [← eD]
    have D0:0≤D:=by rw [eD];exact Int.ediv_nonneg (by omega) (by omega)
    have D1:D<4294967296:=by rw [eD];exact (Int.ediv_lt_iff_lt_mul hYp).2 (by omega)
    have h2:=Int.mul_ediv_add_emod (u * 4294967296+d0) Y
    rw [← eD,Int.mul_comm,td.2] at h2
    have v0:0≤U % Y:=Int.emod_nonneg _ (by omega)
    have v1:U % Y<Y:=Int.emod_lt_of_pos _ hYp
    have hw2:=TA (a:=u * 4294967296) (b:=d0) (c:=D * Y) (by omega) (by omega)
    rw [show u * 4294967296+d0 - D * Y=U % Y by omega] at hw2
    repeat' (first|(refine ai (fun K hK => ?_);and_intros;(all_goals first|(refine hK _ ?_;clear hK K)|exact aa|skip))|(refine ak ?_;(try clear hB KB);(try clear hK K)))
    rw [hw2,td.1,hs1,Int.fdiv_eq_ediv_of_nonneg _ (by omega)]
   ·clear hV2
    refine aO (X:=Int × Int) (fun x=>aQ [(2, .b (bQ Y)),(8, .b (bQ s)),(9, .b (bQ y1)),(10, .b (bQ y0)),(14, .b (bQ d0)),(15, .b (bQ Q)),(17, .b (bQ u)),(18, .b (bQ x.1)),(16, .b (bQ x.2))] [] 1) (fun x=>DigI u d0 y1 y0 x.1 x.2∧x.2<4294967296) (fun x=>x.1.toNat) (u / y1,u - u / y1 * y1) ?_ ?_ ?_
    ·exact ⟨I2,hr2⟩
    ·refine az [] ?_ ?_
     and_intros
     all_goals first|exact ao|skip
    ·rintro ⟨q,r⟩ ⟨I,rB⟩
     dsimp only at I rB ⊢
     have q0:=I.q0
     have r0:=I.r0
     have hqb:=yn P2 I
     by_cases c1:q≥4294967296
     ·have g1:decide (q≥4294967296)=true:=decide_eq_true c1
      have J:=pq P2 I (.inl c1)
      have q1:=J.q0
      by_cases c3:r+y1≥4294967296
      ·have g3:decide (r+y1≥4294967296)=true:=decide_eq_true c3
       have hq2:q - 1=(u * 4294967296+d0) / Y:=by rw [← eY];exact (mX P2 J (mU P2 J c3)).1
       repeat' (first|refine aj (And.intro g1 g3) ?_|refine an ?_|(refine ai (fun K hK => ?_);and_intros;(all_goals first|(refine hK _ ?_;clear hK K)|exact aa|skip)))
       refine tl2 _ ?_
       rw [← hq2]
       refine az [] ?_ ?_
       and_intros
       all_goals first|exact ao|skip
      ·have g3:decide (r+y1≥4294967296)=false:=decide_eq_false c3
       repeat' (first|refine aj (And.intro g1 g3) ?_|refine an ?_|(refine ai (fun K hK => ?_);and_intros;(all_goals first|(refine hK _ ?_;clear hK K)|exact aa|skip)))
       refine aw (q - 1,r+y1) ?_ ⟨J,by dsimp only;omega⟩ (by dsimp only;omega)
       refine az [] ?_ ?_
       and_intros
       all_goals first|exact ao|skip
     ·have g1:decide (q≥4294967296)=false:=decide_eq_false c1
      have m0:0≤q * y0∧q * y0≤4294967295 * 4294967295:=⟨Int.mul_nonneg q0 (by omega),Int.mul_le_mul (by omega) (by omega) (by omega) (by omega)⟩
      by_cases c2:q * y0>4294967296 * r+d0
      ·have g2:decide (q * y0>4294967296 * r+d0)=true:=decide_eq_true c2
       have J:=pq P2 I (.inr c2)
       have q1:=J.q0
       by_cases c3:r+y1≥4294967296
       ·have g3:decide (r+y1≥4294967296)=true:=decide_eq_true c3
        have hq2:q - 1=(u * 4294967296+d0) / Y:=by rw [← eY];exact (mX P2 J (mU P2 J c3)).1
        repeat' (first|refine aj (And.intro g1 (And.intro g2 g3)) ?_|refine an ?_|(refine ai (fun K hK => ?_);and_intros;(all_goals first|(refine hK _ ?_;clear hK K)|exact aa|skip)))
        refine tl2 _ ?_
        rw [← hq2]
        refine az [] ?_ ?_
        and_intros
        all_goals first|exact ao|skip
       ·have g3:decide (r+y1≥4294967296)=false:=decide_eq_false c3
        repeat' (first|refine aj (And.intro g1 (And.intro g2 g3)) ?_|refine an ?_|(refine ai (fun K hK => ?_);and_intros;(all_goals first|(refine hK _ ?_;clear hK K)|exact aa|skip)))
        refine aw (q - 1,r+y1) ?_ ⟨J,by dsimp only;omega⟩ (by dsimp only;omega)
        refine az [] ?_ ?_
        and_intros
        all_goals first|exact ao|skip
      ·have g2:decide (q * y0>4294967296 * r+d0)=false:=decide_eq_false c2
       have hq2:q=(u * 4294967296+d0) / Y:=by rw [← eY];exact (mX P2 I (by omega)).1
       repeat' (first|refine aj (And.intro g1 g2) ?_|refine an ?_|(refine ai (fun K hK => ?_);and_intros;(all_goals first|(refine hK _ ?_;clear hK K)|exact aa|skip)))
       refine tl2 _ ?_
       rw [← hq2]
       refine az [] ?_ ?_
       and_intros
       all_goals first|exact ao|skip
  ·clear hV
   refine aO (X:=Int × Int) (fun x=>aQ [(2, .b (bQ Y)),(8, .b (bQ s)),(9, .b (bQ y1)),(10, .b (bQ y0)),(11, .b (bQ t)),(13, .b (bQ d1)),(14, .b (bQ d0)),(15, .b (bQ x.1)),(16, .b (bQ x.2))] [] 1) (fun x=>DigI t d1 y1 y0 x.1 x.2∧x.2<4294967296) (fun x=>x.1.toNat) (t / y1,t - t / y1 * y1) ?_ ?_ ?_
   ·exact ⟨I1,hr1⟩
   ·refine az [] ?_ ?_
    and_intros
    all_goals first|exact ao|skip
   ·rintro ⟨q,r⟩ ⟨I,rB⟩
    dsimp only at I rB ⊢
    have q0:=I.q0
    have r0:=I.r0
    have hqb:=yn P1 I
    by_cases c1:q≥4294967296
    ·have g1:decide (q≥4294967296)=true:=decide_eq_true c1
     have J:=pq P1 I (.inl c1)
     have q1:=J.q0
     by_cases c3:r+y1≥4294967296
     ·have g3:decide (r+y1≥4294967296)=true:=decide_eq_true c3
      have hq2:q - 1=(t * 4294967296+d1) / Y:=by rw [← eY];exact (mX P1 J (mU P1 J c3)).1
      repeat' (first|refine aj (And.intro g1 g3) ?_|refine an ?_|(refine ai (fun K hK => ?_);and_intros;(all_goals first|(refine hK _ ?_;clear hK K)|exact aa|skip)))
      refine tl _ ?_
      rw [← hq2]
      refine az [] ?_ ?_
      and_intros
      all_goals first|exact ao|skip
     ·have g3:decide (r+y1≥4294967296)=false:=decide_eq_false c3
      repeat' (first|refine aj (And.intro g1 g3) ?_|refine an ?_|(refine ai (fun K hK => ?_);and_intros;(all_goals first|(refine hK _ ?_;clear hK K)|exact aa|skip)))
      refine aw (q - 1,r+y1) ?_ ⟨J,by dsimp only;omega⟩ (by dsimp only;omega)
      refine az [] ?_ ?_
      and_intros
      all_goals first|exact ao|skip
    ·have g1:decide (q≥4294967296)=false:=decide_eq_false c1
     have m0:0≤q * y0∧q * y0≤4294967295 * 4294967295:=⟨Int.mul_nonneg q0 (by omega),Int.mul_le_mul (by omega) (by omega) (by omega) (by omega)⟩
     by_cases c2:q * y0>4294967296 * r+d1
     ·have g2:decide (q * y0>4294967296 * r+d1)=true:=decide_eq_true c2
      have J:=pq P1 I (.inr c2)
      have q1:=J.q0
      by_cases c3:r+y1≥4294967296
      ·have g3:decide (r+y1≥4294967296)=true:=decide_eq_true c3
       have hq2:q - 1=(t * 4294967296+d1) / Y:=by rw [← eY];exact (mX P1 J (mU P1 J c3)).1
       repeat' (first|refine aj (And.intro g1 (And.intro g2 g3)) ?_|refine an ?_|(refine ai (fun K hK => ?_);and_intros;(all_goals first|(refine hK _ ?_;clear hK K)|exact aa|skip)))
       refine tl _ ?_
       rw [← hq2]
       refine az [] ?_ ?_
       and_intros
       all_goals first|exact ao|skip
      ·have g3:decide (r+y1≥4294967296)=false:=decide_eq_false c3
       repeat' (first|refine aj (And.intro g1 (And.intro g2 g3)) ?_|refine an ?_|(refine ai (fun K hK => ?_);and_intros;(all_goals first|(refine hK _ ?_;clear hK K)|exact aa|skip)))
       refine aw (q - 1,r+y1) ?_ ⟨J,by dsimp only;omega⟩ (by dsimp only;omega)
       refine az [] ?_ ?_
       and_intros
       all_goals first|exact ao|skip
     ·have g2:decide (q * y0>4294967296 * r+d1)=false:=decide_eq_false c2
      have hq2:q=(t * 4294967296+d1) / Y:=by rw [← eY];exact (mX P1 I (by omega)).1
      repeat' (first|refine aj (And.intro g1 g2) ?_|refine an ?_|(refine ai (fun K hK => ?_);and_intros;(all_goals first|(refine hK _ ?_;clear hK K)|exact aa|skip)))
      refine tl _ ?_
      rw [← hq2]
      refine az [] ?_ ?_
      and_intros
      all_goals first|exact ao|skip
end Go.Proofs.YtmfblbbemekkoaaGreatDoor
set_option maxHeartbeats 2000000
set_option maxRecDepth 16000
namespace Go.Proofs.YtmfblbbemekkoaaGreatDoor
open Go Go.SL
open Go.RowKit (wrap64)
def JG (f a m:Int):Int:=if f=1 then m else if f=2 then a else if f=3 then m - a else 0
def QH (h f g m:Int):Int:=if h=1 then f else if h=2 then g else if h=3 then bL (m * f+(m - f) * g) m else if h=4 then bL (f * g) m else 0
theorem CI {op:Int} (h:1≤op∧op≤12):∃ nm fa fb sh,pH op=[.val (.string nm),PI fa,PI fb,PI sh]∧(∀ a b m,JG fa b m=iT op a b m∧JG fb a m=kE op a b m)∧∀ f g m,QH sh f g m=en op f g m:=by
 have hv:op=1∨op=2∨op=3∨op=4∨op=5∨op=6∨op=7∨op=8∨op=9∨op=10∨op=11∨op=12:=by omega
 rcases hv with rfl|rfl|rfl|rfl|rfl|rfl|rfl|rfl|rfl|rfl|rfl|rfl <;> exact ⟨_,_,_,_,rfl,fun a b m=>⟨rfl,rfl⟩,fun f g m=>rfl⟩
theorem wU (f a m:Int) (ha:0≤a) (ham:a≤m) (hm:m≤65535):aC Sg 247 [I f,U a,U m] (fun r=>r = .b (U (JG f a m))):=by
 unfold JG
 refine aA Tryz.func247 [.tmp 6] ?_
 by_cases c1:f=1
 ·have g1:(f == 1)=true:=beq_iff_eq.2 c1
  rw [if_pos c1]
  repeat' (first|with_reducible exact ca|refine aj g1 ?_|refine an ?_|(refine ai (fun K hK => ?_);and_intros;(all_goals first|(refine hK _ ?_;clear hK K)|exact aa|skip))|(refine ak ?_;(try clear hB KB);(try clear hK K)))
 have g1:(f == 1)=false:=beq_eq_false_iff_ne.2 c1
 rw [if_neg c1]
 by_cases c2:f=2
 ·have g2:(f == 2)=true:=beq_iff_eq.2 c2
  rw [if_pos c2]
  repeat' (first|with_reducible exact ca|refine aj (And.intro g1 g2) ?_|refine an ?_|(refine ai (fun K hK => ?_);and_intros;(all_goals first|(refine hK _ ?_;clear hK K)|exact aa|skip))|(refine ak ?_;(try clear hB KB);(try clear hK K)))
 have g2:(f == 2)=false:=beq_eq_false_iff_ne.2 c2
 rw [if_neg c2]
 by_cases c3:f=3
 ·have g3:(f == 3)=true:=beq_iff_eq.2 c3
  rw [if_pos c3]
  repeat' (first|with_reducible exact ca|refine aj (And.intro g1 (And.intro g2 g3)) ?_|refine an ?_|(refine ai (fun K hK => ?_);and_intros;(all_goals first|(refine hK _ ?_;clear hK K)|exact aa|skip))|(refine ak ?_;(try clear hB KB);(try clear hK K)))
 have g3:(f == 3)=false:=beq_eq_false_iff_ne.2 c3
 rw [if_neg c3]
 repeat' (first|with_reducible exact ca|refine aj (And.intro g1 (And.intro g2 g3)) ?_|refine an ?_|(refine ai (fun K hK => ?_);and_intros;(all_goals first|(refine hK _ ?_;clear hK K)|exact aa|skip))|(refine ak ?_;(try clear hB KB);(try clear hK K)))
theorem rn (op a b m:Int) (hm:Full m) (ho:1≤op∧op≤12) (ha:0≤a) (ham:a≤m) (hb:0≤b) (hbm:b≤m):aC Sg 228 [I op,U a,U b,U m] (fun r=>r = .tup [U (iT op a b m),U (kE op a b m),B true]):=by
 have hle:=hm.le
 have d1:decide (a>m)=false:=decide_eq_false (by omega)
 have d2:decide (b>m)=false:=decide_eq_false (by omega)
 have hf:=pV op
 rw [decide_eq_true ho] at hf
 obtain ⟨nm,fa,fb,sh,e,hab,_⟩:=CI ho
 rw [e] at hf
 have h1:=wU fa b m hb hbm hle
 have h2:=wU fb a m ha ham hle
 rw [(hab a b m).1] at h1
 rw [(hab a b m).2] at h2
 refine aA Tryz.func228 [.tmp 8, .tmp 9, .tmp 10] ?_
 repeat' (first|with_reducible exact ca|refine aj (And.intro d1 d2) ?_|refine an ?_|((first|refine ai (fun K hK => ?_)|refine ae (hf) ?_|refine ae (h1) ?_|refine ae (h2) ?_);and_intros;(all_goals first|(refine hK _ ?_;clear hK K)|exact aa|skip))|(refine ak ?_;(try clear hB KB);(try clear hK K)))
theorem xG (x p y q m:Int) (hx:0≤x∧x≤65535) (hp:0≤p∧p≤65535) (hy:0≤y∧y≤65535) (hq:0≤q∧q≤65535) (hm:0<m∧m≤65535) (hr:bL (x * p+y * q) m≤65535):aC Sg 229 [U x,U p,U y,U q,U m] (fun r=>r = .b (U (bL (x * p+y * q) m))):=by
 have e1:0≤x * p∧x * p≤65535 * 65535:=⟨ar hx.1 hp.1,ay hx.2 hp.2 hp.1 (by decide)⟩
 have e2:0≤y * q∧y * q≤65535 * 65535:=⟨ar hy.1 hq.1,ay hy.2 hq.2 hq.1 (by decide)⟩
 have hn:=de (n:=x * p+y * q) hm.1 (by omega)
 have hw:IntKind.u16.wrap (bL (x * p+y * q) m)=bL (x * p+y * q) m:=fz hn hr
 refine aA Tryz.func229 [.tmp 10] ?_
 repeat' (first|with_reducible exact ca|((first|refine ai (fun K hK => ?_)|refine ae (tP (x * p+y * q) m ⟨by omega,by omega⟩ ⟨by omega,by omega⟩) ?_);and_intros;(all_goals first|(refine hK _ ?_;clear hK K)|exact aa|skip))|(refine ak ?_;(try clear hB KB);(try clear hK K)))
theorem wG (op a b m:Int) (hm:Full m) (ho:1≤op∧op≤12) (ha:0≤a) (ham:a≤m) (hb:0≤b) (hbm:b≤m):aC Sg 209 [I op,U a,U b,U m] (fun r=>r = .b (U (dj op a b m))):=by
 have hle:=hm.le
 have hp:=hm.pos
 have hf:=rn op a b m hm ho ha ham hb hbm
 have hl:=mv (op:=op) hm ha ham hb hbm
 have ⟨a1,a2⟩:=jq (op:=op) ha ham hb hbm
 have ⟨b1,b2⟩:=kv (op:=op) ha ham hb hbm
 have hs:=xG (iT op a b m) a (kE op a b m) b m ⟨a1,by omega⟩ ⟨ha,by omega⟩ ⟨b1,by omega⟩ ⟨hb,by omega⟩ ⟨hp,hle⟩ (by unfold dj at hl;omega)
 unfold dj at *
 generalize iT op a b m=fa at *
 generalize kE op a b m=fb at *
 refine aA Tryz.func209 [.tmp 8] ?_
 repeat' (first|with_reducible exact ca|((first|refine ai (fun K hK => ?_)|refine ae (hf) ?_|refine ae (hs) ?_);and_intros;(all_goals first|(refine hK _ ?_;clear hK K)|exact aa|skip))|(refine ak ?_;(try clear hB KB);(try clear hK K)))
end Go.Proofs.YtmfblbbemekkoaaGreatDoor
set_option maxHeartbeats 2000000
set_option maxRecDepth 16000
namespace Go.Proofs.YtmfblbbemekkoaaGreatDoor
open Go Go.SL
open Go.RowKit (wrap64)
theorem wa (op f g m:Int) (hm:Full m) (ho:1≤op∧op≤12) (hf:0≤f) (hfm:f≤m) (hg:0≤g) (hgm:g≤m):aC Sg 210 [I op,U f,U g,U m] (fun r=>r = .b (U (en op f g m))):=by
 have hle:=hm.le
 have hp:=hm.pos
 have d1:decide (f>m)=false:=decide_eq_false (by omega)
 have d2:decide (g>m)=false:=decide_eq_false (by omega)
 have d3:(m == 0)=false:=beq_eq_false_iff_ne.2 (by omega)
 have hfi:=pV op
 rw [decide_eq_true ho] at hfi
 obtain ⟨nm,fa,fb,sh,e,_,hsh⟩:=CI ho
 rw [e] at hfi
 have hs:=mO (op:=op) hm hf hfm hg hgm
 rw [← hsh f g m] at hs ⊢
 unfold QH at *
 refine aA Tryz.func210 [.tmp 8] ?_
 by_cases c1:sh=1
 ·have g1:(sh == 1)=true:=beq_iff_eq.2 c1
  rw [if_pos c1]
  repeat' (first|with_reducible exact ca|refine aj (And.intro d1 (And.intro d2 (And.intro d3 g1))) ?_|refine an ?_|((first|refine ai (fun K hK => ?_)|refine ae (hfi) ?_);and_intros;(all_goals first|(refine hK _ ?_;clear hK K)|exact aa|skip))|(refine ak ?_;(try clear hB KB);(try clear hK K)))
 have g1:(sh == 1)=false:=beq_eq_false_iff_ne.2 c1
 rw [if_neg c1] at hs ⊢
 by_cases c2:sh=2
 ·have g2:(sh == 2)=true:=beq_iff_eq.2 c2
  rw [if_pos c2]
  repeat' (first|with_reducible exact ca|refine aj (And.intro d1 (And.intro d2 (And.intro d3 (And.intro g1 g2)))) ?_|refine an ?_|((first|refine ai (fun K hK => ?_)|refine ae (hfi) ?_);and_intros;(all_goals first|(refine hK _ ?_;clear hK K)|exact aa|skip))|(refine ak ?_;(try clear hB KB);(try clear hK K)))
 have g2:(sh == 2)=false:=beq_eq_false_iff_ne.2 c2
 rw [if_neg c2] at hs ⊢
 by_cases c3:sh=3
 ·have g3:(sh == 3)=true:=beq_iff_eq.2 c3
  rw [if_pos c3] at hs ⊢
  have h1:=xG m f (m - f) g m ⟨by omega,hle⟩ ⟨hf,by omega⟩ ⟨by omega,by omega⟩ ⟨hg,by omega⟩ ⟨hp,hle⟩ (by omega)
  repeat' (first|with_reducible exact ca|refine aj (And.intro d1 (And.intro d2 (And.intro d3 (And.intro g1 (And.intro g2 g3))))) ?_|refine an ?_|((first|refine ai (fun K hK => ?_)|refine ae (hfi) ?_|refine ae (h1) ?_);and_intros;(all_goals first|(refine hK _ ?_;clear hK K)|exact aa|skip))|(refine ak ?_;(try clear hB KB);(try clear hK K)))
 have g3:(sh == 3)=false:=beq_eq_false_iff_ne.2 c3
 rw [if_neg c3] at hs ⊢
 by_cases c4:sh=4
 ·have g4:(sh == 4)=true:=beq_iff_eq.2 c4
  rw [if_pos c4] at hs ⊢
  have h1:=xG f g 0 0 m ⟨hf,by omega⟩ ⟨hg,by omega⟩ ⟨by decide,by decide⟩ ⟨by decide,by decide⟩ ⟨hp,hle⟩ (by rw [Int.mul_zero,Int.add_zero];omega)
  rw [Int.mul_zero,Int.add_zero] at h1
  repeat' (first|with_reducible exact ca|refine aj (And.intro d1 (And.intro d2 (And.intro d3 (And.intro g1 (And.intro g2 (And.intro g3 g4)))))) ?_|refine an ?_|((first|refine ai (fun K hK => ?_)|refine ae (hfi) ?_|refine ae (h1) ?_);and_intros;(all_goals first|(refine hK _ ?_;clear hK K)|exact aa|skip))|(refine ak ?_;(try clear hB KB);(try clear hK K)))
 have g4:(sh == 4)=false:=beq_eq_false_iff_ne.2 c4
 rw [if_neg c4]
 repeat' (first|with_reducible exact ca|refine aj (And.intro d1 (And.intro d2 (And.intro d3 (And.intro g1 (And.intro g2 (And.intro g3 g4)))))) ?_|refine an ?_|((first|refine ai (fun K hK => ?_)|refine ae (hfi) ?_);and_intros;(all_goals first|(refine hK _ ?_;clear hK K)|exact aa|skip))|(refine ak ?_;(try clear hB KB);(try clear hK K)))
end Go.Proofs.YtmfblbbemekkoaaGreatDoor
