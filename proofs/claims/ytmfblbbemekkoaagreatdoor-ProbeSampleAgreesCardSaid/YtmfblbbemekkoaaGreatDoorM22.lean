/- Part of the proof: U9, WA, WD, WE, WF, WG, WH, T9, TA. -/
import Derived.Test.YtmfblbbemekkoaaGreatDoorM15
import Derived.Test.YtmfblbbemekkoaaGreatDoorM21
set_option linter.unusedSimpArgs false
set_option linter.unusedVariables false
set_option maxHeartbeats 2000000
set_option maxRecDepth 16000
namespace Go.Proofs.YtmfblbbemekkoaaGreatDoor
open Go Go.SL
open Go.RowKit (wrap64)
attribute [local go_sem] cN
theorem PixV.pre {p:Pixel} {m:Int} (h:PixV p m):Pre p.c0 p.a m∧Pre p.c1 p.a m∧Pre p.c2 p.a m:=⟨⟨h.n0,h.l0,h.am⟩,⟨h.n1,h.l1,h.am⟩,⟨h.n2,h.l2,h.am⟩⟩
theorem AccV.pre {x:Acc} {b:Pixel} {m:Int} (h:AccV x b m):Pre x.c0 x.a m∧Pre x.c1 x.a m∧Pre x.c2 x.a m:=⟨⟨h.n0,h.l0,h.am⟩,⟨h.n1,h.l1,h.am⟩,⟨h.n2,h.l2,h.am⟩⟩
theorem Il (ko : Bool) (op mode m : Int) (s : Pixel) (x : Acc) (b : Pixel) (hm : Full m) (ho : 1 ≤ op ∧ op ≤ 12) (hmo : 1 ≤ mode ∧ mode ≤ 12) (hs : PixV s m) (hx : AccV x b m) (hk : ko = true → op = 4) :
  aC Sg 177 [B ko,I op,I mode,U m,ag (aF s),ag (cN x),ag (aF b)] (fun r=>r = .tup [ag (cN (dH ko op mode m s x b)),B true]):=by
 have hi:=nu op
 rw [kn ho] at hi
 have hi2:=ki mode
 rw [kn hmo] at hi2
 have hva:=nE x b m hm hx
 have hvp:=dY s m
 rw [gi hs] at hvp
 have hsh:=Ht op s.f x.f m hm hs.f0 hs.fm hx.f0 hx.fm
 obtain ⟨s1,s2,s3⟩:=hs.pre
 obtain ⟨x1,x2,x3⟩:=hx.pre
 obtain ⟨b1,b2,b3⟩:=hx.bk.pre
 have htt:True:=trivial
 cases ko
 ·have c1:=tZ op mode m s.c0 s.a x.c0 x.a hm ho hmo s1 x1
  have c2:=tZ op mode m s.c1 s.a x.c1 x.a hm ho hmo s2 x2
  have c3:=tZ op mode m s.c2 s.a x.c2 x.a hm ho hmo s3 x3
  have a1:=yA op s.a x.a m hm ho hs.a0 hs.am hx.a0 hx.am
  have a2:=yA op s.a x.own m hm ho hs.a0 hs.am hx.o0 hx.om
  rw [show dH false op mode m s x b=⟨dL op mode m s.c0 s.a x.c0 x.a,dL op mode m s.c1 s.a x.c1 x.a,dL op mode m s.c2 s.a x.c2 x.a,dj op s.a x.a m,dj op s.a x.own m,en op s.f x.f m⟩ from rfl]
  generalize dL op mode m s.c0 s.a x.c0 x.a=y1 at *
  generalize dL op mode m s.c1 s.a x.c1 x.a=y2 at *
  generalize dL op mode m s.c2 s.a x.c2 x.a=y3 at *
  generalize dj op s.a x.a m=y4 at *
  generalize dj op s.a x.own m=y5 at *
  generalize en op s.f x.f m=y6 at *
  refine aA Tryz.func177 [.cell 14 156, .tmp 15] ?_
  repeat' (first|refine aj htt ?_|refine an ?_|((first|refine ai (fun K hK => ?_)|refine ae (hi) ?_|refine aD (fun hg=>hi2) ?_|refine aD (fun hg=>hva) ?_|refine aD (fun hg=>hvp) ?_|refine ae (hsh) ?_);and_intros;(all_goals first|(refine hK _ ?_;clear hK K)|exact aa|skip)))
  refine aO (X:=Int) (fun i=>aQ [(0, .b (B false)),(1, .b (I op)),(2, .b (I mode)),(3, .b (U m)),(11, .b (.c (.ptr 0 0))),(12, .b (.c (.ptr 1 0))),(13, .b (.c (.ptr 2 0))),(14, .b (.c (.ptr 3 0))),(16, .b (.c (.ptr 4 0))),(17, .b (I i))]
   [(0, .fix ((aF s).map CV.p)),(1, .fix ((cN x).map CV.p)),(2, .fix ((aF b).map CV.p)),(3, .fix ((cN BJ).map CV.p)),(4, .fix [.p (PU (if 0<i then y1 else 0)), .p (PU (if 1<i then y2 else 0)), .p (PU (if 2<i then y3 else 0)), .p (PU 0), .p (PU 0), .p (PU y6)])] 5) (fun i=>0≤i∧i≤3) (fun i=>(3 - i).toNat) 0 ?_ ?_ ?_
  ·omega
  ·refine az [(1,some 1),(2,some 2),(3,some 3),(4,some 4)] ?_ ?_
   and_intros
   all_goals first|exact ao|skip
  ·intro i hi'
   have hiv:i=0∨i=1∨i=2∨i=3:=by omega
   rcases hiv with rfl|rfl|rfl|rfl
   ·repeat' (first|refine aj htt ?_|refine an ?_|((first|refine ai (fun K hK => ?_)|refine ae (c1) ?_);and_intros;(all_goals first|(refine hK _ ?_;clear hK K)|exact aa|skip)))
    rw [ah]
    refine aw 1 ?_ (by omega) (by decide)
    refine az [(1,some 1),(2,some 2),(3,some 3),(4,some 4)] ?_ ?_
    and_intros
    all_goals first|exact ao|skip
   ·repeat' (first|refine aj htt ?_|refine an ?_|((first|refine ai (fun K hK => ?_)|refine ae (c2) ?_);and_intros;(all_goals first|(refine hK _ ?_;clear hK K)|exact aa|skip)))
    rw [ah]
    refine aw 2 ?_ (by omega) (by decide)
    refine az [(1,some 1),(2,some 2),(3,some 3),(4,some 4)] ?_ ?_
    and_intros
    all_goals first|exact ao|skip
   ·repeat' (first|refine aj htt ?_|refine an ?_|((first|refine ai (fun K hK => ?_)|refine ae (c3) ?_);and_intros;(all_goals first|(refine hK _ ?_;clear hK K)|exact aa|skip)))
    rw [ah]
    refine aw 3 ?_ (by omega) (by decide)
    refine az [(1,some 1),(2,some 2),(3,some 3),(4,some 4)] ?_ ?_
    and_intros
    all_goals first|exact ao|skip
   ·repeat' (first|refine aj htt ?_|refine an ?_|((first|refine ai (fun K hK => ?_)|refine ae (a1) ?_|refine ae (a2) ?_);and_intros;(all_goals first|(refine hK _ ?_;clear hK K)|exact aa|skip))|(refine ak ?_;(try clear hB KB);(try clear hK K)))
    rfl
 ·obtain rfl:=hk rfl
  have c1:=pZ mode m s.c0 s.a s.f x.c0 b.c0 b.a hm hmo s1 b1 hs.af hs.fm hx.n0 (Int.le_trans hx.l0 hx.am)
  have c2:=pZ mode m s.c1 s.a s.f x.c1 b.c1 b.a hm hmo s2 b2 hs.af hs.fm hx.n1 (Int.le_trans hx.l1 hx.am)
  have c3:=pZ mode m s.c2 s.a s.f x.c2 b.c2 b.a hm hmo s3 b3 hs.af hs.fm hx.n2 (Int.le_trans hx.l2 hx.am)
  have a1:=wY m s.a s.f x.a b.a hm hs.a0 hs.af hs.fm hx.a0 hx.am hx.bk.a0 hx.bk.am
  have a2:=EP m s.a s.f x.own hm hs.a0 hs.af hs.fm hx.o0 hx.om
  rw [show dH true 4 mode m s x b=⟨dr mode m s.c0 s.a s.f x.c0 b.c0 b.a,dr mode m s.c1 s.a s.f x.c1 b.c1 b.a,dr mode m s.c2 s.a s.f x.c2 b.c2 b.a,dc m s.a s.f x.a b.a,dc m s.a s.f x.own 0,en 4 s.f x.f m⟩ from rfl]
  generalize dr mode m s.c0 s.a s.f x.c0 b.c0 b.a=y1 at *
  generalize dr mode m s.c1 s.a s.f x.c1 b.c1 b.a=y2 at *
  generalize dr mode m s.c2 s.a s.f x.c2 b.c2 b.a=y3 at *
  generalize dc m s.a s.f x.a b.a=y4 at *
  generalize dc m s.a s.f x.own 0=y5 at *
  generalize en 4 s.f x.f m=y6 at *
  refine aA Tryz.func177 [.cell 14 156, .tmp 15] ?_
  repeat' (first|refine aj htt ?_|refine an ?_|((first|refine ai (fun K hK => ?_)|refine ae (hi) ?_|refine aD (fun hg=>hi2) ?_|refine aD (fun hg=>hva) ?_|refine aD (fun hg=>hvp) ?_|refine ae (hsh) ?_);and_intros;(all_goals first|(refine hK _ ?_;clear hK K)|exact aa|skip)))
  refine aO (X:=Int) (fun i=>aQ [(0, .b (B true)),(1, .b (I 4)),(2, .b (I mode)),(3, .b (U m)),(11, .b (.c (.ptr 0 0))),(12, .b (.c (.ptr 1 0))),(13, .b (.c (.ptr 2 0))),(14, .b (.c (.ptr 3 0))),(16, .b (.c (.ptr 4 0))),(17, .b (I i))]
   [(0, .fix ((aF s).map CV.p)),(1, .fix ((cN x).map CV.p)),(2, .fix ((aF b).map CV.p)),(3, .fix ((cN BJ).map CV.p)),(4, .fix [.p (PU (if 0<i then y1 else 0)), .p (PU (if 1<i then y2 else 0)), .p (PU (if 2<i then y3 else 0)), .p (PU 0), .p (PU 0), .p (PU y6)])] 5) (fun i=>0≤i∧i≤3) (fun i=>(3 - i).toNat) 0 ?_ ?_ ?_
  ·omega
  ·refine az [(1,some 1),(2,some 2),(3,some 3),(4,some 4)] ?_ ?_
   and_intros
   all_goals first|exact ao|skip
  ·intro i hi'
   have hiv:i=0∨i=1∨i=2∨i=3:=by omega
   rcases hiv with rfl|rfl|rfl|rfl
   ·repeat' (first|refine aj htt ?_|refine an ?_|((first|refine ai (fun K hK => ?_)|refine ae (c1) ?_);and_intros;(all_goals first|(refine hK _ ?_;clear hK K)|exact aa|skip)))
    rw [ah]
    refine aw 1 ?_ (by omega) (by decide)
    refine az [(1,some 1),(2,some 2),(3,some 3),(4,some 4)] ?_ ?_
    and_intros
    all_goals first|exact ao|skip
   ·repeat' (first|refine aj htt ?_|refine an ?_|((first|refine ai (fun K hK => ?_)|refine ae (c2) ?_);and_intros;(all_goals first|(refine hK _ ?_;clear hK K)|exact aa|skip)))
    rw [ah]
    refine aw 2 ?_ (by omega) (by decide)
    refine az [(1,some 1),(2,some 2),(3,some 3),(4,some 4)] ?_ ?_
    and_intros
    all_goals first|exact ao|skip
   ·repeat' (first|refine aj htt ?_|refine an ?_|((first|refine ai (fun K hK => ?_)|refine ae (c3) ?_);and_intros;(all_goals first|(refine hK _ ?_;clear hK K)|exact aa|skip)))
    rw [ah]
    refine aw 3 ?_ (by omega) (by decide)
    refine az [(1,some 1),(2,some 2),(3,some 3),(4,some 4)] ?_ ?_
    and_intros
    all_goals first|exact ao|skip
   ·repeat' (first|refine aj htt ?_|refine an ?_|((first|refine ai (fun K hK => ?_)|refine ae (a1) ?_|refine ae (a2) ?_);and_intros;(all_goals first|(refine hK _ ?_;clear hK K)|exact aa|skip))|(refine ak ?_;(try clear hB KB);(try clear hK K)))
    rfl
end Go.Proofs.YtmfblbbemekkoaaGreatDoor
set_option maxHeartbeats 4000000
set_option maxRecDepth 16000
namespace Go.Proofs.YtmfblbbemekkoaaGreatDoor
open Go Go.SL
open Go.RowKit (wrap64)
attribute [local go_sem] qE jt
theorem Qo (x:Ex) (h:ExOk x):aC Sg 246 [ag (jt x),bQ (cg x)] (fun r=>r = .b (B (nD x 2 (2 * cg x+1)))):=by
 obtain ⟨p0,p1,q0,q1,r0,r1,d0,d1,_⟩:=id h
 have hES:ExS x:=⟨p0,p1,q0,by omega,r0,r1,by omega,d1⟩
 have hs:=qF hES
 obtain ⟨_,_,f0,f1⟩:=gB h
 obtain ⟨k,ek⟩:∃ k,(2 * cg x+1) * x.d - 2 * x.p=k:=⟨_,rfl⟩
 have hu:=Ox ek
 generalize nD x 2 (2 * cg x+1)=b at *
 generalize cg x=F at *
 have hm:0≤(2 * F+1) * x.d∧(2 * F+1) * x.d≤9223372036854775807 * 18446744073709551615:=⟨ar (by omega) (by omega),ay (by omega) (by omega) (by omega) (by omega)⟩
 have h1:=pJ x.p 2 p0 ⟨by decide,by decide⟩ (by omega) (by omega)
 rw [Int.mul_comm x.p 2] at h1
 have h2:=jn (2 * F+1) x.d ⟨by omega,by omega⟩ ⟨by omega,d1⟩
 have hq:=pW x hES
 have ht:True:=trivial
 by_cases c:(2 * F+1) * x.d<2 * x.p
 ·have h3:=KM ((2 * F+1) * x.d) (2 * x.p) ⟨hm.1,by omega⟩ ⟨by omega,by omega⟩ c
  have hb:b=true:=hu.2 (.inl (by omega))
  rw [hb]
  generalize (2 * F+1) * x.d=M at *
  refine aA Tryz.func246 [.tmp 4] ?_
  repeat' (first|((with_reducible refine aT (id:=1) (fun K hW => ?_));(try simp (maxSteps:=999999)(disch:=omega) only [go_sem]);and_intros;(all_goals first|(refine hK _ ?_;clear hK K)|exact aa|skip))|((first|refine ai (fun K hK => ?_)|refine ae (h1) ?_);and_intros;(all_goals first|(refine hK _ ?_;clear hK K)|exact aa|skip)))
  refine hW _ (aQ [(1, .b (bQ F)),(2, .b (.c (.ptr 0 0))),(5, .b (.c (.ptr 1 0)))] [(0, .fix ((jt x).map CV.p)),(1, .fix ((qE (2 * x.p)).map CV.p))] 2) ?_ ?_
  ·refine az [(1,some 1)] ?_ ?_
   and_intros
   all_goals first|exact ao|skip
  clear hW
  refine dN (id:=2) (.br 0 (.br 1 (.br 2 (.br 3 (.br 4 (.br 6 (.br 5 (.br 7 (.br 8 (.br 9 (.br 10 (.br 11 (.br 12 (.br 13 .leaf .nil) .nil) .nil) .nil) .nil) .nil) (.br 11 (.br 7 (.br 8 (.br 9 (.br 10 (.br 12 (.br 13 .leaf .nil) .nil) .nil) .nil) .nil) .nil) .nil)) (.br 11 (.br 5 (.br 7 (.br 8 (.br 9 (.br 10 (.br 12 (.br 13 .leaf .nil) .nil) .nil) .nil) .nil) .nil) .nil) .nil)) .nil) .nil) .nil) .nil) .nil) .nil) (by decide +kernel) (by (first|(refine And.intro (fun iw hiw => ?_) ?_;(focus ((try simp (maxSteps:=999999)(disch:=omega) only [go_sem] at hiw ⊢);(repeat (refine Eq.trans (if_neg ?_) ?_;(focus omega)));exact hw iw (by omega)));(focus (first|exact Nat.zero_le _|(simp (maxSteps:=999999)(disch:=omega) only [go_sem];done)|(simp (maxSteps:=999999)(disch:=omega) only [go_sem];omega))))|exact cR)) (fun K0 hW => ?_)
  refine (fun (tl:∀ st,Le st (aQ [(8, .b (B false))] [] 1)→K0 st) => ?_) (fun st hl=>hW st _ hl ?_)
  ·clear hW
   repeat' (first|exact ba|(refine bq (fun K' hK' => ?_) ?_)|(refine aV (tl _ ?_);clear tl)|((first|refine ae (h2) ?_|refine ae (h3) ?_);(try simp (maxSteps:=999999)(disch:=omega) only [go_sem]);and_intros;(all_goals first|(refine hK' _ ?_;clear hK' K')|trivial|omega|exact Nat.le_of_ble_eq_true rfl|exact aa|skip))|(simp (maxSteps:=999999)(disch:=omega) only [go_sem];and_intros;(all_goals first|(refine hK' _ ?_;clear hK' K')|trivial|omega|exact Nat.le_of_ble_eq_true rfl|exact aa|skip)))
   all_goals
    refine az [] ?_ ?_
    and_intros
    all_goals first|exact ao|skip
  clear hW
  repeat' (first|with_reducible exact ca|refine aj ht ?_|refine an ?_|(refine ai (fun K hK => ?_);and_intros;(all_goals first|(refine hK _ ?_;clear hK K)|exact aa|skip))|(refine ak ?_;(try clear hB KB);(try clear hK K)))
 ·have h3:=Io ((2 * F+1) * x.d) (2 * x.p) ⟨hm.1,by omega⟩ ⟨by omega,by omega⟩ (by omega)
  rw [ek] at h3
  generalize (2 * F+1) * x.d=M at *
  have h5:=tK k 2 ⟨by omega,by omega⟩ (by decide) (by decide)
  have hsq:=hs.2.2.2
  have hsq0:=hs.2.2.1
  have hro:=xb (x:=x) (n:=k / 2) hES (by omega)
  have h6:=Fy x (k / 2) hES ⟨by omega,by omega⟩
  have hok:k % 2=0∨k % 2=1:=by omega
  have hk2:k=2 * (k / 2)+k % 2:=by omega
  generalize k / 2=m at *
  generalize k % 2=o at *
  generalize x.q * x.q * x.r=A at *
  refine aA Tryz.func246 [.tmp 4] ?_
  repeat' (first|((with_reducible refine aT (id:=1) (fun K hW => ?_));(try simp (maxSteps:=999999)(disch:=omega) only [go_sem]);and_intros;(all_goals first|(refine hK _ ?_;clear hK K)|exact aa|skip))|((first|refine ai (fun K hK => ?_)|refine ae (h1) ?_);and_intros;(all_goals first|(refine hK _ ?_;clear hK K)|exact aa|skip)))
  refine hW _ (aQ [(1, .b (bQ F)),(2, .b (.c (.ptr 0 0))),(5, .b (.c (.ptr 1 0)))] [(0, .fix ((jt x).map CV.p)),(1, .fix ((qE (2 * x.p)).map CV.p))] 2) ?_ ?_
  ·refine az [(1,some 1)] ?_ ?_
   and_intros
   all_goals first|exact ao|skip
  clear hW
  refine dN (id:=2) (.br 0 (.br 1 (.br 2 (.br 3 (.br 4 (.br 6 (.br 5 (.br 7 (.br 8 (.br 9 (.br 10 (.br 11 (.br 12 (.br 13 .leaf .nil) .nil) .nil) .nil) .nil) .nil) (.br 11 (.br 7 (.br 8 (.br 9 (.br 10 (.br 12 (.br 13 .leaf .nil) .nil) .nil) .nil) .nil) .nil) .nil)) (.br 11 (.br 5 (.br 7 (.br 8 (.br 9 (.br 10 (.br 12 (.br 13 .leaf .nil) .nil) .nil) .nil) .nil) .nil) .nil) .nil)) .nil) .nil) .nil) .nil) .nil) .nil) (by decide +kernel) (by (first|(refine And.intro (fun iw hiw => ?_) ?_;(focus ((try simp (maxSteps:=999999)(disch:=omega) only [go_sem] at hiw ⊢);(repeat (refine Eq.trans (if_neg ?_) ?_;(focus omega)));exact hw iw (by omega)));(focus (first|exact Nat.zero_le _|(simp (maxSteps:=999999)(disch:=omega) only [go_sem];done)|(simp (maxSteps:=999999)(disch:=omega) only [go_sem];omega))))|exact cR)) (fun K0 hW => ?_)
  refine (fun (tl:∀ st,Le st (aQ [(2, .b (.c (.ptr 0 0))),(7, .b (.c (.ptr 1 0))),(8, .b (B true))] [(0, .fix ((jt x).map CV.p)),(1, .fix ((qE k).map CV.p))] 2)→K0 st) => ?_) (fun st hl=>hW st _ hl ?_)
  ·clear hW
   repeat' (first|exact ba|(refine bq (fun K' hK' => ?_) ?_)|(refine aV (tl _ ?_);clear tl)|((first|refine ae (h2) ?_|refine ae (h3) ?_);(try simp (maxSteps:=999999)(disch:=omega) only [go_sem]);and_intros;(all_goals first|(refine hK' _ ?_;clear hK' K')|trivial|omega|exact Nat.le_of_ble_eq_true rfl|exact aa|skip))|(simp (maxSteps:=999999)(disch:=omega) only [go_sem];and_intros;(all_goals first|(refine hK' _ ?_;clear hK' K')|trivial|omega|exact Nat.le_of_ble_eq_true rfl|exact aa|skip)))
   all_goals
    refine az [(1,some 2)] ?_ ?_
    and_intros
    all_goals first|exact ao|skip
  clear hW
  by_cases c1:m / 18446744073709551616>0
  ·have g1:decide (m / 18446744073709551616>0)=true:=decide_eq_true c1
   have hmm:18446744073709551616 * 18446744073709551616≤m * m:=ay (by omega) (by omega) (by decide) (by omega)
   have hb:b=false:=by
    rw [← Bool.not_eq_true,hu]
    rintro (q|⟨_,q⟩)
    ·omega
    ·split at q <;> omega
   rw [hb]
   repeat' (first|with_reducible exact ca|refine aj g1 ?_|refine an ?_|((first|refine ai (fun K hK => ?_)|refine ae (h5) ?_);and_intros;(all_goals first|(refine hK _ ?_;clear hK K)|exact aa|skip))|(refine ak ?_;(try clear hB KB);(try clear hK K)))
  ·have g1:decide (m / 18446744073709551616>0)=false:=decide_eq_false c1
   rcases hok with rfl|rfl
   ·have g2:((0:Int) == 0)=true:=rfl
    rw [if_pos rfl] at hu
    have hb:b=decide (lj x m≥0):=by
     rw [Bool.eq_iff_iff,hu,decide_eq_true_eq,ge_iff_le,hro]
     constructor
     ·rintro (q|q)
      ·have:m=0:=by omega
       rw [this];exact hsq0
      ·exact q.2
     ·intro q
      rcases Decidable.em (k≤0) with w|w
      ·exact .inl w
      ·exact .inr ⟨by omega,q⟩
    rw [hb]
    repeat' (first|with_reducible exact ca|refine aj (And.intro g1 g2) ?_|refine an ?_|((first|refine ai (fun K hK => ?_)|refine ae (h5) ?_|refine ae (h6) ?_);and_intros;(all_goals first|(refine hK _ ?_;clear hK K)|exact aa|skip))|(refine ak ?_;(try clear hB KB);(try clear hK K)))
    all_goals skip
   ·have g2:((1:Int) == 0)=false:=rfl
    rw [if_neg (by decide)] at hu
    have hmm:0≤m * m∧m * m≤18446744073709551615 * 18446744073709551615:=⟨ar (by omega) (by omega),ay (by omega) (by omega) (by omega) (by omega)⟩
    have h7:=jn (m % 18446744073709551616) (m % 18446744073709551616) ⟨by omega,by omega⟩ ⟨by omega,by omega⟩
    rw [show m % 18446744073709551616 * (m % 18446744073709551616)=m * m by rw [show m % 18446744073709551616=m by omega]] at h7
    have h8:=pj (m * m) m hmm.1 (by omega) (by omega)
    have h9:=xN A (m * m+m)
    have hb:b=decide (gY A (m * m+m)>0):=by
     rw [Bool.eq_iff_iff,hu,decide_eq_true_eq]
     unfold gY
     constructor
     ·rintro (q|q)
      ·omega
      ·rw [if_neg (by omega),if_neg (by omega)];decide
     ·intro q
      refine .inr ⟨by omega, ?_⟩
      split at q
      ·omega
      split at q <;> omega
    rw [hb]
    generalize m * m=mm at *
    repeat' (first|refine aj (And.intro g1 g2) ?_|refine an ?_|((first|refine ai (fun K hK => ?_)|refine ae (h5) ?_);and_intros;(all_goals first|(refine hK _ ?_;clear hK K)|exact aa|skip)))
    refine dN (id:=10) (.br 0 (.br 1 (.br 2 (.br 3 (.br 5 (.br 4 (.br 6 (.br 7 (.br 8 (.br 9 (.br 10 (.br 11 (.br 12 .leaf .nil) .nil) .nil) .nil) .nil) .nil) (.br 10 (.br 6 (.br 7 (.br 8 (.br 9 (.br 11 (.br 12 .leaf .nil) .nil) .nil) .nil) .nil) .nil) .nil)) (.br 10 (.br 4 (.br 6 (.br 7 (.br 8 (.br 9 (.br 11 (.br 12 .leaf .nil) .nil) .nil) .nil) .nil) .nil) .nil) .nil)) .nil) .nil) .nil) .nil) .nil) (by decide +kernel) (by (first|(refine And.intro (fun iw hiw => ?_) ?_;(focus ((try simp (maxSteps:=999999)(disch:=omega) only [go_sem] at hiw ⊢);(repeat (refine Eq.trans (if_neg ?_) ?_;(focus omega)));exact hw iw (by omega)));(focus (first|exact Nat.zero_le _|(simp (maxSteps:=999999)(disch:=omega) only [go_sem];done)|(simp (maxSteps:=999999)(disch:=omega) only [go_sem];omega))))|exact cR)) (fun K0 hW => ?_)
    refine (fun (tl:∀ st,Le st (aQ [(2, .b (.c (.ptr 0 0))),(8, .b (B true)),(12, .b (.c (.ptr 1 0)))] [(0, .fix ((jt x).map CV.p)),(1, .fix ((qE (mm+m)).map CV.p))] 2)→K0 st) => ?_) (fun st hl=>hW st _ hl ?_)
    ·clear hW
     repeat' (first|exact ba|(refine bq (fun K' hK' => ?_) ?_)|(refine aV (tl _ ?_);clear tl)|((first|refine ae (h7) ?_|refine ae (h8) ?_);(try simp (maxSteps:=999999)(disch:=omega) only [go_sem]);and_intros;(all_goals first|(refine hK' _ ?_;clear hK' K')|trivial|omega|exact Nat.le_of_ble_eq_true rfl|exact aa|skip))|(simp (maxSteps:=999999)(disch:=omega) only [go_sem];and_intros;(all_goals first|(refine hK' _ ?_;clear hK' K')|trivial|omega|exact Nat.le_of_ble_eq_true rfl|exact aa|skip)))
     all_goals
      refine az [(1,some 3)] ?_ ?_
      and_intros
      all_goals first|exact ao|skip
    clear hW
    repeat' (first|(((with_reducible refine bM (id:=11) [] (by decide +kernel) (by decide +kernel) ?_ (fun K hK => ?_));(first|(refine And.intro (fun iw hiw => ?_) ?_;(focus ((try simp (maxSteps:=999999)(disch:=omega) only [go_sem] at hiw ⊢);(repeat (refine Eq.trans (if_neg ?_) ?_;(focus omega)));exact hw iw (by omega)));(focus (first|exact Nat.zero_le _|(simp (maxSteps:=999999)(disch:=omega) only [go_sem];done)|(simp (maxSteps:=999999)(disch:=omega) only [go_sem];omega))))|exact cR));(try simp (maxSteps:=999999)(disch:=omega) only [go_sem]);and_intros;(all_goals first|(refine hK _ (by simp (maxSteps:=999999)(disch:=omega) only [go_sem]) ?_;clear hK K)|exact aa|skip))|((first|refine aD (fun hg=>hq) ?_|refine aD (fun hg=>h9) ?_);and_intros;(all_goals first|(refine hK _ ?_;clear hK K)|exact aa|skip)))
    refine hK _ (by simp (maxSteps:=999999)(disch:=omega) only [go_sem]) ?_
    clear hK
    repeat' (first|with_reducible exact ca|(refine ak ?_;(try clear hB KB);(try clear hK K)))
    all_goals skip
theorem rf (x:Ex) (h:ExOk x):aC Sg 227 [ag (jt x)] (fun r=>r = .tup [bQ (hx x),B true]):=by
 have hf:=DU x h
 have hu:=Qo x h
 obtain ⟨_,_,f0,f1⟩:=gB h
 unfold hx
 generalize nD x 2 (2 * cg x+1)=b at *
 generalize cg x=F at *
 cases b
 ·have g1:decide (F≥9223372036854775808)=false:=decide_eq_false (by omega)
  have g0:false=false:=rfl
  refine aA Tryz.func227 [.tmp 2, .tmp 3] ?_
  repeat' (first|with_reducible exact ca|refine aj (And.intro g1 g0) ?_|refine an ?_|((first|refine ai (fun K hK => ?_)|refine ae (hf) ?_|refine ae (hu) ?_);and_intros;(all_goals first|(refine hK _ ?_;clear hK K)|exact aa|skip))|(refine ak ?_;(try clear hB KB);(try clear hK K)))
  all_goals skip
 ·have g1:decide (F+1≥9223372036854775808)=false:=decide_eq_false (by omega)
  have g0:true=true:=rfl
  refine aA Tryz.func227 [.tmp 2, .tmp 3] ?_
  repeat' (first|with_reducible exact ca|refine aj (And.intro g1 g0) ?_|refine an ?_|((first|refine ai (fun K hK => ?_)|refine ae (hf) ?_|refine ae (hu) ?_);and_intros;(all_goals first|(refine hK _ ?_;clear hK K)|exact aa|skip))|(refine ak ?_;(try clear hB KB);(try clear hK K)))
  all_goals skip
end Go.Proofs.YtmfblbbemekkoaaGreatDoor
set_option maxHeartbeats 2000000
set_option maxRecDepth 16000
namespace Go.Proofs.YtmfblbbemekkoaaGreatDoor
open Go Go.SL
open Go.RowKit (wrap64)
attribute [local go_sem] qE jt
theorem FM {p q r d:Int} (h:Q64 p):jt ⟨p,q,r,d⟩=[.val (.int .u64 0), .val (.int .u64 p), .val (.int .u64 q), .val (.int .u64 r), .val (.int .u64 d)]:=by
 obtain ⟨h0,h1⟩:=h
 simp only [jt]
 rw [show p / 18446744073709551616=0 by omega,show p % 18446744073709551616=p by omega]
theorem bu (p d:Int) (h:Q64 p):aC Sg 262 [bQ p,bQ d] (fun r=>r = .b (ag (jt ⟨p,0,0,d⟩))):=by
 rw [FM h]
 refine aA Tryz.func262 [.cell 4 262] ?_
 repeat' (first|(refine ai (fun K hK => ?_);and_intros;(all_goals first|(refine hK _ ?_;clear hK K)|exact aa|skip))|(refine ak ?_;(try clear hB KB);(try clear hK K)))
 all_goals rfl
structure Sm4 (s a d b:Int):Prop where
 s0:0≤s
 sa:s≤a
 am:a≤65535
 d0:0≤d
 db:d≤b
 bm:b≤65535
theorem Ae (s a d b:Int) (t:Bool) (h:Sm4 s a d b) (hr:t=false→2 * (b - d) * (a - s)≤a * b):aC Sg 263 [bQ s,bQ a,bQ d,bQ b,B t] (fun r=>r = .b (UQ (if t=true then 2 * s * d else a * b - 2 * (b - d) * (a - s)))):=by
 obtain ⟨s0,sa,am,d0,db,bm⟩:=h
 have h1:0≤2 * s * d∧2 * s * d≤131070 * 65535:=⟨ar (by omega) d0,ay (by omega) (by omega) d0 (by omega)⟩
 have h2:0≤a * b∧a * b≤65535 * 65535:=⟨ar (by omega) (by omega),ay (by omega) (by omega) (by omega) (by omega)⟩
 have h3:0≤2 * (b - d) * (a - s)∧2 * (b - d) * (a - s)≤131070 * 65535:=⟨ar (by omega) (by omega),ay (by omega) (by omega) (by omega) (by omega)⟩
 have ht:True:=trivial
 cases t
 ·have hr:=hr rfl
  refine aA Tryz.func263 [.tmp 10] ?_
  repeat' (first|with_reducible exact ca|refine aj ht ?_|refine an ?_|(refine ai (fun K hK => ?_);and_intros;(all_goals first|(refine hK _ ?_;clear hK K)|exact aa|skip))|(refine ak ?_;(try clear hB KB);(try clear hK K)))
  all_goals rfl
 ·refine aA Tryz.func263 [.tmp 10] ?_
  repeat' (first|with_reducible exact ca|refine aj ht ?_|refine an ?_|(refine ai (fun K hK => ?_);and_intros;(all_goals first|(refine hK _ ?_;clear hK K)|exact aa|skip))|(refine ak ?_;(try clear hB KB);(try clear hK K)))
  all_goals rfl
theorem DW (s a d b:Int) (h:Sm4 s a d b):aC Sg 264 [bQ s,bQ a,bQ d,bQ b] (fun r=>r = .b (ag (jt (lU s a d b)))):=by
 obtain ⟨s0,sa,am,d0,db,bm⟩:=h
 have h1:0≤d * a∧d * a≤65535 * 65535:=⟨ar (by omega) (by omega),ay (by omega) (by omega) (by omega) (by omega)⟩
 have h2:0≤a * b∧a * b≤65535 * 65535:=⟨ar (by omega) (by omega),ay (by omega) (by omega) (by omega) (by omega)⟩
 have h3:0≤b * (a - s)∧b * (a - s)≤65535 * 65535:=⟨ar (by omega) (by omega),ay (by omega) (by omega) (by omega) (by omega)⟩
 have h4:0≤a * a∧a * a≤65535 * 65535:=⟨ar (by omega) (by omega),ay (by omega) (by omega) (by omega) (by omega)⟩
 have h5:0≤a * a * d∧a * a * d≤65535 * 65535 * 65535:=⟨ar h4.1 d0,ay h4.2 (by omega) d0 (by decide)⟩
 unfold lU
 by_cases c1:d=0
 ·have g1:(d == 0)=true:=beq_iff_eq.2 c1
  rw [if_pos c1]
  refine aA Tryz.func264 [.cell 8 262] ?_
  repeat' (first|refine aj g1 ?_|refine an ?_|((first|refine ai (fun K hK => ?_)|refine ae (bu 0 1 ⟨by decide,by decide⟩) ?_);and_intros;(all_goals first|(refine hK _ ?_;clear hK K)|exact aa|skip))|(refine ak ?_;(try clear hB KB);(try clear hK K)))
  all_goals rfl
 have g1:(d == 0)=false:=beq_eq_false_iff_ne.2 c1
 rw [if_neg c1]
 by_cases c2:b * (a - s)≤d * a
 ·have g2:decide (d * a≥b * (a - s))=true:=decide_eq_true c2
  rw [if_pos c2]
  refine aA Tryz.func264 [.cell 8 262] ?_
  repeat' (first|refine aj (And.intro g1 g2) ?_|refine an ?_|((first|refine ai (fun K hK => ?_)|refine ae (bu (a * b) 1 ⟨by omega,by omega⟩) ?_);and_intros;(all_goals first|(refine hK _ ?_;clear hK K)|exact aa|skip))|(refine ak ?_;(try clear hB KB);(try clear hK K)))
  all_goals rfl
 ·have g2:decide (d * a≥b * (a - s))=false:=decide_eq_false c2
  rw [if_neg c2]
  refine aA Tryz.func264 [.cell 8 262] ?_
  repeat' (first|refine aj (And.intro g1 g2) ?_|refine an ?_|((first|refine ai (fun K hK => ?_)|refine ae (bu (a * a * d) (a - s) ⟨by omega,by omega⟩) ?_);and_intros;(all_goals first|(refine hK _ ?_;clear hK K)|exact aa|skip))|(refine ak ?_;(try clear hB KB);(try clear hK K)))
  all_goals rfl
end Go.Proofs.YtmfblbbemekkoaaGreatDoor
set_option maxHeartbeats 2000000
set_option maxRecDepth 16000
namespace Go.Proofs.YtmfblbbemekkoaaGreatDoor
open Go Go.SL
open Go.RowKit (wrap64)
attribute [local go_sem] qE jt
theorem Fz (s a d b:Int) (h:Sm4 s a d b):aC Sg 265 [bQ s,bQ a,bQ d,bQ b] (fun r=>r = .b (ag (jt (oE s a d b)))):=by
 obtain ⟨s0,sa,am,d0,db,bm⟩:=h
 have h2:0≤a * b∧a * b≤65535 * 65535:=⟨ar (by omega) (by omega),ay (by omega) (by omega) (by omega) (by omega)⟩
 have h3:0≤(b - d) * a∧(b - d) * a≤65535 * 65535:=⟨ar (by omega) (by omega),ay (by omega) (by omega) (by omega) (by omega)⟩
 have h4:0≤s * b∧s * b≤65535 * 65535:=⟨ar (by omega) (by omega),ay (by omega) (by omega) (by omega) (by omega)⟩
 have h5:0≤a * b * s∧a * b * s≤65535 * 65535 * 65535:=⟨ar h2.1 s0,ay h2.2 (by omega) s0 (by decide)⟩
 have h6:0≤(b - d) * a * a∧(b - d) * a * a≤65535 * 65535 * 65535:=⟨ar h3.1 (by omega),ay h3.2 (by omega) (by omega) (by decide)⟩
 have ht:=qJ s0 sa am d0 db bm
 unfold oE at *
 by_cases c1:d=b
 ·have g1:(d == b)=true:=beq_iff_eq.2 c1
  rw [if_pos c1]
  refine aA Tryz.func265 [.cell 8 262] ?_
  repeat' (first|refine aj g1 ?_|refine an ?_|((first|refine ai (fun K hK => ?_)|refine ae (bu (a * b) 1 ⟨by omega,by omega⟩) ?_);and_intros;(all_goals first|(refine hK _ ?_;clear hK K)|exact aa|skip))|(refine ak ?_;(try clear hB KB);(try clear hK K)))
  all_goals rfl
 have g1:(d == b)=false:=beq_eq_false_iff_ne.2 c1
 rw [if_neg c1] at ht ⊢
 by_cases c2:s * b≤(b - d) * a
 ·have g2:decide ((b - d) * a≥s * b)=true:=decide_eq_true c2
  rw [if_pos c2]
  refine aA Tryz.func265 [.cell 8 262] ?_
  repeat' (first|refine aj (And.intro g1 g2) ?_|refine an ?_|((first|refine ai (fun K hK => ?_)|refine ae (bu 0 1 ⟨by decide,by decide⟩) ?_);and_intros;(all_goals first|(refine hK _ ?_;clear hK K)|exact aa|skip))|(refine ak ?_;(try clear hB KB);(try clear hK K)))
  all_goals rfl
 ·have g2:decide ((b - d) * a≥s * b)=false:=decide_eq_false c2
  rw [if_neg c2] at ht ⊢
  have hp:=ht.p0
  dsimp only at hp
  refine aA Tryz.func265 [.cell 8 262] ?_
  repeat' (first|refine aj (And.intro g1 g2) ?_|refine an ?_|((first|refine ai (fun K hK => ?_)|refine ae (bu (a * b * s - (b - d) * a * a) s ⟨by omega,by omega⟩) ?_);and_intros;(all_goals first|(refine hK _ ?_;clear hK K)|exact aa|skip))|(refine ak ?_;(try clear hB KB);(try clear hK K)))
  all_goals rfl
theorem Hq (s a d b:Int) (h:Sm4 s a d b):aC Sg 266 [bQ s,bQ a,bQ d,bQ b] (fun r=>r = .b (ag (jt (kS s a d b)))):=by
 obtain ⟨s0,sa,am,d0,db,bm⟩:=h
 have ht:=qB s0 sa am d0 db bm
 have da:0≤d * a∧d * a≤65535 * 65535:=⟨ar (by omega) (by omega),ay (by omega) (by omega) (by omega) (by omega)⟩
 have bb:0≤b * b∧b * b≤65535 * 65535:=⟨ar (by omega) (by omega),ay (by omega) (by omega) (by omega) (by omega)⟩
 have p1:0≤16 * d * d∧16 * d * d≤1048560 * 65535:=⟨ar (by omega) (by omega),ay (by omega) (by omega) (by omega) (by omega)⟩
 have p2:0≤3 * b * b∧3 * b * b≤196605 * 65535:=⟨ar (by omega) (by omega),ay (by omega) (by omega) (by omega) (by omega)⟩
 have p3:0≤12 * d * b∧12 * d * b≤786420 * 65535:=⟨ar (by omega) (by omega),ay (by omega) (by omega) (by omega) (by omega)⟩
 have u1:0≤d * a * b∧d * a * b≤65535 * 65535 * 65535:=⟨ar da.1 (by omega),ay da.2 bm (by omega) (by omega)⟩
 by_cases h0:b=0
 ·rw [kS,if_pos h0]
  have g0:(b == 0)=true:=beq_iff_eq.2 h0
  refine aA Tryz.func266 [.cell 8 262] ?_
  repeat' (first|refine aj g0 ?_|refine an ?_|((first|refine ai (fun K hK => ?_)|refine ae (bu 0 1 ⟨by decide,by decide⟩) ?_);and_intros;(all_goals first|(refine hK _ ?_;clear hK K)|exact aa|skip))|(refine ak ?_;(try clear hB KB);(try clear hK K)))
  all_goals rfl
 have g0:(b == 0)=false:=beq_eq_false_iff_ne.2 h0
 by_cases h1:2 * s≤a
 ·rw [kS,if_neg h0,if_pos h1] at ht ⊢
  have g1:decide (2 * s≤a)=true:=decide_eq_true h1
  have p4:0≤(a - 2 * s) * d∧(a - 2 * s) * d≤65535 * 65535:=⟨ar (by omega) (by omega),ay (by omega) (by omega) (by omega) (by omega)⟩
  have u2:0≤(a - 2 * s) * d * (b - d)∧(a - 2 * s) * d * (b - d)≤65535 * 65535 * 65535:=⟨ar p4.1 (by omega),ay p4.2 (by omega) (by omega) (by decide)⟩
  have u3:=ht.p0
  dsimp only at u3
  refine aA Tryz.func266 [.cell 8 262] ?_
  repeat' (first|refine aj (And.intro g0 g1) ?_|refine an ?_|((first|refine ai (fun K hK => ?_)|refine ae (bu (d * a * b - (a - 2 * s) * d * (b - d)) b ⟨by omega,by omega⟩) ?_);and_intros;(all_goals first|(refine hK _ ?_;clear hK K)|exact aa|skip))|(refine ak ?_;(try clear hB KB);(try clear hK K)))
  all_goals rfl
 have g1:decide (2 * s≤a)=false:=decide_eq_false h1
 by_cases h2:4 * d≤b
 ·rw [kS,if_neg h0,if_neg h1,if_pos h2] at ht ⊢
  have g2:decide (4 * d≤b)=true:=decide_eq_true h2
  have p4:0≤(2 * s - a) * d∧(2 * s - a) * d≤65535 * 65535:=⟨ar (by omega) (by omega),ay (by omega) (by omega) (by omega) (by omega)⟩
  have p5:=ql d0 h2
  have u0:d * a * b * b=d * a * (b * b):=Int.mul_assoc _ _ _
  have u2:0≤d * a * (b * b)∧d * a * (b * b)≤65535 * 65535 * (65535 * 65535):=⟨ar da.1 bb.1,ay da.2 bb.2 bb.1 (by omega)⟩
  have u3:0≤(2 * s - a) * d * (16 * d * d+3 * b * b - 12 * d * b):=ar p4.1 p5.1
  have u4:=ht.le
  dsimp only at u4
  have hab:a * b * (b * b)≤65535 * 65535 * (65535 * 65535):=ay (ay am bm (by omega) (by decide)) bb.2 bb.1 (by decide)
  rw [← u0] at u2 u4 ⊢
  refine aA Tryz.func266 [.cell 8 262] ?_
  repeat' (first|refine aj (And.intro g0 (And.intro g1 g2)) ?_|refine an ?_|((first|refine ai (fun K hK => ?_)|refine ae (bu (d * a * b * b+(2 * s - a) * d * (16 * d * d+3 * b * b - 12 * d * b)) (b * b) ⟨by omega,by omega⟩) ?_);and_intros;(all_goals first|(refine hK _ ?_;clear hK K)|exact aa|skip))|(refine ak ?_;(try clear hB KB);(try clear hK K)))
  all_goals rfl
 have g2:decide (4 * d≤b)=false:=decide_eq_false h2
 rw [kS,if_neg h0,if_neg h1,if_neg h2] at ht ⊢
 have p4:0≤2 * d * (a - s)∧2 * d * (a - s)≤131070 * 65535:=⟨ar (by omega) (by omega),ay (by omega) (by omega) (by omega) (by omega)⟩
 have p5:0≤d * b∧d * b≤65535 * 65535:=⟨ar (by omega) (by omega),ay (by omega) (by omega) (by omega) (by omega)⟩
 rw [FM ⟨p4.1,by omega⟩]
 refine aA Tryz.func266 [.cell 8 262] ?_
 repeat' (first|refine aj (And.intro g0 (And.intro g1 g2)) ?_|refine an ?_|((first|refine ai (fun K hK => ?_)|refine ae (bu (2 * d * (a - s)) 1 ⟨by omega,by omega⟩) ?_);and_intros;(all_goals first|(refine hK _ ?_;clear hK K)|exact aa|skip))|(refine ak ?_;(try clear hB KB);(try clear hK K)))
 rw [show 2 * d * (a - s) / 18446744073709551616=0 by omega,show 2 * d * (a - s) % 18446744073709551616=2 * d * (a - s) by omega]
 rfl
end Go.Proofs.YtmfblbbemekkoaaGreatDoor
set_option maxHeartbeats 4000000
set_option maxRecDepth 16000
namespace Go.Proofs.YtmfblbbemekkoaaGreatDoor
open Go Go.SL
open Go.RowKit (wrap64)
attribute [local go_sem] qE jt
theorem Ef (m:Int):aC Sg 214 [I m] (fun r=>r = .b (B (decide (1≤m∧m≤12)))):=by
 refine aA Tryz.func214 [.tmp 2] ?_
 repeat' (first|(refine ai (fun K hK => ?_);and_intros;(all_goals first|(refine hK _ ?_;clear hK K)|exact aa|skip))|(refine ak ?_;(try clear hB KB);(try clear hK K)))
 refine ej ?_
 (try simp only [Bool.and_eq_true,Bool.or_eq_true,Bool.not_eq_true',Bool.not_eq_false',decide_eq_true_eq,decide_eq_false_iff_not,ge_iff_le,gt_iff_lt,beq_iff_eq,bne_iff_ne,ne_eq,Bool.or_eq_false_iff,Bool.and_eq_false_imp,Bool.not_true,Bool.not_false])
 try omega
theorem JX (mode s a d b:Int) (hm:1≤mode∧mode≤12) (h:Sm4 s a d b):aC Sg 252 [I mode,bQ s,bQ a,bQ d,bQ b] (fun r=>r = .b (ag (jt (aZ mode s a d b)))):=by
 have hso:=Hq s a d b h
 have hdo:=DW s a d b h
 have hbu:=Fz s a d b h
 have hh:=h
 obtain ⟨s0,sa,am,d0,db,bm⟩:=h
 have sb:0≤s * b∧s * b≤65535 * 65535:=⟨ar (by omega) (by omega),ay (by omega) (by omega) (by omega) (by omega)⟩
 have sd:0≤s * d∧s * d≤65535 * 65535:=⟨ar (by omega) (by omega),ay (by omega) (by omega) (by omega) (by omega)⟩
 have da:0≤d * a∧d * a≤65535 * 65535:=⟨ar (by omega) (by omega),ay (by omega) (by omega) (by omega) (by omega)⟩
 have ab:0≤a * b∧a * b≤65535 * 65535:=⟨ar (by omega) (by omega),ay (by omega) (by omega) (by omega) (by omega)⟩
 have hmin:(if d * a<s * b then d * a else s * b)=min (s * b) (d * a):=by split <;> omega
 have hmax:(if d * a>s * b then d * a else s * b)=max (s * b) (d * a):=by split <;> omega
 have qmin:Q64 (if d * a<s * b then d * a else s * b):=⟨by split <;> omega,by split <;> omega⟩
 have qmax:Q64 (if d * a>s * b then d * a else s * b):=⟨by split <;> omega,by split <;> omega⟩
 have hv:mode=1∨mode=2∨mode=3∨mode=4∨mode=5∨mode=6∨mode=7∨mode=8∨mode=9∨mode=10∨mode=11∨mode=12:=by omega
 have ht:True:=trivial
 refine aA Tryz.func252 [.cell 10 262] ?_
 rcases hv with rfl|rfl|rfl|rfl|rfl|rfl|rfl|rfl|rfl|rfl|rfl|rfl
 ·repeat' (first|refine aj ht ?_|refine an ?_|((first|refine ai (fun K hK => ?_)|refine ae (bu (s * b) 1 ⟨by omega,by omega⟩) ?_);and_intros;(all_goals first|(refine hK _ ?_;clear hK K)|exact aa|skip))|(refine ak ?_;(try clear hB KB);(try clear hK K)))
  rfl
 ·repeat' (first|refine aj ht ?_|refine an ?_|((first|refine ai (fun K hK => ?_)|refine ae (bu (s * d) 1 ⟨by omega,by omega⟩) ?_);and_intros;(all_goals first|(refine hK _ ?_;clear hK K)|exact aa|skip))|(refine ak ?_;(try clear hB KB);(try clear hK K)))
  rfl
 ·have hn:0≤s * b+d * a - s * d:=by have:=ay (Int.le_refl s) db d0 s0;omega
  repeat' (first|refine aj ht ?_|refine an ?_|((first|refine ai (fun K hK => ?_)|refine ae (bu (s * b+d * a - s * d) 1 ⟨by omega,by omega⟩) ?_);and_intros;(all_goals first|(refine hK _ ?_;clear hK K)|exact aa|skip))|(refine ak ?_;(try clear hB KB);(try clear hK K)))
  rfl
 ·have hb:=lB d0 db s0 sa
  have hb2:b * a≤65535 * 65535:=by rw [Int.mul_comm];omega
  have h1:=Ae s a d b (decide (2 * d≤b)) hh (fun q=>by
   rw [decide_eq_false_iff_not] at q
   have:=ay (show 2 * (b - d)≤b by omega) (show a - s≤a by omega) (by omega) (by omega)
   rw [Int.mul_comm a b];omega)
  rw [show (if decide (2 * d≤b)=true then 2 * s * d else a * b - 2 * (b - d) * (a - s))=jL d b s a by
   unfold jL
   simp only [decide_eq_true_eq]
   split
   ·rw [Int.mul_right_comm]
   ·rw [Int.mul_comm a b,Int.mul_right_comm 2 (b - d)]] at h1
  repeat' (first|refine aj ht ?_|refine an ?_|((first|refine ai (fun K hK => ?_)|refine ae (h1) ?_|refine ae (bu (jL d b s a) 1 ⟨by omega,by omega⟩) ?_);and_intros;(all_goals first|(refine hK _ ?_;clear hK K)|exact aa|skip))|(refine ak ?_;(try clear hB KB);(try clear hK K)))
  rfl
 ·repeat' (first|refine aj ht ?_|refine an ?_|((first|refine ai (fun K hK => ?_)|refine ae (bu (if d * a<s * b then d * a else s * b) 1 qmin) ?_);and_intros;(all_goals first|(refine hK _ ?_;clear hK K)|exact aa|skip))|(refine ak ?_;(try clear hB KB);(try clear hK K)))
  rw [hmin];rfl
 ·repeat' (first|refine aj ht ?_|refine an ?_|((first|refine ai (fun K hK => ?_)|refine ae (bu (if d * a>s * b then d * a else s * b) 1 qmax) ?_);and_intros;(all_goals first|(refine hK _ ?_;clear hK K)|exact aa|skip))|(refine ak ?_;(try clear hB KB);(try clear hK K)))
  rw [hmax];rfl
 ·repeat' (first|refine aj ht ?_|refine an ?_|((first|refine ai (fun K hK => ?_)|refine ae (hdo) ?_);and_intros;(all_goals first|(refine hK _ ?_;clear hK K)|exact aa|skip))|(refine ak ?_;(try clear hB KB);(try clear hK K)))
  rfl
 ·repeat' (first|refine aj ht ?_|refine an ?_|((first|refine ai (fun K hK => ?_)|refine ae (hbu) ?_);and_intros;(all_goals first|(refine hK _ ?_;clear hK K)|exact aa|skip))|(refine ak ?_;(try clear hB KB);(try clear hK K)))
  rfl
 ·have hb:=lB s0 sa d0 db
  have h1:=Ae s a d b (decide (2 * s≤a)) hh (fun q=>by
   rw [decide_eq_false_iff_not] at q
   have:=ay (show b - d≤b by omega) (show 2 * (a - s)≤a by omega) (by omega) (by omega)
   rw [Int.mul_comm b a] at this
   rw [Int.mul_right_comm,Int.mul_comm];omega)
  rw [show (if decide (2 * s≤a)=true then 2 * s * d else a * b - 2 * (b - d) * (a - s))=jL s a d b by
   unfold jL
   simp only [decide_eq_true_eq]] at h1
  repeat' (first|refine aj ht ?_|refine an ?_|((first|refine ai (fun K hK => ?_)|refine ae (h1) ?_|refine ae (bu (jL s a d b) 1 ⟨by omega,by omega⟩) ?_);and_intros;(all_goals first|(refine hK _ ?_;clear hK K)|exact aa|skip))|(refine ak ?_;(try clear hB KB);(try clear hK K)))
  rfl
 ·repeat' (first|refine aj ht ?_|refine an ?_|((first|refine ai (fun K hK => ?_)|refine ae (hso) ?_);and_intros;(all_goals first|(refine hK _ ?_;clear hK K)|exact aa|skip))|(refine ak ?_;(try clear hB KB);(try clear hK K)))
  rfl
 ·have hmm:(if d * a>s * b then d * a else s * b) - (if d * a<s * b then d * a else s * b)=max (s * b) (d * a) - min (s * b) (d * a):=by rw [hmin,hmax]
  have qd:Q64 ((if d * a>s * b then d * a else s * b) - (if d * a<s * b then d * a else s * b)):=⟨by split <;> split <;> omega,by split <;> split <;> omega⟩
  repeat' (first|refine aj ht ?_|refine an ?_|((first|refine ai (fun K hK => ?_)|refine ae (bu ((if d * a>s * b then d * a else s * b) - (if d * a<s * b then d * a else s * b)) 1 qd) ?_);and_intros;(all_goals first|(refine hK _ ?_;clear hK K)|exact aa|skip))|(refine ak ?_;(try clear hB KB);(try clear hK K)))
  rw [hmm];rfl
 ·have hn:0≤s * b+d * a - 2 * s * d:=by
   have h1:=ay (Int.le_refl s) db d0 s0
   have h2:=ay sa (Int.le_refl d) d0 (by omega)
   rw [Int.mul_comm a d] at h2
   rw [Int.mul_assoc];omega
  have h4:0≤2 * s * d∧2 * s * d≤131070 * 65535:=⟨ar (by omega) d0,ay (by omega) (by omega) d0 (by omega)⟩
  repeat' (first|refine aj ht ?_|refine an ?_|((first|refine ai (fun K hK => ?_)|refine ae (bu (s * b+d * a - 2 * s * d) 1 ⟨by omega,by omega⟩) ?_);and_intros;(all_goals first|(refine hK _ ?_;clear hK K)|exact aa|skip))|(refine ak ?_;(try clear hB KB);(try clear hK K)))
  rfl
theorem vR (mode s a d b:Int) (hm:1≤mode∧mode≤12) (h:Sm4 s a d b):aC Sg 240 [I mode,U s,U a,U d,U b] (fun r=>r = .tup [ag (jt (aZ mode s a d b)),B true]):=by
 have h1:=Ef mode
 rw [decide_eq_true hm] at h1
 have h2:=JX mode s a d b hm h
 obtain ⟨s0,sa,am,d0,db,bm⟩:=h
 have d1:decide (s>a)=false:=decide_eq_false (by omega)
 have d2:decide (d>b)=false:=decide_eq_false (by omega)
 generalize aZ mode s a d b=X at *
 refine aA Tryz.func240 [.cell 10 262, .tmp 11] ?_
 repeat' (first|refine aj (And.intro d1 d2) ?_|refine an ?_|((first|refine ai (fun K hK => ?_)|refine ae (h1) ?_|refine ae (h2) ?_);and_intros;(all_goals first|(refine hK _ ?_;clear hK K)|exact aa|skip))|(refine ak ?_;(try clear hB KB);(try clear hK K)))
 rfl
end Go.Proofs.YtmfblbbemekkoaaGreatDoor
set_option maxHeartbeats 4000000
set_option maxRecDepth 16000
namespace Go.Proofs.YtmfblbbemekkoaaGreatDoor
open Go Go.SL
open Go.RowKit (wrap64)
attribute [local go_sem] qE jt
theorem DY (op mode m cs sl cb ab : Int) (hm : Full m) (ho : 1 ≤ op ∧ op ≤ 12) (hmo : 1 ≤ mode ∧ mode ≤ 12) (hs : Pre cs sl m) (hd : Pre cb ab m) :
  aC Sg 226 [I op,I mode,U m,U cs,U sl,U cb,U ab] (fun r=>r = .tup [ag (jt (dB op mode m cs sl cb ab)),B true]):=by
 have hok:=kP (op:=op) (mode:=mode) hm hs hd
 have ht:=kt (mode:=mode) hm hs hd
 obtain ⟨s0,sa,am⟩:=hs
 obtain ⟨d0,db,bm⟩:=hd
 have hle:=hm.le
 have hp:=hm.pos
 have hb:=vR mode cs sl cb ab hmo ⟨s0,sa,by omega,d0,db,by omega⟩
 have hf:=rn op sl ab m hm ho (by omega) am (by omega) bm
 have ⟨a1,a2⟩:=jq (op:=op) (a:=sl) (b:=ab) (m:=m) (by omega) am (by omega) bm
 have ⟨b1,b2⟩:=kv (op:=op) (a:=sl) (b:=ab) (m:=m) (by omega) am (by omega) bm
 obtain ⟨k1,k2,k3,k4,k5,k6,k7,k8,_⟩:=hok
 obtain ⟨t0,t1,t2,t3,t4,t5,t6,t7,_⟩:=ht
 unfold dB at *
 dsimp only at k1 k2 k3 k4 k5 k6 k7 k8
 generalize aZ mode cs sl cb ab=T at *
 generalize iT op sl ab m=fa at *
 generalize kE op sl ab m=fb at *
 have e1:0≤(m - ab) * cs∧(m - ab) * cs≤65535 * 65535:=⟨ar (by omega) (by omega),ay (by omega) (by omega) (by omega) (by omega)⟩
 have hsum:(m - ab) * cs+sl * ab≤65535 * 65535:=by
  have h1:=ay (show m - ab≤m - ab by omega) sa s0 (by omega)
  have h2:(m - ab) * sl+sl * ab=m * sl:=by rw [Int.sub_mul,Int.mul_comm sl ab];omega
  have h3:m * sl≤65535 * 65535:=ay hle (by omega) (by omega) (by decide)
  omega
 have e2:0≤(m - ab) * cs * T.d:=ar e1.1 (by omega)
 have e3:(m - ab) * cs * T.d+T.p≤65535 * 65535 * 4294836225:=by
  have h1:=ay hsum t6 (by omega) (by decide)
  rw [Int.add_mul] at h1
  omega
 have e4:0≤cb * m∧cb * m≤65535 * 65535:=⟨ar (by omega) (by omega),ay (by omega) (by omega) (by omega) (by omega)⟩
 have e5:0≤cb * m * T.d∧cb * m * T.d≤65535 * 65535 * 4294836225:=⟨ar e4.1 (by omega),ay e4.2 (by omega) (by omega) (by omega)⟩
 have e6:0≤m * m∧m * m≤65535 * 65535:=⟨ar (by omega) (by omega),ay (by omega) (by omega) (by omega) (by omega)⟩
 have e9:0≤fa * T.q∧fa * T.q≤65535 * 65535:=⟨ar (by omega) (by omega),ay (by omega) (by omega) (by omega) (by omega)⟩
 have e10:T.p / 18446744073709551616=0∧T.p % 18446744073709551616=T.p:=by omega
 have w1:aC Sg 243 [bQ ((m - ab) * cs * T.d+T.p % 18446744073709551616),bQ fa] (fun r=>r = .b (ag (qE (((m - ab) * cs * T.d+T.p) * fa)))):=by
  rw [e10.2];exact jn ((m - ab) * cs * T.d+T.p) fa ⟨by omega,by omega⟩ ⟨by omega,by omega⟩
 have w2:=jn (cb * m * T.d) fb ⟨by omega,by omega⟩ ⟨by omega,by omega⟩
 have eq:((m - ab) * cs * T.d+T.p) * fa+cb * m * T.d * fb=T.p * fa+(m - ab) * cs * fa * T.d+fb * cb * m * T.d:=by grind
 have w3:=pj (((m - ab) * cs * T.d+T.p) * fa) (cb * m * T.d * fb) (ar (by omega) a1) (ar e5.1 b1) (by rw [eq];omega)
 rw [eq] at w3
 have g1:(m != 255 && m != 65535)=false:=by rcases hm.h with q|q <;> rw [q] <;> rfl
 have htt:True:=trivial
 refine aA Tryz.func226 [.cell 14 262, .tmp 15] ?_
 repeat' (first|refine aj g1 ?_|refine an ?_|((first|refine ai (fun K hK => ?_)|refine ae (hf) ?_|refine ae (hb) ?_|refine ae (w1) ?_|refine ae (w2) ?_|refine ae (w3) ?_);and_intros;(all_goals first|(refine hK _ ?_;clear hK K)|exact aa|skip))|(refine ak ?_;(try clear hB KB);(try clear hK K)))
 rfl
theorem qI (op mode m cs sl cb ab : Int) (hm : Full m) (ho : 1 ≤ op ∧ op ≤ 12) (hmo : 1 ≤ mode ∧ mode ≤ 12) (hs : Pre cs sl m) (hd : Pre cb ab m) :
  aC Sg 208 [I op,I mode,U m,U cs,U sl,U cb,U ab] (fun r=>r = .tup [U (dL op mode m cs sl cb ab),B true]):=by
 have hok:=kP (op:=op) (mode:=mode) hm hs hd
 have hv:=DY op mode m cs sl cb ab hm ho hmo hs hd
 have hh:=rf _ hok
 have hl:=mE (op:=op) (mode:=mode) hm hs hd
 have hl2:=mv (op:=op) (a:=sl) (b:=ab) hm (by have:=hs.s0;have:=hs.sa;omega) hs.am (by have:=hd.s0;have:=hd.sa;omega) hd.am
 have hn:=(lz hok).2.2
 have hle:=hm.le
 have htt:True:=trivial
 have hw:IntKind.u16.wrap (hx (dB op mode m cs sl cb ab))=dL op mode m cs sl cb ab:=fz hn (by unfold dL at hl;omega)
 refine aA Tryz.func208 [.tmp 14, .tmp 15] ?_
 repeat' (first|refine aj htt ?_|refine an ?_|((first|refine ai (fun K hK => ?_)|refine ae (hv) ?_|refine ae (hh) ?_);and_intros;(all_goals first|(refine hK _ ?_;clear hK K)|exact aa|skip))|(refine ak ?_;(try clear hB KB);(try clear hK K)))
 rw [hw]
end Go.Proofs.YtmfblbbemekkoaaGreatDoor
set_option maxHeartbeats 4000000
set_option maxRecDepth 16000
namespace Go.Proofs.YtmfblbbemekkoaaGreatDoor
open Go Go.SL
open Go.RowKit (wrap64)
attribute [local go_sem] qE jt
theorem wJ (m:Int):aC Sg 241 [U m] (fun r=>r = .b (B (decide (m=255∨m=65535)))):=by
 refine aA Tryz.func241 [.tmp 2] ?_
 repeat' (first|(refine ai (fun K hK => ?_);and_intros;(all_goals first|(refine hK _ ?_;clear hK K)|exact aa|skip))|(refine ak ?_;(try clear hB KB);(try clear hK K)))
 refine ej ?_
 (try simp only [Bool.and_eq_true,Bool.or_eq_true,Bool.not_eq_true',Bool.not_eq_false',decide_eq_true_eq,decide_eq_false_iff_not,ge_iff_le,gt_iff_lt,beq_iff_eq,bne_iff_ne,ne_eq,Bool.or_eq_false_iff,Bool.and_eq_false_imp,Bool.not_true,Bool.not_false])
 try omega
theorem CM (a b c d e f : Int) (ha : 0 ≤ a ∧ a ≤ 65535) (hb : 0 ≤ b ∧ b ≤ 65535) (hc : 0 ≤ c ∧ c ≤ 65535) (hd : 0 ≤ d ∧ d ≤ 65535) (he : 0 ≤ e ∧ e ≤ 65535) (hf : 0 ≤ f ∧ f ≤ 65535) :
  aC Sg 244 [U a,U b,U c,U d,U e,U f] (fun r=>r = .b (UQ (a * b+c * d+e * f))):=by
 have e1:0≤a * b∧a * b≤65535 * 65535:=⟨ar ha.1 hb.1,ay ha.2 hb.2 hb.1 (by decide)⟩
 have e2:0≤c * d∧c * d≤65535 * 65535:=⟨ar hc.1 hd.1,ay hc.2 hd.2 hd.1 (by decide)⟩
 have e3:0≤e * f∧e * f≤65535 * 65535:=⟨ar he.1 hf.1,ay he.2 hf.2 hf.1 (by decide)⟩
 refine aA Tryz.func244 [.tmp 12] ?_
 repeat' (first|with_reducible exact ca|(refine ai (fun K hK => ?_);and_intros;(all_goals first|(refine hK _ ?_;clear hK K)|exact aa|skip))|(refine ak ?_;(try clear hB KB);(try clear hK K)))
theorem tu (m a f acc b : Int) (hm : Full m) (ha : 0 ≤ a) (haf : a ≤ f) (hfm : f ≤ m) (h1 : 0 ≤ acc) (h2 : acc ≤ m) (h3 : 0 ≤ b) (h4 : b ≤ m) :
  aC Sg 224 [U m,U a,U f,U acc,U b] (fun r=>r = .tup [U (dc m a f acc b),B true]):=by
 have hle:=hm.le
 have hp:=hm.pos
 have hbd:=jv hm ha haf hfm h1 h2 h3 h4
 have hu:=wJ m
 rw [show decide (m=255∨m=65535)=true from decide_eq_true hm.h] at hu
 have g1:decide (a>f)=false:=decide_eq_false (by omega)
 have g2:decide (f>m)=false:=decide_eq_false (by omega)
 have g3:decide (acc>m)=false:=decide_eq_false (by omega)
 have g4:decide (b>m)=false:=decide_eq_false (by omega)
 have hs:=CM (m - f) acc (f - a) b m a ⟨by omega,by omega⟩ ⟨h1,by omega⟩ ⟨by omega,by omega⟩ ⟨h3,by omega⟩ ⟨by omega,hle⟩ ⟨ha,by omega⟩
 have e1:0≤(m - f) * acc∧(m - f) * acc≤65535 * 65535:=⟨ar (by omega) (by omega),ay (by omega) (by omega) (by omega) (by omega)⟩
 have e2:0≤(f - a) * b∧(f - a) * b≤65535 * 65535:=⟨ar (by omega) (by omega),ay (by omega) (by omega) (by omega) (by omega)⟩
 have e3:0≤m * a∧m * a≤65535 * 65535:=⟨ar (by omega) (by omega),ay (by omega) (by omega) (by omega) (by omega)⟩
 have hh:=tP ((m - f) * acc+(f - a) * b+m * a) m ⟨by omega,by omega⟩ ⟨by omega,by omega⟩
 have hw:IntKind.u16.wrap (bL ((m - f) * acc+(f - a) * b+m * a) m)=dc m a f acc b:=fz hbd.1 (Int.le_trans hbd.2 hle)
 refine aA Tryz.func224 [.tmp 10, .tmp 11] ?_
 repeat' (first|refine aj (And.intro g1 (And.intro g2 (And.intro g3 g4))) ?_|refine an ?_|((first|refine ai (fun K hK => ?_)|refine ae (hu) ?_|refine ae (hs) ?_|refine ae (hh) ?_);and_intros;(all_goals first|(refine hK _ ?_;clear hK K)|exact aa|skip))|(refine ak ?_;(try clear hB KB);(try clear hK K)))
 rw [hw]
theorem AU (m a f acc : Int) (hm : Full m) (ha : 0 ≤ a) (haf : a ≤ f) (hfm : f ≤ m) (h1 : 0 ≤ acc) (h2 : acc ≤ m) :
  aC Sg 225 [U m,U a,U f,U acc] (fun r=>r = .tup [U (dc m a f acc 0),B true]):=by
 have h:=tu m a f acc 0 hm ha haf hfm h1 h2 (Int.le_refl _) (Int.le_of_lt hm.pos)
 refine aA Tryz.func225 [.tmp 8, .tmp 9] ?_
 repeat' (first|with_reducible exact ca|((first|refine ai (fun K hK => ?_)|refine ae (h) ?_);and_intros;(all_goals first|(refine hK _ ?_;clear hK K)|exact aa|skip))|(refine ak ?_;(try clear hB KB);(try clear hK K)))
end Go.Proofs.YtmfblbbemekkoaaGreatDoor
set_option maxHeartbeats 1000000
namespace Go.Proofs.YtmfblbbemekkoaaGreatDoor
structure Pt (s:Script) (m x y:Int):Prop where
 V:VOps s
 hm:Full m
 mx:bo s.bits=m
 im:sU s
 op:∀ o ∈ s.ops,0≤o.opacity
 c:bZ s.canvas=false
 xy:OF s.canvas x y
def cK (s:Script) (x y:Int):Pixel:=Nc (bo s.bits) (jR (bo s.bits) (bd s x y) s.ops [cz])
section
variable {s:Script} {m x y:Int}
theorem Pt.z (C:Pt s m x y):SmpV m (bd s x y):=QG C.hm C.mx C.im
structure At (s:Script) (m:Int) (i:Nat) (st:List Lv):Prop where
 v:Fb m st
 o:st.map Lv.op=(bD s.ops i).map (aR s.ops) ++ [mL]
theorem BW (C:Pt s m x y) (i:Nat) (hi:i≤s.ops.length):At s m i (fI m (bd s x y) s.ops i):=by
 obtain ⟨h1,h2⟩:=MB C.hm C.z C.V C.mx C.op i hi
 exact ⟨h1,h2⟩
theorem At.ne {i:Nat} {st:List Lv} (h:At s m i st):∃ t r,st=t :: r:=by
 cases st with
 | nil=>exact h.v.elim
 | cons t r=>exact ⟨t,r,rfl⟩
theorem At.fit (C:Pt s m x y) {i:Nat} {t:Lv} {r:List Lv} (h:At s m i (t :: r)) (hi:i<s.ops.length) (hk:(aR s.ops i).kind≠3):OpFit m t.op (aR s.ops i):=by
 have hn:=Da C.V C.mx C.op hi h.o
 refine hn.1 ?_
 rcases C.V.wf.kinds i hi with q|q|q
 ·exact .inl q
 ·exact .inr q
 ·exact absurd q hk
theorem At.frame {i:Nat} {t:Lv} {r:List Lv} (h:At s m i (t :: r)) (hk:(aR s.ops i).kind≠3):t.op.isolated=Pu s i∧t.op.knockout=TB s i:=by
 have ho:=h.o
 unfold Pu TB
 rw [FP,if_neg hk]
 cases hs:bD s.ops i with
 | nil =>
  rw [hs] at ho
  rw [DV hs,(List.cons.inj ho).1]
  exact ⟨rfl,rfl⟩
 | cons p q =>
  rw [hs] at ho
  rw [Bb hs,(List.cons.inj ho).1,decide_eq_false (show ¬ ((p:Int)<0) by omega),Int.toNat_natCast]
  exact ⟨rfl,rfl⟩
theorem At.repl {i:Nat} {t t':Lv} {r:List Lv} (h:At s m i (t :: r)) (h1:LvV m t') (h2:t'.op=t.op):At s m i (t' :: r) :=
 ⟨h.v.repl h1 h2,by rw [← h.o,List.map_cons,List.map_cons,h2]⟩
theorem At.same {i j:Nat} {st:List Lv} (h:At s m i st) (hs:bD s.ops j=bD s.ops i):At s m j st:=⟨h.v,by rw [hs];exact h.o⟩
end
end Go.Proofs.YtmfblbbemekkoaaGreatDoor
set_option maxHeartbeats 1000000
namespace Go.Proofs.YtmfblbbemekkoaaGreatDoor
section
variable {s:Script} {m x y:Int}
theorem kC (C : Pt s m x y) {i : Nat} (hi : i < s.ops.length) (hk : (aR s.ops i).kind ≠ 3) :
  ((aR s.ops i).kind=1→0≤(aR s.ops i).image∧(aR s.ops i).image<s.images.length)∧0≤(aR s.ops i).mask∧(aR s.ops i).mask≤s.images.length ∧
   (-1048576≤(aR s.ops i).x∧(aR s.ops i).x≤1048576)∧(-1048576≤(aR s.ops i).y∧(aR s.ops i).y≤1048576)∧(-1048576≤(aR s.ops i).maskX∧(aR s.ops i).maskX≤1048576)∧(-1048576≤(aR s.ops i).maskY∧(aR s.ops i).maskY≤1048576):=by
 obtain ⟨_,_,_,g⟩:=bP.1 (C.V.ok i hi)
 obtain ⟨g1,g2,_⟩:=g hk
 simp only [bt,List.all_cons,List.all_nil,Bool.and_true,Bool.and_eq_true,decide_eq_true_eq] at g2
 omega
end
end Go.Proofs.YtmfblbbemekkoaaGreatDoor
