/- Part of the proof: WN, WQ, WO, WP, DB. -/
import Derived.Test.YtmfblbbemekkoaaGreatDoorM23
import Derived.Test.YtmfblbbemekkoaaGreatDoorM24
set_option linter.unusedSimpArgs false
set_option linter.unusedVariables false
set_option maxHeartbeats 4000000
set_option maxRecDepth 16000
namespace Go.Proofs.YtmfblbbemekkoaaGreatDoor
open Go Go.SL
open Go.RowKit (wrap64)
attribute [local go_sem] cN
theorem vX (x:Acc) (b:Pixel) (m:Int) (hm:Full m) (h:AccV x b m):aC Sg 149 [ag (cN x),ag (aF b),U m] (fun r=>r = .b (B true)):=by
 have hvs:=jC b m
 rw [gi h.bk] at hvs
 have d0:decide (x.c0>x.a)=false:=decide_eq_false (by have:=h.l0;omega)
 have d1:decide (x.c1>x.a)=false:=decide_eq_false (by have:=h.l1;omega)
 have d2:decide (x.c2>x.a)=false:=decide_eq_false (by have:=h.l2;omega)
 have e0:(m == 255 || m == 65535)=true:=by rcases hm.h with q|q <;> rw [q] <;> rfl
 have e1:decide (x.own≤x.a)=true:=decide_eq_true h.oa
 have e2:decide (x.own≤x.f)=true:=decide_eq_true h.of
 have e3:decide (x.a≤m)=true:=decide_eq_true h.am
 have e4:decide (x.f≤m)=true:=decide_eq_true h.fm
 have e5:(b.f == b.a)=true:=beq_iff_eq.2 h.bf
 have ht:True:=trivial
 refine aA Tryz.func149 [.tmp 6] ?_
 repeat' (first|refine an ?_|(refine ai (fun K hK => ?_);and_intros;(all_goals first|(refine hK _ ?_;clear hK K)|exact aa|skip)))
 refine aO (X:=Int) (fun i=>aQ [(2, .b (U m)),(3, .b (.c (.ptr 0 0))),(4, .b (.c (.ptr 1 0))),(10, .b (ag [PU x.c0,PU x.c1,PU x.c2])),(11, .b (I i))] [(0, .fix ((cN x).map CV.p)),(1, .fix ((aF b).map CV.p))] 2) (fun i=>0≤i∧i≤3) (fun i=>(3 - i).toNat) 0 ?_ ?_ ?_
 ·omega
 ·refine az [(1,some 1)] ?_ ?_
  and_intros
  all_goals first|exact ao|skip
 ·intro i hi
  rcases oT hi with rfl|rfl|rfl|rfl
  ·repeat' (first|refine aj d0 ?_|refine an ?_|(refine ai (fun K hK => ?_);and_intros;(all_goals first|(refine hK _ ?_;clear hK K)|exact aa|skip)))
   rw [ah]
   refine aw 1 ?_ (by omega) (by decide)
   refine az [(1,some 1)] ?_ ?_
   and_intros
   all_goals first|exact ao|skip
  ·repeat' (first|refine aj d1 ?_|refine an ?_|(refine ai (fun K hK => ?_);and_intros;(all_goals first|(refine hK _ ?_;clear hK K)|exact aa|skip)))
   rw [ah]
   refine aw 2 ?_ (by omega) (by decide)
   refine az [(1,some 1)] ?_ ?_
   and_intros
   all_goals first|exact ao|skip
  ·repeat' (first|refine aj d2 ?_|refine an ?_|(refine ai (fun K hK => ?_);and_intros;(all_goals first|(refine hK _ ?_;clear hK K)|exact aa|skip)))
   rw [ah]
   refine aw 3 ?_ (by omega) (by decide)
   refine az [(1,some 1)] ?_ ?_
   and_intros
   all_goals first|exact ao|skip
  ·repeat' (first|refine aj ht ?_|refine an ?_|((first|refine ai (fun K hK => ?_)|refine aD (fun hg=>hvs) ?_);and_intros;(all_goals first|(refine hK _ ?_;clear hK K)|exact aa|skip))|(refine ak ?_;(try clear hB KB);(try clear hK K)))
   simp only [e0,e1,e2,e3,e4,e5]
   first|rfl|trivial
theorem lJ (x:Acc) (b:Pixel) (m:Int) (hm:Full m) (h:AccV x b m):aC Sg 107 [ag (cN x),ag (aF b),U m] (fun r=>r = .tup [ag (aF (aU x b m)),B true]):=by
 have hva:=vX x b m hm h
 have c0:=nM x.c0 b.c0 x.own m hm h.n0 (Int.le_trans h.l0 h.am) h.bk.n0 (Int.le_trans h.bk.l0 h.bk.am) h.o0 h.om
 have c1:=nM x.c1 b.c1 x.own m hm h.n1 (Int.le_trans h.l1 h.am) h.bk.n1 (Int.le_trans h.bk.l1 h.bk.am) h.o0 h.om
 have c2:=nM x.c2 b.c2 x.own m hm h.n2 (Int.le_trans h.l2 h.am) h.bk.n2 (Int.le_trans h.bk.l2 h.bk.am) h.o0 h.om
 have ht:True:=trivial
 unfold aU
 generalize iK x.c0 b.c0 x.own m=y0 at *
 generalize iK x.c1 b.c1 x.own m=y1 at *
 generalize iK x.c2 b.c2 x.own m=y2 at *
 refine aA Tryz.func107 [.cell 6 41, .tmp 7] ?_
 repeat' (first|refine aj ht ?_|refine an ?_|((first|refine ai (fun K hK => ?_)|refine ae (hva) ?_);and_intros;(all_goals first|(refine hK _ ?_;clear hK K)|exact aa|skip)))
 refine aO (X:=Int) (fun i=>aQ [(2, .b (U m)),(3, .b (.c (.ptr 0 0))),(4, .b (.c (.ptr 1 0))),(6, .b (.c (.ptr 2 0))),(8, .b (.c (.ptr 3 0))),(23, .b (ag [PU x.c0,PU x.c1,PU x.c2])),(24, .b (I i))]
  [(0, .fix ((cN x).map CV.p)),(1, .fix ((aF b).map CV.p)),(2, .fix ((aF aI).map CV.p)),(3, .fix [.p (PU (if 0<i then y0 else 0)), .p (PU (if 1<i then y1 else 0)), .p (PU (if 2<i then y2 else 0)), .p (PU x.own), .p (PU x.f)])] 4)
  (fun i=>0≤i∧i≤3) (fun i=>(3 - i).toNat) 0 ?_ ?_ ?_
 ·omega
 ·refine az [(1,some 1),(2,some 2),(3,some 3)] ?_ ?_
  and_intros
  all_goals first|exact ao|skip
 ·intro i hi
  rcases oT hi with rfl|rfl|rfl|rfl
  ·repeat' (first|refine aj ht ?_|(((with_reducible refine gz (id:=7) [] (by decide +kernel) (by decide +kernel) ?_ (fun K hK => ?_));(first|(refine And.intro (fun iw hiw => ?_) ?_;(focus ((try simp (maxSteps:=999999)(disch:=omega) only [go_sem] at hiw ⊢);(repeat (refine Eq.trans (if_neg ?_) ?_;(focus omega)));exact hw iw (by omega)));(focus (first|exact Nat.zero_le _|(simp (maxSteps:=999999)(disch:=omega) only [go_sem];done)|(simp (maxSteps:=999999)(disch:=omega) only [go_sem];omega))))|exact cR));(try simp (maxSteps:=999999)(disch:=omega) only [go_sem]);and_intros;(all_goals first|(refine hK _ (by simp (maxSteps:=999999)(disch:=omega) only [go_sem]) ?_;clear hK K)|exact aa|skip))|refine an ?_|((first|refine ai (fun K hK => ?_)|refine ae (c0) ?_);and_intros;(all_goals first|(refine hK _ ?_;clear hK K)|exact aa|skip)))
   refine hK _ trivial ?_
   clear hK
   repeat' (first|refine an ?_|(refine ai (fun K hK => ?_);and_intros;(all_goals first|(refine hK _ ?_;clear hK K)|exact aa|skip)))
   rw [ah]
   refine aw 1 ?_ (by omega) (by decide)
   refine az [(1,some 1),(2,some 2),(3,some 3)] ?_ ?_
   and_intros
   all_goals first|exact ao|skip
  ·repeat' (first|refine aj ht ?_|(((with_reducible refine gz (id:=7) [] (by decide +kernel) (by decide +kernel) ?_ (fun K hK => ?_));(first|(refine And.intro (fun iw hiw => ?_) ?_;(focus ((try simp (maxSteps:=999999)(disch:=omega) only [go_sem] at hiw ⊢);(repeat (refine Eq.trans (if_neg ?_) ?_;(focus omega)));exact hw iw (by omega)));(focus (first|exact Nat.zero_le _|(simp (maxSteps:=999999)(disch:=omega) only [go_sem];done)|(simp (maxSteps:=999999)(disch:=omega) only [go_sem];omega))))|exact cR));(try simp (maxSteps:=999999)(disch:=omega) only [go_sem]);and_intros;(all_goals first|(refine hK _ (by simp (maxSteps:=999999)(disch:=omega) only [go_sem]) ?_;clear hK K)|exact aa|skip))|refine an ?_|((first|refine ai (fun K hK => ?_)|refine ae (c1) ?_);and_intros;(all_goals first|(refine hK _ ?_;clear hK K)|exact aa|skip)))
   refine hK _ trivial ?_
   clear hK
   repeat' (first|refine an ?_|(refine ai (fun K hK => ?_);and_intros;(all_goals first|(refine hK _ ?_;clear hK K)|exact aa|skip)))
   rw [ah]
   refine aw 2 ?_ (by omega) (by decide)
   refine az [(1,some 1),(2,some 2),(3,some 3)] ?_ ?_
   and_intros
   all_goals first|exact ao|skip
  ·repeat' (first|refine aj ht ?_|(((with_reducible refine gz (id:=7) [] (by decide +kernel) (by decide +kernel) ?_ (fun K hK => ?_));(first|(refine And.intro (fun iw hiw => ?_) ?_;(focus ((try simp (maxSteps:=999999)(disch:=omega) only [go_sem] at hiw ⊢);(repeat (refine Eq.trans (if_neg ?_) ?_;(focus omega)));exact hw iw (by omega)));(focus (first|exact Nat.zero_le _|(simp (maxSteps:=999999)(disch:=omega) only [go_sem];done)|(simp (maxSteps:=999999)(disch:=omega) only [go_sem];omega))))|exact cR));(try simp (maxSteps:=999999)(disch:=omega) only [go_sem]);and_intros;(all_goals first|(refine hK _ (by simp (maxSteps:=999999)(disch:=omega) only [go_sem]) ?_;clear hK K)|exact aa|skip))|refine an ?_|((first|refine ai (fun K hK => ?_)|refine ae (c2) ?_);and_intros;(all_goals first|(refine hK _ ?_;clear hK K)|exact aa|skip)))
   refine hK _ trivial ?_
   clear hK
   repeat' (first|refine an ?_|(refine ai (fun K hK => ?_);and_intros;(all_goals first|(refine hK _ ?_;clear hK K)|exact aa|skip)))
   rw [ah]
   refine aw 3 ?_ (by omega) (by decide)
   refine az [(1,some 1),(2,some 2),(3,some 3)] ?_ ?_
   and_intros
   all_goals first|exact ao|skip
  ·repeat' (first|refine aj ht ?_|refine an ?_|(refine ai (fun K hK => ?_);and_intros;(all_goals first|(refine hK _ ?_;clear hK K)|exact aa|skip))|(refine ak ?_;(try clear hB KB);(try clear hK K)))
   rfl
theorem zA (mode m : Int) (s : Pixel) (x : Acc) (b : Pixel) (hm : Full m) (hmo : 1 ≤ mode ∧ mode ≤ 12) (hs : PixV s m) (hx : AccV x b m) :
  aC Sg 207 [I mode,U m,ag (aF s),ag (cN x),ag (aF b)] (fun r=>r = .tup [ag (cN (dH true 4 mode m s x b)),B true]):=by
 have hsh:=wa 4 s.f x.f m hm ⟨by decide,by decide⟩ hs.f0 hs.fm hx.f0 hx.fm
 obtain ⟨s1,s2,s3⟩:=hs.pre
 obtain ⟨b1,b2,b3⟩:=hx.bk.pre
 have htt:True:=trivial
 have c1:=oj mode m s.c0 s.a s.f x.c0 b.c0 b.a hm hmo s1 b1 hs.af hs.fm hx.n0 (Int.le_trans hx.l0 hx.am)
 have c2:=oj mode m s.c1 s.a s.f x.c1 b.c1 b.a hm hmo s2 b2 hs.af hs.fm hx.n1 (Int.le_trans hx.l1 hx.am)
 have c3:=oj mode m s.c2 s.a s.f x.c2 b.c2 b.a hm hmo s3 b3 hs.af hs.fm hx.n2 (Int.le_trans hx.l2 hx.am)
 have a1:=tu m s.a s.f x.a b.a hm hs.a0 hs.af hs.fm hx.a0 hx.am hx.bk.a0 hx.bk.am
 have a2:=AU m s.a s.f x.own hm hs.a0 hs.af hs.fm hx.o0 hx.om
 rw [show dH true 4 mode m s x b=⟨dr mode m s.c0 s.a s.f x.c0 b.c0 b.a,dr mode m s.c1 s.a s.f x.c1 b.c1 b.a,dr mode m s.c2 s.a s.f x.c2 b.c2 b.a,dc m s.a s.f x.a b.a,dc m s.a s.f x.own 0,en 4 s.f x.f m⟩ from rfl]
 generalize dr mode m s.c0 s.a s.f x.c0 b.c0 b.a=y1 at *
 generalize dr mode m s.c1 s.a s.f x.c1 b.c1 b.a=y2 at *
 generalize dr mode m s.c2 s.a s.f x.c2 b.c2 b.a=y3 at *
 generalize dc m s.a s.f x.a b.a=y4 at *
 generalize dc m s.a s.f x.own 0=y5 at *
 generalize en 4 s.f x.f m=y6 at *
 refine aA Tryz.func207 [.cell 10 156, .tmp 11] ?_
 repeat' (first|refine an ?_|(refine ai (fun K hK => ?_);and_intros;(all_goals first|(refine hK _ ?_;clear hK K)|exact aa|skip)))
 refine aO (X:=Int) (fun i=>aQ [(0, .b (I mode)),(1, .b (U m)),(7, .b (.c (.ptr 0 0))),(8, .b (.c (.ptr 1 0))),(9, .b (.c (.ptr 2 0))),(10, .b (.c (.ptr 3 0))),(12, .b (.c (.ptr 4 0))),(19, .b (ag [PU x.c0,PU x.c1,PU x.c2])),(20, .b (I i))]
  [(0, .fix ((aF s).map CV.p)),(1, .fix ((cN x).map CV.p)),(2, .fix ((aF b).map CV.p)),(3, .fix ((cN BJ).map CV.p)),(4, .fix [.p (PU (if 0<i then y1 else x.c0)), .p (PU (if 1<i then y2 else x.c1)), .p (PU (if 2<i then y3 else x.c2)), .p (PU x.a), .p (PU x.own), .p (PU x.f)])] 5) (fun i=>0≤i∧i≤3) (fun i=>(3 - i).toNat) 0 ?_ ?_ ?_
 ·omega
 ·refine az [(1,some 1),(2,some 2),(3,some 3),(4,some 4)] ?_ ?_
  and_intros
  all_goals first|exact ao|skip
 ·intro i hi'
  rcases oT hi' with rfl|rfl|rfl|rfl
  ·repeat' (first|refine aj htt ?_|(((with_reducible refine bM (id:=5) [] (by decide +kernel) (by decide +kernel) ?_ (fun K hK => ?_));(first|(refine And.intro (fun iw hiw => ?_) ?_;(focus ((try simp (maxSteps:=999999)(disch:=omega) only [go_sem] at hiw ⊢);(repeat (refine Eq.trans (if_neg ?_) ?_;(focus omega)));exact hw iw (by omega)));(focus (first|exact Nat.zero_le _|(simp (maxSteps:=999999)(disch:=omega) only [go_sem];done)|(simp (maxSteps:=999999)(disch:=omega) only [go_sem];omega))))|exact cR));(try simp (maxSteps:=999999)(disch:=omega) only [go_sem]);and_intros;(all_goals first|(refine hK _ (by simp (maxSteps:=999999)(disch:=omega) only [go_sem]) ?_;clear hK K)|exact aa|skip))|refine an ?_|((first|refine ai (fun K hK => ?_)|refine ae (c1) ?_);and_intros;(all_goals first|(refine hK _ ?_;clear hK K)|exact aa|skip)))
   refine hK _ trivial ?_
   clear hK
   repeat' (first|refine aj htt ?_|refine an ?_|(refine ai (fun K hK => ?_);and_intros;(all_goals first|(refine hK _ ?_;clear hK K)|exact aa|skip)))
   rw [ah]
   refine aw 1 ?_ (by omega) (by decide)
   refine az [(1,some 1),(2,some 2),(3,some 3),(4,some 4)] ?_ ?_
   and_intros
   all_goals first|exact ao|skip
  ·repeat' (first|refine aj htt ?_|(((with_reducible refine bM (id:=5) [] (by decide +kernel) (by decide +kernel) ?_ (fun K hK => ?_));(first|(refine And.intro (fun iw hiw => ?_) ?_;(focus ((try simp (maxSteps:=999999)(disch:=omega) only [go_sem] at hiw ⊢);(repeat (refine Eq.trans (if_neg ?_) ?_;(focus omega)));exact hw iw (by omega)));(focus (first|exact Nat.zero_le _|(simp (maxSteps:=999999)(disch:=omega) only [go_sem];done)|(simp (maxSteps:=999999)(disch:=omega) only [go_sem];omega))))|exact cR));(try simp (maxSteps:=999999)(disch:=omega) only [go_sem]);and_intros;(all_goals first|(refine hK _ (by simp (maxSteps:=999999)(disch:=omega) only [go_sem]) ?_;clear hK K)|exact aa|skip))|refine an ?_|((first|refine ai (fun K hK => ?_)|refine ae (c2) ?_);and_intros;(all_goals first|(refine hK _ ?_;clear hK K)|exact aa|skip)))
   refine hK _ trivial ?_
   clear hK
   repeat' (first|refine aj htt ?_|refine an ?_|(refine ai (fun K hK => ?_);and_intros;(all_goals first|(refine hK _ ?_;clear hK K)|exact aa|skip)))
   rw [ah]
   refine aw 2 ?_ (by omega) (by decide)
   refine az [(1,some 1),(2,some 2),(3,some 3),(4,some 4)] ?_ ?_
   and_intros
   all_goals first|exact ao|skip
  ·repeat' (first|refine aj htt ?_|(((with_reducible refine bM (id:=5) [] (by decide +kernel) (by decide +kernel) ?_ (fun K hK => ?_));(first|(refine And.intro (fun iw hiw => ?_) ?_;(focus ((try simp (maxSteps:=999999)(disch:=omega) only [go_sem] at hiw ⊢);(repeat (refine Eq.trans (if_neg ?_) ?_;(focus omega)));exact hw iw (by omega)));(focus (first|exact Nat.zero_le _|(simp (maxSteps:=999999)(disch:=omega) only [go_sem];done)|(simp (maxSteps:=999999)(disch:=omega) only [go_sem];omega))))|exact cR));(try simp (maxSteps:=999999)(disch:=omega) only [go_sem]);and_intros;(all_goals first|(refine hK _ (by simp (maxSteps:=999999)(disch:=omega) only [go_sem]) ?_;clear hK K)|exact aa|skip))|refine an ?_|((first|refine ai (fun K hK => ?_)|refine ae (c3) ?_);and_intros;(all_goals first|(refine hK _ ?_;clear hK K)|exact aa|skip)))
   refine hK _ trivial ?_
   clear hK
   repeat' (first|refine aj htt ?_|refine an ?_|(refine ai (fun K hK => ?_);and_intros;(all_goals first|(refine hK _ ?_;clear hK K)|exact aa|skip)))
   rw [ah]
   refine aw 3 ?_ (by omega) (by decide)
   refine az [(1,some 1),(2,some 2),(3,some 3),(4,some 4)] ?_ ?_
   and_intros
   all_goals first|exact ao|skip
  ·repeat' (first|refine aj htt ?_|refine an ?_|((first|refine ai (fun K hK => ?_)|refine ae (a1) ?_|refine ae (a2) ?_|refine ae (hsh) ?_);and_intros;(all_goals first|(refine hK _ ?_;clear hK K)|exact aa|skip))|(refine ak ?_;(try clear hB KB);(try clear hK K)))
   rfl
theorem Hk (ko : Bool) (op mode m : Int) (s : Pixel) (x : Acc) (b : Pixel) (hm : Full m) (ho : 1 ≤ op ∧ op ≤ 12) (hmo : 1 ≤ mode ∧ mode ≤ 12) (hs : PixV s m) (hx : AccV x b m) (hk : ko = true → op = 4) :
  aC Sg 180 [B ko,I op,I mode,U m,ag (aF s),ag (cN x),ag (aF b)] (fun r=>r = .tup [ag (cN (dH ko op mode m s x b)),B true]):=by
 have hva:=vX x b m hm hx
 have hvp:=jC s m
 rw [gi hs] at hvp
 have hsh:=wa op s.f x.f m hm ho hs.f0 hs.fm hx.f0 hx.fm
 obtain ⟨s1,s2,s3⟩:=hs.pre
 obtain ⟨x1,x2,x3⟩:=hx.pre
 have htt:True:=trivial
 cases ko
 ·have c1:=qI op mode m s.c0 s.a x.c0 x.a hm ho hmo s1 x1
  have c2:=qI op mode m s.c1 s.a x.c1 x.a hm ho hmo s2 x2
  have c3:=qI op mode m s.c2 s.a x.c2 x.a hm ho hmo s3 x3
  have a1:=wG op s.a x.a m hm ho hs.a0 hs.am hx.a0 hx.am
  have a2:=wG op s.a x.own m hm ho hs.a0 hs.am hx.o0 hx.om
  rw [show dH false op mode m s x b=⟨dL op mode m s.c0 s.a x.c0 x.a,dL op mode m s.c1 s.a x.c1 x.a,dL op mode m s.c2 s.a x.c2 x.a,dj op s.a x.a m,dj op s.a x.own m,en op s.f x.f m⟩ from rfl]
  generalize dL op mode m s.c0 s.a x.c0 x.a=y1 at *
  generalize dL op mode m s.c1 s.a x.c1 x.a=y2 at *
  generalize dL op mode m s.c2 s.a x.c2 x.a=y3 at *
  generalize dj op s.a x.a m=y4 at *
  generalize dj op s.a x.own m=y5 at *
  generalize en op s.f x.f m=y6 at *
  refine aA Tryz.func180 [.cell 14 156, .tmp 15] ?_
  repeat' (first|refine aj htt ?_|refine an ?_|((first|refine ai (fun K hK => ?_)|refine ae (hva) ?_|refine aD (fun hg=>hvp) ?_);and_intros;(all_goals first|(refine hK _ ?_;clear hK K)|exact aa|skip)))
  refine aO (X:=Int) (fun i=>aQ [(1, .b (I op)),(2, .b (I mode)),(3, .b (U m)),(11, .b (.c (.ptr 0 0))),(12, .b (.c (.ptr 1 0))),(13, .b (.c (.ptr 2 0))),(14, .b (.c (.ptr 3 0))),(16, .b (.c (.ptr 4 0))),(51, .b (ag [PU x.c0,PU x.c1,PU x.c2])),(52, .b (I i))]
   [(0, .fix ((aF s).map CV.p)),(1, .fix ((cN x).map CV.p)),(2, .fix ((aF b).map CV.p)),(3, .fix ((cN BJ).map CV.p)),(4, .fix [.p (PU (if 0<i then y1 else x.c0)), .p (PU (if 1<i then y2 else x.c1)), .p (PU (if 2<i then y3 else x.c2)), .p (PU x.a), .p (PU x.own), .p (PU x.f)])] 5) (fun i=>0≤i∧i≤3) (fun i=>(3 - i).toNat) 0 ?_ ?_ ?_
  ·omega
  ·refine az [(1,some 1),(2,some 2),(3,some 3),(4,some 4)] ?_ ?_
   and_intros
   all_goals first|exact ao|skip
  ·intro i hi'
   rcases oT hi' with rfl|rfl|rfl|rfl
   ·repeat' (first|refine aj htt ?_|(((with_reducible refine bM (id:=9) [] (by decide +kernel) (by decide +kernel) ?_ (fun K hK => ?_));(first|(refine And.intro (fun iw hiw => ?_) ?_;(focus ((try simp (maxSteps:=999999)(disch:=omega) only [go_sem] at hiw ⊢);(repeat (refine Eq.trans (if_neg ?_) ?_;(focus omega)));exact hw iw (by omega)));(focus (first|exact Nat.zero_le _|(simp (maxSteps:=999999)(disch:=omega) only [go_sem];done)|(simp (maxSteps:=999999)(disch:=omega) only [go_sem];omega))))|exact cR));(try simp (maxSteps:=999999)(disch:=omega) only [go_sem]);and_intros;(all_goals first|(refine hK _ (by simp (maxSteps:=999999)(disch:=omega) only [go_sem]) ?_;clear hK K)|exact aa|skip))|refine an ?_|((first|refine ai (fun K hK => ?_)|refine ae (c1) ?_);and_intros;(all_goals first|(refine hK _ ?_;clear hK K)|exact aa|skip)))
    refine hK _ trivial ?_
    clear hK
    repeat' (first|refine aj htt ?_|refine an ?_|(refine ai (fun K hK => ?_);and_intros;(all_goals first|(refine hK _ ?_;clear hK K)|exact aa|skip)))
    rw [ah]
    refine aw 1 ?_ (by omega) (by decide)
    refine az [(1,some 1),(2,some 2),(3,some 3),(4,some 4)] ?_ ?_
    and_intros
    all_goals first|exact ao|skip
   ·repeat' (first|refine aj htt ?_|(((with_reducible refine bM (id:=9) [] (by decide +kernel) (by decide +kernel) ?_ (fun K hK => ?_));(first|(refine And.intro (fun iw hiw => ?_) ?_;(focus ((try simp (maxSteps:=999999)(disch:=omega) only [go_sem] at hiw ⊢);(repeat (refine Eq.trans (if_neg ?_) ?_;(focus omega)));exact hw iw (by omega)));(focus (first|exact Nat.zero_le _|(simp (maxSteps:=999999)(disch:=omega) only [go_sem];done)|(simp (maxSteps:=999999)(disch:=omega) only [go_sem];omega))))|exact cR));(try simp (maxSteps:=999999)(disch:=omega) only [go_sem]);and_intros;(all_goals first|(refine hK _ (by simp (maxSteps:=999999)(disch:=omega) only [go_sem]) ?_;clear hK K)|exact aa|skip))|refine an ?_|((first|refine ai (fun K hK => ?_)|refine ae (c2) ?_);and_intros;(all_goals first|(refine hK _ ?_;clear hK K)|exact aa|skip)))
    refine hK _ trivial ?_
    clear hK
    repeat' (first|refine aj htt ?_|refine an ?_|(refine ai (fun K hK => ?_);and_intros;(all_goals first|(refine hK _ ?_;clear hK K)|exact aa|skip)))
    rw [ah]
    refine aw 2 ?_ (by omega) (by decide)
    refine az [(1,some 1),(2,some 2),(3,some 3),(4,some 4)] ?_ ?_
    and_intros
    all_goals first|exact ao|skip
   ·repeat' (first|refine aj htt ?_|(((with_reducible refine bM (id:=9) [] (by decide +kernel) (by decide +kernel) ?_ (fun K hK => ?_));(first|(refine And.intro (fun iw hiw => ?_) ?_;(focus ((try simp (maxSteps:=999999)(disch:=omega) only [go_sem] at hiw ⊢);(repeat (refine Eq.trans (if_neg ?_) ?_;(focus omega)));exact hw iw (by omega)));(focus (first|exact Nat.zero_le _|(simp (maxSteps:=999999)(disch:=omega) only [go_sem];done)|(simp (maxSteps:=999999)(disch:=omega) only [go_sem];omega))))|exact cR));(try simp (maxSteps:=999999)(disch:=omega) only [go_sem]);and_intros;(all_goals first|(refine hK _ (by simp (maxSteps:=999999)(disch:=omega) only [go_sem]) ?_;clear hK K)|exact aa|skip))|refine an ?_|((first|refine ai (fun K hK => ?_)|refine ae (c3) ?_);and_intros;(all_goals first|(refine hK _ ?_;clear hK K)|exact aa|skip)))
    refine hK _ trivial ?_
    clear hK
    repeat' (first|refine aj htt ?_|refine an ?_|(refine ai (fun K hK => ?_);and_intros;(all_goals first|(refine hK _ ?_;clear hK K)|exact aa|skip)))
    rw [ah]
    refine aw 3 ?_ (by omega) (by decide)
    refine az [(1,some 1),(2,some 2),(3,some 3),(4,some 4)] ?_ ?_
    and_intros
    all_goals first|exact ao|skip
   ·repeat' (first|refine aj htt ?_|refine an ?_|((first|refine ai (fun K hK => ?_)|refine ae (a1) ?_|refine ae (a2) ?_|refine ae (hsh) ?_);and_intros;(all_goals first|(refine hK _ ?_;clear hK K)|exact aa|skip))|(refine ak ?_;(try clear hB KB);(try clear hK K)))
    rfl
 ·obtain rfl:=hk rfl
  have hr:=zA mode m s x b hm hmo hs hx
  generalize dH true 4 mode m s x b=y at *
  refine aA Tryz.func180 [.cell 14 156, .tmp 15] ?_
  repeat' (first|refine aj htt ?_|refine an ?_|((first|refine ai (fun K hK => ?_)|refine ae (hva) ?_|refine aD (fun hg=>hvp) ?_|refine ae (hr) ?_);and_intros;(all_goals first|(refine hK _ ?_;clear hK K)|exact aa|skip))|(refine ak ?_;(try clear hB KB);(try clear hK K)))
  rfl
end Go.Proofs.YtmfblbbemekkoaaGreatDoor
set_option maxHeartbeats 4000000
set_option maxRecDepth 16000
namespace Go.Proofs.YtmfblbbemekkoaaGreatDoor
open Go Go.SL
open Go.RowKit (wrap64)
attribute [local go_sem] cN nv cA Int.toNat_natCast vK pE
theorem xe (t:Lv):(SV.b (ag (pE t))).flat:=fun c hc=>by
 obtain ⟨x,hx,rfl⟩:=List.mem_map.1 hc
 simp only [pE,List.mem_cons,List.not_mem_nil,or_false] at hx
 rcases hx with rfl|rfl|rfl|rfl|rfl|rfl|rfl|rfl|rfl|rfl|rfl|rfl|rfl|rfl|rfl|rfl|rfl|rfl|rfl|rfl|rfl|rfl|rfl <;> trivial
theorem oA (m:Int) (n:Nat) (f:Nat→Nat→PV) (t:Lv) (hl:n≤1000) (hf:cQ (f n) t):aC Sg 147 [nv m (n+1) f] (fun x=>x = .b (ag (pE t))):=by
 have ht:True:=trivial
 obtain ⟨e0,e1,e2,e3,e4,e5,e6,e7,e8,e9,e10,e11,e12,e13,e14,e15,e16,e17,e18,e19,e20,e21,e22⟩:=Dr hf
 refine aA Tryz.func147 [.cell 2 201] ?_
 repeat' (first|(refine ai (fun K hK => ?_);and_intros;(all_goals first|(refine hK _ ?_;clear hK K)|exact aa|skip))|(refine ak ?_;(try clear hB KB);(try clear hK K)))
 simp only [e0,e1,e2,e3,e4,e5,e6,e7,e8,e9,e10,e11,e12,e13,e14,e15,e16,e17,e18,e19,e20,e21,e22]
 rfl
theorem ni (m:Int) (n:Nat) (f:Nat→Nat→PV) (hl:n≤1000):aC Sg 146 [nv m (n+1) f] (fun x=>x = .b (I n)):=by
 have ht:True:=trivial
 refine aA Tryz.func146 [.tmp 2] ?_
 repeat' (first|with_reducible exact ca|refine aj ht ?_|refine an ?_|(refine ai (fun K hK => ?_);and_intros;(all_goals first|(refine hK _ ?_;clear hK K)|exact aa|skip))|(refine ak ?_;(try clear hB KB);(try clear hK K)))
theorem lG (m:Int) (n:Nat) (f:Nat→Nat→PV) (t:Lv) (hl:n≤1000) (hf:cQ (f n) t):aC Sg 108 [nv m (n+1) f] (fun x=>x = .b (ag (cN t.acc))):=by
 have ht:True:=trivial
 have h1:=oA m n f t hl hf
 refine aA Tryz.func108 [.cell 2 156] ?_
 repeat' (first|refine aj ht ?_|refine an ?_|((first|refine ai (fun K hK => ?_)|refine ae (h1) ?_);and_intros;(all_goals first|(refine hK _ ?_;clear hK K)|exact aa|skip))|(refine ak ?_;(try clear hB KB);(try clear hK K)))
 rfl
theorem pB (m:Int) (n:Nat) (f:Nat→Nat→PV) (t:Lv) (hl:n≤1000) (hf:cQ (f n) t):aC Sg 106 [nv m (n+1) f] (fun x=>x = .b (ag (aF t.back))):=by
 have ht:True:=trivial
 have h1:=oA m n f t hl hf
 refine aA Tryz.func106 [.cell 2 41] ?_
 repeat' (first|refine aj ht ?_|refine an ?_|((first|refine ai (fun K hK => ?_)|refine ae (h1) ?_);and_intros;(all_goals first|(refine hK _ ?_;clear hK K)|exact aa|skip))|(refine ak ?_;(try clear hB KB);(try clear hK K)))
 rfl
theorem Ep (m:Int) (n:Nat) (f:Nat→Nat→PV) (t:Lv) (hl:n<1000) (hf:cQ (f n) t):aC Sg 152 [nv m (n+1+1) f] (fun x=>x = .b (ag (cN t.acc))):=by
 have h1:=ni m (n+1) f (by omega)
 have g:(((n+1:Nat):Int) == 0)=false:=by rw [beq_eq_false_iff_ne];omega
 have g2:(((n+1+1:Nat):Int) - 2)=(n:Int):=by omega
 obtain ⟨e0,e1,e2,e3,e4,e5,e6,e7,e8,e9,e10,e11,e12,e13,e14,e15,e16,e17,e18,e19,e20,e21,e22⟩:=Dr hf
 refine aA Tryz.func152 [.cell 2 156] ?_
 repeat' (first|refine aj g ?_|refine an ?_|((first|refine ai (fun K hK => ?_)|refine ae (h1) ?_);and_intros;(all_goals first|(refine hK _ ?_;clear hK K)|exact aa|skip))|(refine ak ?_;(try clear hB KB);(try clear hK K)))
 rw [show ((((n+1+1:Nat):Int) - 2).toNat)=n by omega,e12,e13,e14,e15,e16,e17]
 rfl
theorem rG (m:Int) (f:Nat→Nat→PV) (t:Lv) (hf:cQ (f 0) t) (hm:Full m) (hv:AccV t.acc t.back m):aC Sg 114 [nv m 1 f] (fun x=>x = .tup [ag (aF (aU t.acc t.back m)),I 0]):=by
 have ht:True:=trivial
 have h1:=ni m 0 f (by decide)
 have h3:=oA m 0 f t (by decide) hf
 have h2:=lJ t.acc t.back m hm hv
 generalize aU t.acc t.back m=q at *
 have g:(((0:Nat):Int) != 0)=false:=by decide
 refine aA Tryz.func114 [.cell 2 41, .tmp 3] ?_
 repeat' (first|refine aj g ?_|refine an ?_|((first|refine ai (fun K hK => ?_)|refine ae (h1) ?_);and_intros;(all_goals first|(refine hK _ ?_;clear hK K)|exact aa|skip)))
 refine fc (id:=5) (.br 0 (.br 3 (.br 6 (.br 7 (.br 8 (.br 9 (.br 1 (.br 2 (.br 4 (.br 5 (.br 10 (.br 11 (.br 12 (.br 13 (.br 14 (.br 15 (.br 16 .leaf .nil) .nil) .nil) .nil) .nil) .nil) .nil) (.br 14 (.br 5 (.br 10 (.br 11 (.br 12 (.br 13 (.br 15 (.br 16 .leaf .nil) .nil) .nil) .nil) .nil) .nil) .nil) .nil)) (.br 14 (.br 4 (.br 5 (.br 10 (.br 11 (.br 12 (.br 13 (.br 15 (.br 16 .leaf .nil) .nil) .nil) .nil) .nil) .nil) .nil) .nil) .nil)) (.br 4 (.br 2 (.br 5 (.br 10 (.br 11 (.br 12 (.br 13 (.br 14 (.br 15 (.br 16 .leaf .nil) .nil) .nil) .nil) .nil) .nil) .nil) (.br 14 (.br 5 (.br 10 (.br 11 (.br 12 (.br 13 (.br 15 (.br 16 .leaf .nil) .nil) .nil) .nil) .nil) .nil) .nil) .nil)) (.br 5 (.br 2 (.br 10 (.br 11 (.br 12 (.br 13 (.br 14 (.br 15 (.br 16 .leaf .nil) .nil) .nil) .nil) .nil) .nil) .nil) (.br 14 (.br 2 (.br 10 (.br 11 (.br 12 (.br 13 (.br 15 (.br 16 .leaf .nil) .nil) .nil) .nil) .nil) .nil) .nil) .nil)) (.br 14 (.br 2 (.br 5 (.br 10 (.br 11 (.br 12 (.br 13 (.br 15 (.br 16 .leaf .nil) .nil) .nil) .nil) .nil) .nil) .nil) (.br 5 (.br 2 (.br 10 (.br 11 (.br 12 (.br 13 (.br 15 (.br 16 .leaf .nil) .nil) .nil) .nil) .nil) .nil) .nil) .nil)) .nil))) (.br 14 (.br 2 (.br 4 (.br 5 (.br 10 (.br 11 (.br 12 (.br 13 (.br 15 (.br 16 .leaf .nil) .nil) .nil) .nil) .nil) .nil) .nil) .nil) (.br 4 (.br 2 (.br 5 (.br 10 (.br 11 (.br 12 (.br 13 (.br 15 (.br 16 .leaf .nil) .nil) .nil) .nil) .nil) .nil) .nil) (.br 5 (.br 2 (.br 10 (.br 11 (.br 12 (.br 13 (.br 15 (.br 16 .leaf .nil) .nil) .nil) .nil) .nil) .nil) .nil) .nil)) .nil)) .nil))) (.br 14 (.br 1 (.br 2 (.br 4 (.br 5 (.br 10 (.br 11 (.br 12 (.br 13 (.br 15 (.br 16 .leaf .nil) .nil) .nil) .nil) .nil) .nil) .nil) .nil) (.br 4 (.br 2 (.br 5 (.br 10 (.br 11 (.br 12 (.br 13 (.br 15 (.br 16 .leaf .nil) .nil) .nil) .nil) .nil) .nil) .nil) (.br 5 (.br 2 (.br 10 (.br 11 (.br 12 (.br 13 (.br 15 (.br 16 .leaf .nil) .nil) .nil) .nil) .nil) .nil) .nil) .nil)) .nil)) .nil) .nil)) .nil) .nil) .nil) .nil) .nil) .nil) (by decide +kernel) ?_ (fun K0 hW => ?_)
 ·(first|(refine And.intro (fun iw hiw => ?_) ?_;(focus ((try simp (maxSteps:=999999)(disch:=omega) only [go_sem] at hiw ⊢);(repeat (refine Eq.trans (if_neg ?_) ?_;(focus omega)));exact hw iw (by omega)));(focus (first|exact Nat.zero_le _|(simp (maxSteps:=999999)(disch:=omega) only [go_sem];done)|(simp (maxSteps:=999999)(disch:=omega) only [go_sem];omega))))|exact cR)
 replace hW:=ep hW
 repeat' (first|exact ba|(refine bq (fun K' hK' => ?_) ?_)|(refine aV (hW _ ?_);clear hW)|((first|refine ae (h3) ?_|refine ae (h2) ?_);(try simp (maxSteps:=999999)(disch:=omega) only [go_sem]);and_intros;(all_goals first|(refine hK' _ ?_;clear hK' K')|trivial|omega|exact Nat.le_of_ble_eq_true rfl|exact aa|skip))|(simp (maxSteps:=999999)(disch:=omega) only [go_sem];and_intros;(all_goals first|(refine hK' _ ?_;clear hK' K')|trivial|omega|exact Nat.le_of_ble_eq_true rfl|exact aa|skip)))
 all_goals
  refine dg ?_
  repeat' (first|(refine ai (fun K hK => ?_);and_intros;(all_goals first|(refine hK _ ?_;clear hK K)|exact aa|skip))|(refine ak ?_;(try clear hB KB);(try clear hK K)))
  rfl
theorem BZ (m : Int) (n : Nat) (f : Nat → Nat → PV) (o : Op) (p : Pixel) (k : Int) (hm : Full m) (hp : PixV p m) (hk : 0 ≤ k) (hkm : k ≤ m) (ho : 0 ≤ o.opacity) (hom : o.opacity ≤ m) :
  aC Sg 153 [nv m n f,ag (cT o),ag (aF p),U k] (fun r=>r = .tup [ag (aF (ax m o p k)),B true]):=by
 have ht:True:=trivial
 unfold ax
 by_cases h:o.mask=0
 ·rw [if_pos h,gr hm]
  have hb:=jz p o.opacity m hm hp ho hom
  generalize aL p o.opacity m=q at *
  have g:(o.mask == 0)=true:=beq_iff_eq.2 h
  refine aA Tryz.func153 [.cell 8 41, .tmp 9] ?_
  repeat' (first|refine aj g ?_|refine an ?_|((first|refine ai (fun K hK => ?_)|refine ae (hb) ?_);and_intros;(all_goals first|(refine hK _ ?_;clear hK K)|exact aa|skip))|(refine ak ?_;(try clear hB KB);(try clear hK K)))
  rfl
 ·rw [if_neg h]
  have hb:=Gh p k o.opacity m hm hp hk hkm ho hom
  generalize aL (aL p k m) o.opacity m=q at *
  have g:(o.mask == 0)=false:=beq_eq_false_iff_ne.2 h
  refine aA Tryz.func153 [.cell 8 41, .tmp 9] ?_
  repeat' (first|refine aj g ?_|refine an ?_|((first|refine ai (fun K hK => ?_)|refine ae (hb) ?_);and_intros;(all_goals first|(refine hK _ ?_;clear hK K)|exact aa|skip))|(refine ak ?_;(try clear hB KB);(try clear hK K)))
  rfl
theorem DD (m : Int) (N n : Nat) (g f : Nat → Nat → PV) (o : Op) (p : Pixel) (t : Lv) (hl : n ≤ 1000) (hf : cQ (f n) t) (hm : Full m) (ho : 1 ≤ o.operator ∧ o.operator ≤ 12) (hmo : 1 ≤ o.mode ∧ o.mode ≤ 12) (hp : PixV p m) (hv : AccV t.acc t.back m) (hko : t.op.knockout = true → o.operator = 4) :
  aC Sg 154 [nv m N g, .c (.p (.lst 23 (n+1) f)),ag (cT o),ag (aF p)] (fun r=>r = .tup [ag (pE (bJ m o p t)),B true]):=by
 have ht:True:=trivial
 have hst:=Hk t.op.knockout o.operator o.mode m p t.acc t.back hm ho hmo hp hv hko
 have hpl:bJ m o p t=⟨t.op,dH t.op.knockout o.operator o.mode m p t.acc t.back,t.back⟩:=rfl
 rw [hpl]
 obtain ⟨e0,e1,e2,e3,e4,e5,e6,e7,e8,e9,e10,e11,e12,e13,e14,e15,e16,e17,e18,e19,e20,e21,e22⟩:=Dr hf
 have hst2:aC Sg 180 [.c (.p (f n 11)),I o.operator,I o.mode,U m,ag (aF p),ag [f n 12,f n 13,f n 14,f n 15,f n 16,f n 17],ag [f n 18,f n 19,f n 20,f n 21,f n 22]] (fun r=>r = .tup [ag (cN (dH t.op.knockout o.operator o.mode m p t.acc t.back)),B true]):=by
  rw [e11,e12,e13,e14,e15,e16,e17,e18,e19,e20,e21,e22]
  exact hst
 generalize dH t.op.knockout o.operator o.mode m p t.acc t.back=q at *
 refine aA Tryz.func154 [.cell 8 201, .tmp 9] ?_
 repeat' (first|(((with_reducible refine bM (id:=2) [] (by decide +kernel) (by decide +kernel) ?_ (fun K hK => ?_));(first|(refine And.intro (fun iw hiw => ?_) ?_;(focus ((try simp (maxSteps:=999999)(disch:=omega) only [go_sem] at hiw ⊢);(repeat (refine Eq.trans (if_neg ?_) ?_;(focus omega)));exact hw iw (by omega)));(focus (first|exact Nat.zero_le _|(simp (maxSteps:=999999)(disch:=omega) only [go_sem];done)|(simp (maxSteps:=999999)(disch:=omega) only [go_sem];omega))))|exact cR));(try simp (maxSteps:=999999)(disch:=omega) only [go_sem]);and_intros;(all_goals first|(refine hK _ (by simp (maxSteps:=999999)(disch:=omega) only [go_sem]) ?_;clear hK K)|exact aa|skip))|((first|refine ai (fun K hK => ?_)|refine ae (hst2) ?_);and_intros;(all_goals first|(refine hK _ ?_;clear hK K)|exact aa|skip)))
 refine hK _ trivial ?_
 clear hK
 repeat' (first|(refine ai (fun K hK => ?_);and_intros;(all_goals first|(refine hK _ ?_;clear hK K)|exact aa|skip))|(refine ak ?_;(try clear hB KB);(try clear hK K)))
 simp only [e0,e1,e2,e3,e4,e5,e6,e7,e8,e9,e10,e11,e12,e13,e14,e15,e16,e17,e18,e19,e20,e21,e22]
 rfl
theorem oM {bx:Nat→Option Bx} {b k n N e:Nat} {m:Int} {g:Nat→Nat→PV} (hb:bx b=some (.fix [.p (PU m), .own k n])) (hk:bx k=some (.arr e 23 N g)) (hN:n≤N):eo bx (.c (.ptr b 0))=nv m n g:=by
 have h0:ef bx (.own k n) = .p (.lst 23 n g):=by
  simp only [ef,hk,hN,if_true]
 have hf:(fun j=>(ef bx (([CV.p (PU m), .own k n]:List CV).getD (0+j) .any)).toP)=fun j=>[PU m, .lst 23 n g].getD j .any:=by
  funext j
  match j with
  | 0=>rfl
  | 1=>show (ef bx (.own k n)).toP=_;rw [h0];rfl
  | j+2=>rw [show 0+(j+2)=j+2 by omega];rfl
 simp only [eo,ja,hb]
 unfold nv
 rw [if_pos (Nat.zero_le _)]
 exact congrArg (fun g=>BV.c (.ipt 2 g 0)) hf
theorem fN {st : St} {f : FuncId} {K : SV → St → Prop} {X : SV} {b k n N e : Nat} {m : Int} {g : Nat → Nat → PV} {q : Prop} (hN : n ≤ N) (h : aC Sg f [nv m n g] (fun r => r = X)) (hf : X.flat) (hk : q)
  (h1:st.bx b=some (.fix [.p (PU m), .own k n]):=by (first|(simp (maxSteps:=999999)(disch:=omega) only [go_sem];done)|rfl|fail)) (h2:st.bx k=some (.arr e 23 N g):=by (first|(simp (maxSteps:=999999)(disch:=omega) only [go_sem];done)|rfl|fail)) (hp:Sg.rcv (f+1000000)=false:=by rfl)
  (w:q→K X st:=by (first|(intro h;first|(simp (maxSteps:=999999)(disch:=omega) only [go_sem];exact h)|exact h)|fail)):du Sg st f [.c (.ptr b 0)] (Sl.of K):=by
 refine .lend [nv m n g] X h ?_ ?_ hf (w hk) hp
 ·rw [List.map_cons,List.map_nil,oM h1 h2 hN];exact dE _
 ·intro x hx
  rw [List.mem_singleton.1 hx]
  trivial
theorem pz {bx:Nat→Option Bx}:∀ {l:List PV},eo bx (ag l)=ag l:=by
 intro l
 show BV.agg ((l.map CV.p).map (ja bx))=BV.agg (l.map CV.p)
 rw [List.map_map]
 rfl
theorem Af {l:List PV}:BV.lt 0 (ag l):=fun c hc=>by
 obtain ⟨x,_,rfl⟩:=List.mem_map.1 hc
 trivial
theorem GB {p:Pixel}:(SV.tup [ag (aF p),B true]).flat:=fun v hv=>by
 rcases List.mem_cons.1 hv with rfl|hv
 ·exact fT p
 ·rw [List.mem_singleton.1 hv];trivial
theorem BE {t:Lv}:(SV.tup [ag (pE t),B true]).flat:=fun v hv=>by
 rcases List.mem_cons.1 hv with rfl|hv
 ·exact xe t
 ·rw [List.mem_singleton.1 hv];trivial
theorem pO {st : St} {K : SV → St → Prop} (b k n N e : Nat) (f : Nat → Nat → PV) (m : Int) (o : Op) (p : Pixel) (ms : Int) (hN : n ≤ N) (hb : st.bx b = some (.fix [.p (PU m), .own k n])) (hk : st.bx k = some (.arr e 23 N f))
  (hm:Full m) (hp:PixV p m) (h0:0≤ms) (h1:ms≤m) (ho:0≤o.opacity) (hom:o.opacity≤m) (hK:K (.tup [ag (aF (ax m o p ms)),B true]) st) :
  du Sg st 153 [.c (.ptr b 0),ag (cT o),ag (aF p),U ms] (Sl.of K):=by
 refine .lend [nv m n f,ag (cT o),ag (aF p),U ms] _ (BZ m n f o p ms hm hp h0 h1 ho hom) ?_ ?_ GB hK rfl
 ·rw [List.map_cons,List.map_cons,List.map_cons,List.map_cons,List.map_nil,oM hb hk hN,pz,pz];exact dE _
 ·intro x hx
  simp only [List.mem_cons,List.not_mem_nil,or_false] at hx
  rcases hx with rfl|rfl|rfl|rfl
  ·trivial
  ·exact Af
  ·exact Af
  ·trivial
theorem rL {st : St} {K : SV → St → Prop} (b k M N n e : Nat) (f : Nat → Nat → PV) (m : Int) (o : Op) (p : Pixel) (t : Lv) (hMN : M ≤ N) (hnN : n + 1 ≤ N) (hb : st.bx b = some (.fix [.p (PU m), .own k M])) (hk : st.bx k = some (.arr e 23 N f))
  (hl:n≤1000) (hf:cQ (f n) t) (hm:Full m) (ho:1≤o.operator∧o.operator≤12) (hmo:1≤o.mode∧o.mode≤12) (hp:PixV p m) (hv:AccV t.acc t.back m) (hko:t.op.knockout=true→o.operator=4) (hK:K (.tup [ag (pE (bJ m o p t)),B true]) st) :
  du Sg st 154 [.c (.ptr b 0), .c (.own k (n+1)),ag (cT o),ag (aF p)] (Sl.of K):=by
 refine .lend [nv m M f, .c (.p (.lst 23 (n+1) f)),ag (cT o),ag (aF p)] _ (DD m M n f f o p t hl hf hm ho hmo hp hv hko) ?_ ?_ BE hK rfl
 ·have e2:eo st.bx (.c (.own k (n+1))) = .c (.p (.lst 23 (n+1) f)):=by
   simp only [eo,ja,ef,hk,hnN,if_true]
  rw [List.map_cons,List.map_cons,List.map_cons,List.map_cons,List.map_nil,oM hb hk hMN,pz,pz,e2];exact dE _
 ·intro x hx
  simp only [List.mem_cons,List.not_mem_nil,or_false] at hx
  rcases hx with rfl|rfl|rfl|rfl
  ·trivial
  ·trivial
  ·exact Af
  ·exact Af
end Go.Proofs.YtmfblbbemekkoaaGreatDoor
set_option maxHeartbeats 4000000
set_option maxRecDepth 16000
namespace Go.Proofs.YtmfblbbemekkoaaGreatDoor
open Go Go.SL
open Go.RowKit (wrap64)
theorem wc {w h:Int} (hw:1≤w) (hh:1≤h):w≤16777216 / h↔w≤16777216∧h≤16777216 / w:=by
 rw [Int.le_ediv_iff_mul_le (by omega),Int.le_ediv_iff_mul_le (by omega),Int.mul_comm h w]
 refine ⟨fun q=>⟨?_,q⟩,fun q=>q.2⟩
 have:w * 1≤w * h:=Int.mul_le_mul_of_nonneg_left hh (by omega)
 omega
theorem Am (w h:Int):((decide (w≥1) && decide (h≥1)) && decide (w≤IntKind.i64.wrap (16777216 / h)))=cl w h:=by
 rw [Bool.eq_iff_iff]
 simp only [cl,Bool.and_eq_true,decide_eq_true_eq,ge_iff_le]
 constructor
 ·rintro ⟨⟨h1,h2⟩,h3⟩
  have a1:0≤16777216 / h:=Int.ediv_nonneg (by omega) (by omega)
  have a2:16777216 / h≤16777216:=Int.ediv_le_self _ (by omega)
  rw [fq (by omega) (by omega)] at h3
  exact ⟨h1,h2,(wc h1 h2).1 h3⟩
 ·rintro ⟨h1,h2,h3⟩
  have a1:0≤16777216 / h:=Int.ediv_nonneg (by omega) (by omega)
  have a2:16777216 / h≤16777216:=Int.ediv_le_self _ (by omega)
  rw [fq (by omega) (by omega)]
  exact ⟨⟨h1,h2⟩,(wc h1 h2).2 h3⟩
theorem zo (w h:Int):aC Sg 129 [I w,I h] (fun x=>x = .b (B (cl w h))):=by
 rw [← Am]
 refine aA Tryz.func129 [.tmp 4] ?_
 repeat' (first|with_reducible exact ca|(refine ai (fun K hK => ?_);and_intros;(all_goals first|(refine hK _ ?_;clear hK K)|exact aa|skip))|(refine ak ?_;(try clear hB KB);(try clear hK K)))
theorem Fv (w h:Int):aC Sg 199 [I w,I h] (fun x=>x = .b (B (cl w h))):=by
 rw [← Am]
 refine aA Tryz.func199 [.tmp 4] ?_
 repeat' (first|with_reducible exact ca|(refine ai (fun K hK => ?_);and_intros;(all_goals first|(refine hK _ ?_;clear hK K)|exact aa|skip))|(refine ak ?_;(try clear hB KB);(try clear hK K)))
theorem La (p:Plane):aC Sg 174 [ag (fL p)] (fun x=>x = .b (B (decide (p.w=0) && decide (p.h=0) && decide (p.stride=0) && decide (p.s.length=0)))):=by
 refine aA Tryz.func174 [.tmp 2] ?_
 repeat' (first|(refine ai (fun K hK => ?_);and_intros;(all_goals first|(refine hK _ ?_;clear hK K)|exact aa|skip))|(refine ak ?_;(try clear hB KB);(try clear hK K)))
 refine ej ?_
 simp only [Bool.and_eq_true,decide_eq_true_eq,beq_iff_eq]
 omega
theorem Ji (w h s:Int):aC Sg 200 [I w,I h,I s] (fun x=>x = .b (I (IntKind.i64.wrap (IntKind.i64.wrap (IntKind.i64.wrap (h - 1) * s)+w)))):=by
 have ht:True:=trivial
 refine aA Tryz.func200 [.tmp 6] ?_
 repeat' (first|with_reducible exact ca|(refine ai (fun K hK => ?_);and_intros;(all_goals first|(refine hK _ ?_;clear hK K)|exact aa|skip))|(refine ak ?_;(try clear hB KB);(try clear hK K)))
theorem kM (p:Plane):aC Sg 175 [ag (fL p)] (fun r=>r = .b (B (cF p))):=by
 have hf:=Fv p.w p.h
 have hl:=Ji p.w p.h p.stride
 have key:(cl p.w p.h && decide (p.stride≥p.w) && decide (p.stride≤16777216) && decide ((p.s.length:Int)≥IntKind.i64.wrap (IntKind.i64.wrap (IntKind.i64.wrap (p.h - 1) * p.stride)+p.w)))=cF p:=by
  unfold cF
  by_cases h:cl p.w p.h=true∧p.w≤p.stride∧p.stride≤16777216
  ·obtain ⟨h1,h2,h3⟩:=h
   obtain ⟨b1,b2,b3,b4,b5,b6⟩:=di h1
   have e1:0≤(p.h - 1) * p.stride∧(p.h - 1) * p.stride≤16777216 * 16777216:=⟨ar (by omega) (by omega),ay (by omega) (by omega) (by omega) (by omega)⟩
   rw [fq (n:=p.h - 1) (by omega) (by omega),fq (n:=(p.h - 1) * p.stride) (by omega) (by omega),fq (by omega) (by omega)]
  ·have hz:(cl p.w p.h && decide (p.stride≥p.w) && decide (p.stride≤16777216))=false:=by
    rw [← Bool.not_eq_true,Bool.and_eq_true,Bool.and_eq_true,decide_eq_true_eq,decide_eq_true_eq]
    exact fun q=>h ⟨q.1.1,q.1.2,q.2⟩
   rw [hz]
   rfl
 rw [← key]
 refine aA Tryz.func175 [.tmp 2] ?_
 repeat' (first|with_reducible exact ca|((first|refine ai (fun K hK => ?_)|refine ae (hf) ?_|refine aD (fun hg=>hl) ?_);and_intros;(all_goals first|(refine hK _ ?_;clear hK K)|exact aa|skip))|(refine ak ?_;(try clear hB KB);(try clear hK K)))
def jG (p:Plane):Bool:=decide (p.w=0) && decide (p.h=0) && decide (p.stride=0) && decide (p.s.length=0)
theorem mj (p:Plane):aC Sg 174 [ag (fL p)] (fun x=>x = .b (B (jG p))):=La p
theorem pC {p:Plane} (h:((p.w=0∧p.h=0)∧p.stride=0)∧(p.s.length:Int)≤0):jG p=true:=by
 unfold jG
 simp only [Bool.and_eq_true,decide_eq_true_eq]
 omega
theorem oQ {m:Image} {p:Plane} (hs:m.solid=true) (h:¬ aH m p=true):jG p=false:=by
 rw [← Bool.not_eq_true]
 intro q
 unfold jG at q
 simp only [Bool.and_eq_true,decide_eq_true_eq] at q
 exact h ((je hs).2 (by omega))
theorem kV {m:Image} {p:Plane} (hs:m.solid=false) (h:¬ aH m p=true):(!cF p || (p.w != m.w) || (p.h != m.h))=true:=by
 rw [← Bool.not_eq_false]
 intro q
 simp only [Bool.or_eq_false_iff,bne_eq_false_iff_eq,Bool.not_eq_false'] at q
 exact h ((jc hs).2 q)
theorem sO (m:Image):aC Sg 137 [ag (aN m)] (fun r=>r = .b (B (aX m))):=by
 obtain ⟨w,h,solid,color,p0,p1,p2,p3,p4⟩:=m
 have ht:True:=trivial
 have hsz:=zo w h
 have e0:aX ⟨w,h,solid,color,p0,p1,p2,p3,p4⟩=(cl w h && eM ⟨w,h,solid,color,p0,p1,p2,p3,p4⟩):=rfl
 rw [e0]
 cases hF:cl w h
 ·rw [hF] at hsz
  refine aA Tryz.func137 [.tmp 2] ?_
  repeat' (first|refine aj ht ?_|refine an ?_|((first|refine ai (fun K hK => ?_)|refine BD ?_|refine ae (hsz) ?_);and_intros;(all_goals first|(refine hK _ ?_;clear hK K)|exact aa|skip))|(refine ak ?_;(try clear hB KB);(try clear hK K)))
  rfl
 rw [Bool.true_and]
 rw [hF] at hsz
 have v0:=kM p0
 have v1:=kM p1
 have v2:=kM p2
 have v3:=kM p3
 have v4:=kM p4
 have z0:=mj p0
 have z1:=mj p1
 have z2:=mj p2
 have z3:=mj p3
 have z4:=mj p4
 cases solid
 ·skip
  refine aA Tryz.func137 [.tmp 2] ?_
  repeat' (first|refine an ?_|((first|refine ai (fun K hK => ?_)|refine BD ?_|refine ae (hsz) ?_);and_intros;(all_goals first|(refine hK _ ?_;clear hK K)|exact aa|skip))|(refine aW (fun hb => ?_) (fun hb => ?_);all_goals try exact aG)|(refine ak ?_;(try clear hB KB);(try clear hK K)))
  ·refine congrArg (fun v=>SV.b (B v)) (Eq.symm ?_)
   have hc:¬ color=aI:=fun q=>by
    subst q
    revert hb
    simp [aI]
   unfold eM
   rw [decide_eq_false hc,Bool.or_false,Bool.and_false]
  have hc:color=aI:=by
   obtain ⟨c0,c1,c2,a,f⟩:=color
   obtain ⟨⟨q0,q1,q2,_⟩,q3,q4,_⟩:=hb.2 trivial
   simp only [aI,Pixel.mk.injEq]
   exact ⟨q0,q1,q2,q3,q4⟩
  subst hc
  clear hb
  refine aO (X:=Int) (fun k=>aQ [(1, .b (.c (.ptr 0 0))),(23, .b (ag [PI p0.w,PI p0.h,PI p0.stride,jW p0.s,PI p1.w,PI p1.h,PI p1.stride,jW p1.s,PI p2.w,PI p2.h,PI p2.stride,jW p2.s,PI p3.w,PI p3.h,PI p3.stride,jW p3.s,PI p4.w,PI p4.h,PI p4.stride,jW p4.s])),(24, .b (I k))] [(0, .fix ((aN ⟨w,h,false,aI,p0,p1,p2,p3,p4⟩).map CV.p))] 1)
   (fun k=>0≤k∧k≤5∧(0<k→aH ⟨w,h,false,aI,p0,p1,p2,p3,p4⟩ p0=true)∧(1<k→aH ⟨w,h,false,aI,p0,p1,p2,p3,p4⟩ p1=true)∧(2<k→aH ⟨w,h,false,aI,p0,p1,p2,p3,p4⟩ p2=true)∧(3<k→aH ⟨w,h,false,aI,p0,p1,p2,p3,p4⟩ p3=true)∧(4<k→aH ⟨w,h,false,aI,p0,p1,p2,p3,p4⟩ p4=true)) (fun k=>(5 - k).toNat) 0 ?_ ?_ ?_
  ·exact ⟨by omega,by omega,fun q=>absurd q (by omega),fun q=>absurd q (by omega),fun q=>absurd q (by omega),fun q=>absurd q (by omega),fun q=>absurd q (by omega)⟩
  ·refine az [(1,some 1)] ?_ ?_
   and_intros
   all_goals first|exact ao|skip
  ·rintro k ⟨k0,k1,i0,i1,i2,i3,i4⟩
   have hkv:k=0∨k=1∨k=2∨k=3∨k=4∨k=5:=by omega
   rcases hkv with rfl|rfl|rfl|rfl|rfl|rfl
   ·by_cases hp:aH ⟨w,h,false,aI,p0,p1,p2,p3,p4⟩ p0=true
    ·have hq:=(jc rfl).1 hp
     obtain ⟨g1,g2,g3⟩:cF p0=true∧(p0.w != w)=false∧(p0.h != h)=false:=⟨hq.1.1,by rw [bne_eq_false_iff_eq];exact hq.1.2,by rw [bne_eq_false_iff_eq];exact hq.2⟩
     repeat' (first|refine aj (And.intro ht (And.intro g1 (And.intro g2 g3))) ?_|refine an ?_|((first|refine ai (fun K hK => ?_)|refine aD (fun hg=>v0) ?_|refine aD (fun hg=>z0) ?_);and_intros;(all_goals first|(refine hK _ ?_;clear hK K)|exact aa|skip)))
     rw [ah]
     refine aw 1 ?_ ⟨by omega,by omega,fun _=>hp,fun q=>absurd q (by omega),fun q=>absurd q (by omega),fun q=>absurd q (by omega),fun q=>absurd q (by omega)⟩ (by decide)
     refine az [(1,some 1)] ?_ ?_
     and_intros
     all_goals first|exact ao|skip
    ·have g1:(!cF p0 || (p0.w != w) || (p0.h != h))=true:=kV (m:=⟨w,h,false,aI,p0,p1,p2,p3,p4⟩) rfl hp
     repeat' (first|refine aj (And.intro ht g1) ?_|refine an ?_|((first|refine ai (fun K hK => ?_)|refine aD (fun hg=>v0) ?_|refine aD (fun hg=>z0) ?_);and_intros;(all_goals first|(refine hK _ ?_;clear hK K)|exact aa|skip))|(refine ak ?_;(try clear hB KB);(try clear hK K)))
     refine congrArg (fun v=>SV.b (B v)) (Eq.symm ?_)
     exact bE (m:=⟨w,h,false,aI,p0,p1,p2,p3,p4⟩) (p:=p0) (by simp) hp
   ·by_cases hp:aH ⟨w,h,false,aI,p0,p1,p2,p3,p4⟩ p1=true
    ·have hq:=(jc rfl).1 hp
     obtain ⟨g1,g2,g3⟩:cF p1=true∧(p1.w != w)=false∧(p1.h != h)=false:=⟨hq.1.1,by rw [bne_eq_false_iff_eq];exact hq.1.2,by rw [bne_eq_false_iff_eq];exact hq.2⟩
     repeat' (first|refine aj (And.intro ht (And.intro g1 (And.intro g2 g3))) ?_|refine an ?_|((first|refine ai (fun K hK => ?_)|refine aD (fun hg=>v1) ?_|refine aD (fun hg=>z1) ?_);and_intros;(all_goals first|(refine hK _ ?_;clear hK K)|exact aa|skip)))
     rw [ah]
     refine aw 2 ?_ ⟨by omega,by omega,fun _=>i0 (by omega),fun _=>hp,fun q=>absurd q (by omega),fun q=>absurd q (by omega),fun q=>absurd q (by omega)⟩ (by decide)
     refine az [(1,some 1)] ?_ ?_
     and_intros
     all_goals first|exact ao|skip
    ·have g1:(!cF p1 || (p1.w != w) || (p1.h != h))=true:=kV (m:=⟨w,h,false,aI,p0,p1,p2,p3,p4⟩) rfl hp
     repeat' (first|refine aj (And.intro ht g1) ?_|refine an ?_|((first|refine ai (fun K hK => ?_)|refine aD (fun hg=>v1) ?_|refine aD (fun hg=>z1) ?_);and_intros;(all_goals first|(refine hK _ ?_;clear hK K)|exact aa|skip))|(refine ak ?_;(try clear hB KB);(try clear hK K)))
     refine congrArg (fun v=>SV.b (B v)) (Eq.symm ?_)
     exact bE (m:=⟨w,h,false,aI,p0,p1,p2,p3,p4⟩) (p:=p1) (by simp) hp
   ·by_cases hp:aH ⟨w,h,false,aI,p0,p1,p2,p3,p4⟩ p2=true
    ·have hq:=(jc rfl).1 hp
     obtain ⟨g1,g2,g3⟩:cF p2=true∧(p2.w != w)=false∧(p2.h != h)=false:=⟨hq.1.1,by rw [bne_eq_false_iff_eq];exact hq.1.2,by rw [bne_eq_false_iff_eq];exact hq.2⟩
     repeat' (first|refine aj (And.intro ht (And.intro g1 (And.intro g2 g3))) ?_|refine an ?_|((first|refine ai (fun K hK => ?_)|refine aD (fun hg=>v2) ?_|refine aD (fun hg=>z2) ?_);and_intros;(all_goals first|(refine hK _ ?_;clear hK K)|exact aa|skip)))
     rw [ah]
     refine aw 3 ?_ ⟨by omega,by omega,fun _=>i0 (by omega),fun _=>i1 (by omega),fun _=>hp,fun q=>absurd q (by omega),fun q=>absurd q (by omega)⟩ (by decide)
     refine az [(1,some 1)] ?_ ?_
     and_intros
     all_goals first|exact ao|skip
    ·have g1:(!cF p2 || (p2.w != w) || (p2.h != h))=true:=kV (m:=⟨w,h,false,aI,p0,p1,p2,p3,p4⟩) rfl hp
     repeat' (first|refine aj (And.intro ht g1) ?_|refine an ?_|((first|refine ai (fun K hK => ?_)|refine aD (fun hg=>v2) ?_|refine aD (fun hg=>z2) ?_);and_intros;(all_goals first|(refine hK _ ?_;clear hK K)|exact aa|skip))|(refine ak ?_;(try clear hB KB);(try clear hK K)))
     refine congrArg (fun v=>SV.b (B v)) (Eq.symm ?_)
     exact bE (m:=⟨w,h,false,aI,p0,p1,p2,p3,p4⟩) (p:=p2) (by simp) hp
   ·by_cases hp:aH ⟨w,h,false,aI,p0,p1,p2,p3,p4⟩ p3=true
    ·have hq:=(jc rfl).1 hp
     obtain ⟨g1,g2,g3⟩:cF p3=true∧(p3.w != w)=false∧(p3.h != h)=false:=⟨hq.1.1,by rw [bne_eq_false_iff_eq];exact hq.1.2,by rw [bne_eq_false_iff_eq];exact hq.2⟩
     repeat' (first|refine aj (And.intro ht (And.intro g1 (And.intro g2 g3))) ?_|refine an ?_|((first|refine ai (fun K hK => ?_)|refine aD (fun hg=>v3) ?_|refine aD (fun hg=>z3) ?_);and_intros;(all_goals first|(refine hK _ ?_;clear hK K)|exact aa|skip)))
     rw [ah]
     refine aw 4 ?_ ⟨by omega,by omega,fun _=>i0 (by omega),fun _=>i1 (by omega),fun _=>i2 (by omega),fun _=>hp,fun q=>absurd q (by omega)⟩ (by decide)
     refine az [(1,some 1)] ?_ ?_
     and_intros
     all_goals first|exact ao|skip
    ·have g1:(!cF p3 || (p3.w != w) || (p3.h != h))=true:=kV (m:=⟨w,h,false,aI,p0,p1,p2,p3,p4⟩) rfl hp
     repeat' (first|refine aj (And.intro ht g1) ?_|refine an ?_|((first|refine ai (fun K hK => ?_)|refine aD (fun hg=>v3) ?_|refine aD (fun hg=>z3) ?_);and_intros;(all_goals first|(refine hK _ ?_;clear hK K)|exact aa|skip))|(refine ak ?_;(try clear hB KB);(try clear hK K)))
     refine congrArg (fun v=>SV.b (B v)) (Eq.symm ?_)
     exact bE (m:=⟨w,h,false,aI,p0,p1,p2,p3,p4⟩) (p:=p3) (by simp) hp
   ·by_cases hp:aH ⟨w,h,false,aI,p0,p1,p2,p3,p4⟩ p4=true
    ·have hq:=(jc rfl).1 hp
     obtain ⟨g1,g2,g3⟩:cF p4=true∧(p4.w != w)=false∧(p4.h != h)=false:=⟨hq.1.1,by rw [bne_eq_false_iff_eq];exact hq.1.2,by rw [bne_eq_false_iff_eq];exact hq.2⟩
     repeat' (first|refine aj (And.intro ht (And.intro g1 (And.intro g2 g3))) ?_|refine an ?_|((first|refine ai (fun K hK => ?_)|refine aD (fun hg=>v4) ?_|refine aD (fun hg=>z4) ?_);and_intros;(all_goals first|(refine hK _ ?_;clear hK K)|exact aa|skip)))
     rw [ah]
     refine aw 5 ?_ ⟨by omega,by omega,fun _=>i0 (by omega),fun _=>i1 (by omega),fun _=>i2 (by omega),fun _=>i3 (by omega),fun _=>hp⟩ (by decide)
     refine az [(1,some 1)] ?_ ?_
     and_intros
     all_goals first|exact ao|skip
    ·have g1:(!cF p4 || (p4.w != w) || (p4.h != h))=true:=kV (m:=⟨w,h,false,aI,p0,p1,p2,p3,p4⟩) rfl hp
     repeat' (first|refine aj (And.intro ht g1) ?_|refine an ?_|((first|refine ai (fun K hK => ?_)|refine aD (fun hg=>v4) ?_|refine aD (fun hg=>z4) ?_);and_intros;(all_goals first|(refine hK _ ?_;clear hK K)|exact aa|skip))|(refine ak ?_;(try clear hB KB);(try clear hK K)))
     refine congrArg (fun v=>SV.b (B v)) (Eq.symm ?_)
     exact bE (m:=⟨w,h,false,aI,p0,p1,p2,p3,p4⟩) (p:=p4) (by simp) hp
   ·repeat' (first|refine aj ht ?_|refine an ?_|(refine ai (fun K hK => ?_);and_intros;(all_goals first|(refine hK _ ?_;clear hK K)|exact aa|skip))|(refine ak ?_;(try clear hB KB);(try clear hK K)))
    refine congrArg (fun v=>SV.b (B v)) (Eq.symm ?_)
    show eM ⟨w,h,false,aI,p0,p1,p2,p3,p4⟩=true
    unfold eM
    dsimp only
    rw [i0 (by omega),i1 (by omega),i2 (by omega),i3 (by omega),i4 (by omega)]
    simp
 ·refine aA Tryz.func137 [.tmp 2] ?_
  repeat' (first|refine aj ht ?_|refine an ?_|((first|refine ai (fun K hK => ?_)|refine BD ?_|refine ae (hsz) ?_);and_intros;(all_goals first|(refine hK _ ?_;clear hK K)|exact aa|skip)))
  refine aO (X:=Int) (fun k=>aQ [(1, .b (.c (.ptr 0 0))),(23, .b (ag [PI p0.w,PI p0.h,PI p0.stride,jW p0.s,PI p1.w,PI p1.h,PI p1.stride,jW p1.s,PI p2.w,PI p2.h,PI p2.stride,jW p2.s,PI p3.w,PI p3.h,PI p3.stride,jW p3.s,PI p4.w,PI p4.h,PI p4.stride,jW p4.s])),(24, .b (I k))] [(0, .fix ((aN ⟨w,h,true,color,p0,p1,p2,p3,p4⟩).map CV.p))] 1)
   (fun k=>0≤k∧k≤5∧(0<k→aH ⟨w,h,true,color,p0,p1,p2,p3,p4⟩ p0=true)∧(1<k→aH ⟨w,h,true,color,p0,p1,p2,p3,p4⟩ p1=true)∧(2<k→aH ⟨w,h,true,color,p0,p1,p2,p3,p4⟩ p2=true)∧(3<k→aH ⟨w,h,true,color,p0,p1,p2,p3,p4⟩ p3=true)∧(4<k→aH ⟨w,h,true,color,p0,p1,p2,p3,p4⟩ p4=true)) (fun k=>(5 - k).toNat) 0 ?_ ?_ ?_
  ·exact ⟨by omega,by omega,fun q=>absurd q (by omega),fun q=>absurd q (by omega),fun q=>absurd q (by omega),fun q=>absurd q (by omega),fun q=>absurd q (by omega)⟩
  ·refine az [(1,some 1)] ?_ ?_
   and_intros
   all_goals first|exact ao|skip
  ·rintro k ⟨k0,k1,i0,i1,i2,i3,i4⟩
   have hkv:k=0∨k=1∨k=2∨k=3∨k=4∨k=5:=by omega
   rcases hkv with rfl|rfl|rfl|rfl|rfl|rfl
   ·by_cases hp:aH ⟨w,h,true,color,p0,p1,p2,p3,p4⟩ p0=true
    ·have hq:=(je rfl).1 hp
     obtain ⟨g1,g2,g3⟩:jG p0=true∧True∧True:=⟨pC hq,trivial,trivial⟩
     repeat' (first|refine aj (And.intro ht (And.intro g1 (And.intro g2 g3))) ?_|refine an ?_|((first|refine ai (fun K hK => ?_)|refine aD (fun hg=>v0) ?_|refine aD (fun hg=>z0) ?_);and_intros;(all_goals first|(refine hK _ ?_;clear hK K)|exact aa|skip)))
     rw [ah]
     refine aw 1 ?_ ⟨by omega,by omega,fun _=>hp,fun q=>absurd q (by omega),fun q=>absurd q (by omega),fun q=>absurd q (by omega),fun q=>absurd q (by omega)⟩ (by decide)
     refine az [(1,some 1)] ?_ ?_
     and_intros
     all_goals first|exact ao|skip
    ·have g1:(!jG p0)=true:=by rw [oQ (m:=⟨w,h,true,color,p0,p1,p2,p3,p4⟩) rfl hp];rfl
     repeat' (first|refine aj (And.intro ht g1) ?_|refine an ?_|((first|refine ai (fun K hK => ?_)|refine aD (fun hg=>v0) ?_|refine aD (fun hg=>z0) ?_);and_intros;(all_goals first|(refine hK _ ?_;clear hK K)|exact aa|skip))|(refine ak ?_;(try clear hB KB);(try clear hK K)))
     refine congrArg (fun v=>SV.b (B v)) (Eq.symm ?_)
     exact bE (m:=⟨w,h,true,color,p0,p1,p2,p3,p4⟩) (p:=p0) (by simp) hp
   ·by_cases hp:aH ⟨w,h,true,color,p0,p1,p2,p3,p4⟩ p1=true
    ·have hq:=(je rfl).1 hp
     obtain ⟨g1,g2,g3⟩:jG p1=true∧True∧True:=⟨pC hq,trivial,trivial⟩
     repeat' (first|refine aj (And.intro ht (And.intro g1 (And.intro g2 g3))) ?_|refine an ?_|((first|refine ai (fun K hK => ?_)|refine aD (fun hg=>v1) ?_|refine aD (fun hg=>z1) ?_);and_intros;(all_goals first|(refine hK _ ?_;clear hK K)|exact aa|skip)))
     rw [ah]
     refine aw 2 ?_ ⟨by omega,by omega,fun _=>i0 (by omega),fun _=>hp,fun q=>absurd q (by omega),fun q=>absurd q (by omega),fun q=>absurd q (by omega)⟩ (by decide)
     refine az [(1,some 1)] ?_ ?_
     and_intros
     all_goals first|exact ao|skip
    ·have g1:(!jG p1)=true:=by rw [oQ (m:=⟨w,h,true,color,p0,p1,p2,p3,p4⟩) rfl hp];rfl
     repeat' (first|refine aj (And.intro ht g1) ?_|refine an ?_|((first|refine ai (fun K hK => ?_)|refine aD (fun hg=>v1) ?_|refine aD (fun hg=>z1) ?_);and_intros;(all_goals first|(refine hK _ ?_;clear hK K)|exact aa|skip))|(refine ak ?_;(try clear hB KB);(try clear hK K)))
     refine congrArg (fun v=>SV.b (B v)) (Eq.symm ?_)
     exact bE (m:=⟨w,h,true,color,p0,p1,p2,p3,p4⟩) (p:=p1) (by simp) hp
   ·by_cases hp:aH ⟨w,h,true,color,p0,p1,p2,p3,p4⟩ p2=true
    ·have hq:=(je rfl).1 hp
     obtain ⟨g1,g2,g3⟩:jG p2=true∧True∧True:=⟨pC hq,trivial,trivial⟩
     repeat' (first|refine aj (And.intro ht (And.intro g1 (And.intro g2 g3))) ?_|refine an ?_|((first|refine ai (fun K hK => ?_)|refine aD (fun hg=>v2) ?_|refine aD (fun hg=>z2) ?_);and_intros;(all_goals first|(refine hK _ ?_;clear hK K)|exact aa|skip)))
     rw [ah]
     refine aw 3 ?_ ⟨by omega,by omega,fun _=>i0 (by omega),fun _=>i1 (by omega),fun _=>hp,fun q=>absurd q (by omega),fun q=>absurd q (by omega)⟩ (by decide)
     refine az [(1,some 1)] ?_ ?_
     and_intros
     all_goals first|exact ao|skip
    ·have g1:(!jG p2)=true:=by rw [oQ (m:=⟨w,h,true,color,p0,p1,p2,p3,p4⟩) rfl hp];rfl
     repeat' (first|refine aj (And.intro ht g1) ?_|refine an ?_|((first|refine ai (fun K hK => ?_)|refine aD (fun hg=>v2) ?_|refine aD (fun hg=>z2) ?_);and_intros;(all_goals first|(refine hK _ ?_;clear hK K)|exact aa|skip))|(refine ak ?_;(try clear hB KB);(try clear hK K)))
     refine congrArg (fun v=>SV.b (B v)) (Eq.symm ?_)
     exact bE (m:=⟨w,h,true,color,p0,p1,p2,p3,p4⟩) (p:=p2) (by simp) hp
   ·by_cases hp:aH ⟨w,h,true,color,p0,p1,p2,p3,p4⟩ p3=true
    ·have hq:=(je rfl).1 hp
     obtain ⟨g1,g2,g3⟩:jG p3=true∧True∧True:=⟨pC hq,trivial,trivial⟩
     repeat' (first|refine aj (And.intro ht (And.intro g1 (And.intro g2 g3))) ?_|refine an ?_|((first|refine ai (fun K hK => ?_)|refine aD (fun hg=>v3) ?_|refine aD (fun hg=>z3) ?_);and_intros;(all_goals first|(refine hK _ ?_;clear hK K)|exact aa|skip)))
     rw [ah]
     refine aw 4 ?_ ⟨by omega,by omega,fun _=>i0 (by omega),fun _=>i1 (by omega),fun _=>i2 (by omega),fun _=>hp,fun q=>absurd q (by omega)⟩ (by decide)
     refine az [(1,some 1)] ?_ ?_
     and_intros
     all_goals first|exact ao|skip
    ·have g1:(!jG p3)=true:=by rw [oQ (m:=⟨w,h,true,color,p0,p1,p2,p3,p4⟩) rfl hp];rfl
     repeat' (first|refine aj (And.intro ht g1) ?_|refine an ?_|((first|refine ai (fun K hK => ?_)|refine aD (fun hg=>v3) ?_|refine aD (fun hg=>z3) ?_);and_intros;(all_goals first|(refine hK _ ?_;clear hK K)|exact aa|skip))|(refine ak ?_;(try clear hB KB);(try clear hK K)))
     refine congrArg (fun v=>SV.b (B v)) (Eq.symm ?_)
     exact bE (m:=⟨w,h,true,color,p0,p1,p2,p3,p4⟩) (p:=p3) (by simp) hp
   ·by_cases hp:aH ⟨w,h,true,color,p0,p1,p2,p3,p4⟩ p4=true
    ·have hq:=(je rfl).1 hp
     obtain ⟨g1,g2,g3⟩:jG p4=true∧True∧True:=⟨pC hq,trivial,trivial⟩
     repeat' (first|refine aj (And.intro ht (And.intro g1 (And.intro g2 g3))) ?_|refine an ?_|((first|refine ai (fun K hK => ?_)|refine aD (fun hg=>v4) ?_|refine aD (fun hg=>z4) ?_);and_intros;(all_goals first|(refine hK _ ?_;clear hK K)|exact aa|skip)))
     rw [ah]
     refine aw 5 ?_ ⟨by omega,by omega,fun _=>i0 (by omega),fun _=>i1 (by omega),fun _=>i2 (by omega),fun _=>i3 (by omega),fun _=>hp⟩ (by decide)
     refine az [(1,some 1)] ?_ ?_
     and_intros
     all_goals first|exact ao|skip
    ·have g1:(!jG p4)=true:=by rw [oQ (m:=⟨w,h,true,color,p0,p1,p2,p3,p4⟩) rfl hp];rfl
     repeat' (first|refine aj (And.intro ht g1) ?_|refine an ?_|((first|refine ai (fun K hK => ?_)|refine aD (fun hg=>v4) ?_|refine aD (fun hg=>z4) ?_);and_intros;(all_goals first|(refine hK _ ?_;clear hK K)|exact aa|skip))|(refine ak ?_;(try clear hB KB);(try clear hK K)))
     refine congrArg (fun v=>SV.b (B v)) (Eq.symm ?_)
     exact bE (m:=⟨w,h,true,color,p0,p1,p2,p3,p4⟩) (p:=p4) (by simp) hp
   ·repeat' (first|refine aj ht ?_|refine an ?_|(refine ai (fun K hK => ?_);and_intros;(all_goals first|(refine hK _ ?_;clear hK K)|exact aa|skip))|(refine ak ?_;(try clear hB KB);(try clear hK K)))
    refine congrArg (fun v=>SV.b (B v)) (Eq.symm ?_)
    show eM ⟨w,h,true,color,p0,p1,p2,p3,p4⟩=true
    unfold eM
    dsimp only
    rw [i0 (by omega),i1 (by omega),i2 (by omega),i3 (by omega),i4 (by omega)]
    rfl
end Go.Proofs.YtmfblbbemekkoaaGreatDoor
set_option maxHeartbeats 4000000
set_option maxRecDepth 16000
namespace Go.Proofs.YtmfblbbemekkoaaGreatDoor
open Go Go.SL
open Go.RowKit (wrap64)
theorem wj (m:Image) (x y:Int) (hf:aX m=true) (hx:0≤x) (hxm:x<m.w) (hy:0≤y) (hym:y<m.h):aC Sg 138 [ag (aN m),I x,I y] (fun r=>r = .b (ag (aF (eX m x y)))):=by
 unfold eX
 by_cases hs:m.solid=true
 ·rw [if_pos hs]
  refine aA Tryz.func138 [.cell 6 41] ?_
  repeat' (first|refine aj hs ?_|refine an ?_|(refine ai (fun K hK => ?_);and_intros;(all_goals first|(refine hK _ ?_;clear hK K)|exact aa|skip))|(refine ak ?_;(try clear hB KB);(try clear hK K)))
  rfl
 ·rw [if_neg hs]
  have hs':m.solid=false:=by simpa using hs
  unfold aX at hf
  simp only [Bool.and_eq_true] at hf
  obtain ⟨_,⟨⟨⟨⟨⟨f0,f1⟩,f2⟩,f3⟩,f4⟩,_⟩⟩:=hf
  obtain ⟨a0,b0,c0,d0⟩:=fP hs' f0 hx hxm hy hym
  obtain ⟨a1,b1,c1,_⟩:=fP hs' f1 hx hxm hy hym
  obtain ⟨a2,b2,c2,_⟩:=fP hs' f2 hx hxm hy hym
  obtain ⟨a3,b3,c3,_⟩:=fP hs' f3 hx hxm hy hym
  obtain ⟨a4,b4,c4,_⟩:=fP hs' f4 hx hxm hy hym
  refine aA Tryz.func138 [.cell 6 41] ?_
  repeat' (first|(apply nV;(case hc=>exact eH);(case ht=>(simp only [Int.toNat_natCast,Int.reduceBEq,Int.reduceBNe,Int.reduceLT,Int.reduceLE,decide_true,decide_false,yz,hs'];done)))|refine an ?_|(refine ai (fun K hK => ?_);and_intros;(all_goals first|(refine hK _ ?_;clear hK K)|exact aa|skip)))
  refine aO (X:=Int) (fun k=>aQ [(1, .b (I x)),(2, .b (I y)),(3, .b (.c (.ptr 0 0))),(6, .b (.c (.ptr 1 0))),(7, .b (.c (.ptr 2 0))),(15, .b (ag [PI m.p0.w,PI m.p0.h,PI m.p0.stride,jW m.p0.s,PI m.p1.w,PI m.p1.h,PI m.p1.stride,jW m.p1.s,PI m.p2.w,PI m.p2.h,PI m.p2.stride,jW m.p2.s,PI m.p3.w,PI m.p3.h,PI m.p3.stride,jW m.p3.s,PI m.p4.w,PI m.p4.h,PI m.p4.stride,jW m.p4.s])),(16, .b (I k))]
   [(0, .fix ((aN m).map CV.p)),(1, .fix ((aF aI).map CV.p)),(2, .fix [.p (PU (if 0<k then m.p0.s.getD (y * m.p0.stride+x).toNat 0 else 0)), .p (PU (if 1<k then m.p1.s.getD (y * m.p1.stride+x).toNat 0 else 0)), .p (PU (if 2<k then m.p2.s.getD (y * m.p2.stride+x).toNat 0 else 0)), .p (PU (if 3<k then m.p3.s.getD (y * m.p3.stride+x).toNat 0 else 0)), .p (PU (if 4<k then m.p4.s.getD (y * m.p4.stride+x).toNat 0 else 0))])] 3) (fun k=>0≤k∧k≤5) (fun k=>(5 - k).toNat) 0 ?_ ?_ ?_
  ·omega
  ·refine az [(1,some 1),(2,some 2)] ?_ ?_
   and_intros
   all_goals first|exact ao|skip
  ·intro k hk
   have hkv:k=0∨k=1∨k=2∨k=3∨k=4∨k=5:=by omega
   rcases hkv with rfl|rfl|rfl|rfl|rfl|rfl
   ·repeat' (first|(apply jV;(case hc=>exact eH);(case ht=>(simp only [Int.toNat_natCast,Int.reduceBEq,Int.reduceBNe,Int.reduceLT,Int.reduceLE,decide_true,decide_false,yz,hs'];done)))|refine an ?_|(refine ai (fun K hK => ?_);and_intros;(all_goals first|(refine hK _ ?_;clear hK K)|exact aa|skip)))
    rw [ah]
    refine aw 1 ?_ (by omega) (by decide)
    refine az [(1,some 1),(2,some 2)] ?_ ?_
    and_intros
    all_goals first|exact ao|skip
   ·repeat' (first|(apply jV;(case hc=>exact eH);(case ht=>(simp only [Int.toNat_natCast,Int.reduceBEq,Int.reduceBNe,Int.reduceLT,Int.reduceLE,decide_true,decide_false,yz,hs'];done)))|refine an ?_|(refine ai (fun K hK => ?_);and_intros;(all_goals first|(refine hK _ ?_;clear hK K)|exact aa|skip)))
    rw [ah]
    refine aw 2 ?_ (by omega) (by decide)
    refine az [(1,some 1),(2,some 2)] ?_ ?_
    and_intros
    all_goals first|exact ao|skip
   ·repeat' (first|(apply jV;(case hc=>exact eH);(case ht=>(simp only [Int.toNat_natCast,Int.reduceBEq,Int.reduceBNe,Int.reduceLT,Int.reduceLE,decide_true,decide_false,yz,hs'];done)))|refine an ?_|(refine ai (fun K hK => ?_);and_intros;(all_goals first|(refine hK _ ?_;clear hK K)|exact aa|skip)))
    rw [ah]
    refine aw 3 ?_ (by omega) (by decide)
    refine az [(1,some 1),(2,some 2)] ?_ ?_
    and_intros
    all_goals first|exact ao|skip
   ·repeat' (first|(apply jV;(case hc=>exact eH);(case ht=>(simp only [Int.toNat_natCast,Int.reduceBEq,Int.reduceBNe,Int.reduceLT,Int.reduceLE,decide_true,decide_false,yz,hs'];done)))|refine an ?_|(refine ai (fun K hK => ?_);and_intros;(all_goals first|(refine hK _ ?_;clear hK K)|exact aa|skip)))
    rw [ah]
    refine aw 4 ?_ (by omega) (by decide)
    refine az [(1,some 1),(2,some 2)] ?_ ?_
    and_intros
    all_goals first|exact ao|skip
   ·repeat' (first|(apply jV;(case hc=>exact eH);(case ht=>(simp only [Int.toNat_natCast,Int.reduceBEq,Int.reduceBNe,Int.reduceLT,Int.reduceLE,decide_true,decide_false,yz,hs'];done)))|refine an ?_|(refine ai (fun K hK => ?_);and_intros;(all_goals first|(refine hK _ ?_;clear hK K)|exact aa|skip)))
    rw [ah]
    refine aw 5 ?_ (by omega) (by decide)
    refine az [(1,some 1),(2,some 2)] ?_ ?_
    and_intros
    all_goals first|exact ao|skip
   ·repeat' (first|(apply nV;(case hc=>exact eH);(case ht=>(simp only [Int.toNat_natCast,Int.reduceBEq,Int.reduceBNe,Int.reduceLT,Int.reduceLE,decide_true,decide_false,yz,hs'];done)))|refine an ?_|(refine ai (fun K hK => ?_);and_intros;(all_goals first|(refine hK _ ?_;clear hK K)|exact aa|skip))|(refine ak ?_;(try clear hB KB);(try clear hK K)))
    rfl
theorem MW (m:Image) (x y:Int):aC Sg 90 [ag (aN m),I x,I y] (fun r=>r = .b (ag (aF (eI m x y)))):=by
 have hF:=sO m
 unfold eI
 by_cases h:aX m=false∨x<0∨m.w≤x∨y<0∨m.h≤y
 ·rw [if_pos h]
  have g:(!aX m || decide (x<0) || decide (x≥m.w) || decide (y<0) || decide (y≥m.h))=true:=by
   simp only [Bool.or_eq_true,Bool.not_eq_true',decide_eq_true_eq]
   rcases h with h|h|h|h|h
   ·exact .inl (.inl (.inl (.inl h)))
   ·exact .inl (.inl (.inl (.inr h)))
   ·exact .inl (.inl (.inr h))
   ·exact .inl (.inr h)
   ·exact .inr h
  refine aA Tryz.func90 [.cell 6 41] ?_
  repeat' (first|refine aj g ?_|refine an ?_|((first|refine ai (fun K hK => ?_)|refine ae (hF) ?_);and_intros;(all_goals first|(refine hK _ ?_;clear hK K)|exact aa|skip))|(refine ak ?_;(try clear hB KB);(try clear hK K)))
  rfl
 ·rw [if_neg h]
  have hf:aX m=true:=by
   rw [← Bool.not_eq_false];exact fun q=>h (.inl q)
  have hp:=wj m x y hf (by omega) (by omega) (by omega) (by omega)
  rw [hf] at hF
  have g1:decide (x<0)=false:=decide_eq_false (by omega)
  have g2:decide (x≥m.w)=false:=decide_eq_false (by omega)
  have g3:decide (y<0)=false:=decide_eq_false (by omega)
  have g4:decide (y≥m.h)=false:=decide_eq_false (by omega)
  generalize eX m x y=p at *
  refine aA Tryz.func90 [.cell 6 41] ?_
  repeat' (first|refine aj (And.intro g1 (And.intro g2 (And.intro g3 g4))) ?_|refine an ?_|((first|refine ai (fun K hK => ?_)|refine ae (hF) ?_|refine ae (hp) ?_);and_intros;(all_goals first|(refine hK _ ?_;clear hK K)|exact aa|skip))|(refine ak ?_;(try clear hB KB);(try clear hK K)))
  rfl
theorem oc (m:Image):aC Sg 161 [ag (aN m)] (fun r=>r = .b (I (if cl m.w m.h=false then 6 else if aX m=false then 7 else 0))):=by
 have h1:=zo m.w m.h
 have h2:=sO m
 have ht:True:=trivial
 cases hf:cl m.w m.h
 ·rw [hf] at h1
  rw [if_pos rfl]
  refine aA Tryz.func161 [.tmp 2] ?_
  repeat' (first|with_reducible exact ca|refine aj ht ?_|refine an ?_|((first|refine ai (fun K hK => ?_)|refine ae (h1) ?_);and_intros;(all_goals first|(refine hK _ ?_;clear hK K)|exact aa|skip))|(refine ak ?_;(try clear hB KB);(try clear hK K)))
 ·rw [hf] at h1
  rw [if_neg (by decide)]
  cases hg:aX m
  ·rw [hg] at h2
   rw [if_pos rfl]
   refine aA Tryz.func161 [.tmp 2] ?_
   repeat' (first|with_reducible exact ca|refine aj ht ?_|refine an ?_|((first|refine ai (fun K hK => ?_)|refine ae (h1) ?_|refine ae (h2) ?_);and_intros;(all_goals first|(refine hK _ ?_;clear hK K)|exact aa|skip))|(refine ak ?_;(try clear hB KB);(try clear hK K)))
  ·rw [hg] at h2
   rw [if_neg (by decide)]
   refine aA Tryz.func161 [.tmp 2] ?_
   repeat' (first|with_reducible exact ca|refine aj ht ?_|refine an ?_|((first|refine ai (fun K hK => ?_)|refine ae (h1) ?_|refine ae (h2) ?_);and_intros;(all_goals first|(refine hK _ ?_;clear hK K)|exact aa|skip))|(refine ak ?_;(try clear hB KB);(try clear hK K)))
end Go.Proofs.YtmfblbbemekkoaaGreatDoor
set_option maxRecDepth 8000
set_option maxHeartbeats 2000000
namespace Go.Proofs.YtmfblbbemekkoaaGreatDoor
open Go Go.SL
open Go.RowKit (wrap64)
attribute [local go_sem] Int.toNat_natCast
theorem Jr {r:Nat→Option Nat} {bx bx':Nat→Option Bx} {f f':Nat} {ps ps':List (Nat × Nat)}:yO r bx bx' (.clo f ps) (.clo f' ps')=(f=f'∧ps.map (·.2)=ps'.map (·.2)∧ps'.map (fun p=>r p.1)=ps.map (fun p=>some p.1)):=rfl
attribute [local go_sem] Jr
end Go.Proofs.YtmfblbbemekkoaaGreatDoor
