/- Part of the proof: WN, P1, PN, D8. -/
import Derived.Test.YtmfblbbemekkoaaGreatDoorK22
import Derived.Test.YtmfblbbemekkoaaGreatDoorK23
set_option linter.unusedSimpArgs false
set_option linter.unusedVariables false
set_option maxHeartbeats 4000000
set_option maxRecDepth 16000
namespace Go.Proofs.YtmfblbbemekkoaaGreatDoor
open Go Go.SL
open Go.RowKit (wrap64)
attribute [local go_sem] dI
theorem uv (x:Acc) (b:Pixel) (m:Int) (hm:Full m) (h:AccV x b m):aD Sg 149 [ag (dI x),ag (aH b),U m] (fun r=>r = .b (B true)):=by
 have hvs:=gG b m
 rw [lx h.bk] at hvs
 have d0:decide (x.c0>x.a)=false:=decide_eq_false (by have:=h.l0;omega)
 have d1:decide (x.c1>x.a)=false:=decide_eq_false (by have:=h.l1;omega)
 have d2:decide (x.c2>x.a)=false:=decide_eq_false (by have:=h.l2;omega)
 have e0:(m == 255 || m == 65535)=true:=by rcases hm.h with q|q <;> rw [q] <;> rfl
 have e1:decide (x.own≤x.a)=true:=decide_eq_true h.oa
 have e2:decide (x.own≤x.f)=true:=decide_eq_true h.of
 have e3:decide (x.a≤m)=true:=decide_eq_true h.am
 have e4:decide (x.f≤m)=true:=decide_eq_true h.fm
 have e5:(b.f == b.a)=true:=beq_iff_eq.2 h.bf
 have ht:True:=trivial
 refine aC Tryz.func149 [.tmp 6] ?_
 repeat' (first|refine ak ?_|(refine ai (fun K hK => ?_);and_intros;all_goals first|(refine hK _ ?_;clear hK K)|try exact aa))
 refine aS (X:=Int) (fun i=>aZ [(2, .b (U m)),(3, .b (.c (.ptr 0 0))),(4, .b (.c (.ptr 1 0))),(10, .b (ag [PU x.c0,PU x.c1,PU x.c2])),(11, .b (I i))] [(0, .fix ((dI x).map CV.p)),(1, .fix ((aH b).map CV.p))] 2) (fun i=>0≤i∧i≤3) (fun i=>(3 - i).toNat) 0 ?_ ?_ ?_
 ·omega
 ·refine ay [(1,some 1)] ?_ ?_
  and_intros
  all_goals first|exact ao|skip
 ·intro i hi
  rcases zt hi with rfl|rfl|rfl|rfl
  ·repeat' (first|refine aj d0 ?_|refine ak ?_|(refine ai (fun K hK => ?_);and_intros;all_goals first|(refine hK _ ?_;clear hK K)|try exact aa))
   rw [ah]
   refine au 1 ?_ (by omega) (by decide)
   refine ay [(1,some 1)] ?_ ?_
   and_intros
   all_goals first|exact ao|skip
  ·repeat' (first|refine aj d1 ?_|refine ak ?_|(refine ai (fun K hK => ?_);and_intros;all_goals first|(refine hK _ ?_;clear hK K)|try exact aa))
   rw [ah]
   refine au 2 ?_ (by omega) (by decide)
   refine ay [(1,some 1)] ?_ ?_
   and_intros
   all_goals first|exact ao|skip
  ·repeat' (first|refine aj d2 ?_|refine ak ?_|(refine ai (fun K hK => ?_);and_intros;all_goals first|(refine hK _ ?_;clear hK K)|try exact aa))
   rw [ah]
   refine au 3 ?_ (by omega) (by decide)
   refine ay [(1,some 1)] ?_ ?_
   and_intros
   all_goals first|exact ao|skip
  ·repeat' (first|refine aj ht ?_|refine ak ?_|((first|refine ai (fun K hK => ?_)|refine aE (fun hg=>hvs) ?_);and_intros;all_goals first|(refine hK _ ?_;clear hK K)|try exact aa)|(refine an ?_;(try clear hB KB);(try clear hK K)))
   simp only [e0,e1,e2,e3,e4,e5]
   first|rfl|trivial
theorem ka (x:Acc) (b:Pixel) (m:Int) (hm:Full m) (h:AccV x b m):aD Sg 107 [ag (dI x),ag (aH b),U m] (fun r=>r = .tup [ag (aH (bl x b m)),B true]):=by
 have hva:=uv x b m hm h
 have c0:=mw x.c0 b.c0 x.own m hm h.n0 (Int.le_trans h.l0 h.am) h.bk.n0 (Int.le_trans h.bk.l0 h.bk.am) h.o0 h.om
 have c1:=mw x.c1 b.c1 x.own m hm h.n1 (Int.le_trans h.l1 h.am) h.bk.n1 (Int.le_trans h.bk.l1 h.bk.am) h.o0 h.om
 have c2:=mw x.c2 b.c2 x.own m hm h.n2 (Int.le_trans h.l2 h.am) h.bk.n2 (Int.le_trans h.bk.l2 h.bk.am) h.o0 h.om
 have ht:True:=trivial
 unfold bl
 generalize kt x.c0 b.c0 x.own m=y0 at *
 generalize kt x.c1 b.c1 x.own m=y1 at *
 generalize kt x.c2 b.c2 x.own m=y2 at *
 refine aC Tryz.func107 [.cell 6 41, .tmp 7] ?_
 repeat' (first|refine aj ht ?_|refine ak ?_|((first|refine ai (fun K hK => ?_)|refine ae (hva) ?_);and_intros;all_goals first|(refine hK _ ?_;clear hK K)|try exact aa))
 refine aS (X:=Int) (fun i=>aZ [(2, .b (U m)),(3, .b (.c (.ptr 0 0))),(4, .b (.c (.ptr 1 0))),(6, .b (.c (.ptr 2 0))),(8, .b (.c (.ptr 3 0))),(23, .b (ag [PU x.c0,PU x.c1,PU x.c2])),(24, .b (I i))]
  [(0, .fix ((dI x).map CV.p)),(1, .fix ((aH b).map CV.p)),(2, .fix ((aH aG).map CV.p)),(3, .fix [.p (PU (if 0<i then y0 else 0)), .p (PU (if 1<i then y1 else 0)), .p (PU (if 2<i then y2 else 0)), .p (PU x.own), .p (PU x.f)])] 4)
  (fun i=>0≤i∧i≤3) (fun i=>(3 - i).toNat) 0 ?_ ?_ ?_
 ·omega
 ·refine ay [(1,some 1),(2,some 2),(3,some 3)] ?_ ?_
  and_intros
  all_goals first|exact ao|skip
 ·intro i hi
  rcases zt hi with rfl|rfl|rfl|rfl
  ·repeat' (first|refine aj ht ?_|(((with_reducible refine gK (id:=7) [] (by decide +kernel) (by decide +kernel) ?_ (fun K hK => ?_));(first|(refine And.intro (fun iw hiw => ?_) ?_;(focus ((try simp (maxSteps:=999999)(disch:=omega) only [go_sem] at hiw ⊢);(repeat (refine Eq.trans (if_neg ?_) ?_;(focus omega)));exact hw iw (by omega)));(focus (first|exact Nat.zero_le _|(simp (maxSteps:=999999)(disch:=omega) only [go_sem];done)|(simp (maxSteps:=999999)(disch:=omega) only [go_sem];omega))))|exact eS));(try simp (maxSteps:=999999)(disch:=omega) only [go_sem]);and_intros;(all_goals first|(refine hK _ (by simp (maxSteps:=999999)(disch:=omega) only [go_sem]) ?_;clear hK K)|exact aa|skip))|refine ak ?_|((first|refine ai (fun K hK => ?_)|refine ae (c0) ?_);and_intros;all_goals first|(refine hK _ ?_;clear hK K)|try exact aa))
   refine hK _ trivial ?_
   clear hK
   repeat' (first|refine ak ?_|(refine ai (fun K hK => ?_);and_intros;all_goals first|(refine hK _ ?_;clear hK K)|try exact aa))
   rw [ah]
   refine au 1 ?_ (by omega) (by decide)
   refine ay [(1,some 1),(2,some 2),(3,some 3)] ?_ ?_
   and_intros
   all_goals first|exact ao|skip
  ·repeat' (first|refine aj ht ?_|(((with_reducible refine gK (id:=7) [] (by decide +kernel) (by decide +kernel) ?_ (fun K hK => ?_));(first|(refine And.intro (fun iw hiw => ?_) ?_;(focus ((try simp (maxSteps:=999999)(disch:=omega) only [go_sem] at hiw ⊢);(repeat (refine Eq.trans (if_neg ?_) ?_;(focus omega)));exact hw iw (by omega)));(focus (first|exact Nat.zero_le _|(simp (maxSteps:=999999)(disch:=omega) only [go_sem];done)|(simp (maxSteps:=999999)(disch:=omega) only [go_sem];omega))))|exact eS));(try simp (maxSteps:=999999)(disch:=omega) only [go_sem]);and_intros;(all_goals first|(refine hK _ (by simp (maxSteps:=999999)(disch:=omega) only [go_sem]) ?_;clear hK K)|exact aa|skip))|refine ak ?_|((first|refine ai (fun K hK => ?_)|refine ae (c1) ?_);and_intros;all_goals first|(refine hK _ ?_;clear hK K)|try exact aa))
   refine hK _ trivial ?_
   clear hK
   repeat' (first|refine ak ?_|(refine ai (fun K hK => ?_);and_intros;all_goals first|(refine hK _ ?_;clear hK K)|try exact aa))
   rw [ah]
   refine au 2 ?_ (by omega) (by decide)
   refine ay [(1,some 1),(2,some 2),(3,some 3)] ?_ ?_
   and_intros
   all_goals first|exact ao|skip
  ·repeat' (first|refine aj ht ?_|(((with_reducible refine gK (id:=7) [] (by decide +kernel) (by decide +kernel) ?_ (fun K hK => ?_));(first|(refine And.intro (fun iw hiw => ?_) ?_;(focus ((try simp (maxSteps:=999999)(disch:=omega) only [go_sem] at hiw ⊢);(repeat (refine Eq.trans (if_neg ?_) ?_;(focus omega)));exact hw iw (by omega)));(focus (first|exact Nat.zero_le _|(simp (maxSteps:=999999)(disch:=omega) only [go_sem];done)|(simp (maxSteps:=999999)(disch:=omega) only [go_sem];omega))))|exact eS));(try simp (maxSteps:=999999)(disch:=omega) only [go_sem]);and_intros;(all_goals first|(refine hK _ (by simp (maxSteps:=999999)(disch:=omega) only [go_sem]) ?_;clear hK K)|exact aa|skip))|refine ak ?_|((first|refine ai (fun K hK => ?_)|refine ae (c2) ?_);and_intros;all_goals first|(refine hK _ ?_;clear hK K)|try exact aa))
   refine hK _ trivial ?_
   clear hK
   repeat' (first|refine ak ?_|(refine ai (fun K hK => ?_);and_intros;all_goals first|(refine hK _ ?_;clear hK K)|try exact aa))
   rw [ah]
   refine au 3 ?_ (by omega) (by decide)
   refine ay [(1,some 1),(2,some 2),(3,some 3)] ?_ ?_
   and_intros
   all_goals first|exact ao|skip
  ·repeat' (first|refine aj ht ?_|refine ak ?_|(refine ai (fun K hK => ?_);and_intros;all_goals first|(refine hK _ ?_;clear hK K)|try exact aa)|(refine an ?_;(try clear hB KB);(try clear hK K)))
   rfl
theorem vW (mode m : Int) (s : Pixel) (x : Acc) (b : Pixel) (hm : Full m) (hmo : 1 ≤ mode ∧ mode ≤ 12) (hs : PixV s m) (hx : AccV x b m) :
  aD Sg 207 [I mode,U m,ag (aH s),ag (dI x),ag (aH b)] (fun r=>r = .tup [ag (dI (iL true 4 mode m s x b)),B true]):=by
 have hsh:=uw 4 s.f x.f m hm ⟨by decide,by decide⟩ hs.f0 hs.fm hx.f0 hx.fm
 obtain ⟨s1,s2,s3⟩:=hs.pre
 obtain ⟨b1,b2,b3⟩:=hx.bk.pre
 have htt:True:=trivial
 have c1:=lZ mode m s.c0 s.a s.f x.c0 b.c0 b.a hm hmo s1 b1 hs.af hs.fm hx.n0 (Int.le_trans hx.l0 hx.am)
 have c2:=lZ mode m s.c1 s.a s.f x.c1 b.c1 b.a hm hmo s2 b2 hs.af hs.fm hx.n1 (Int.le_trans hx.l1 hx.am)
 have c3:=lZ mode m s.c2 s.a s.f x.c2 b.c2 b.a hm hmo s3 b3 hs.af hs.fm hx.n2 (Int.le_trans hx.l2 hx.am)
 have a1:=qT m s.a s.f x.a b.a hm hs.a0 hs.af hs.fm hx.a0 hx.am hx.bk.a0 hx.bk.am
 have a2:=zi m s.a s.f x.own hm hs.a0 hs.af hs.fm hx.o0 hx.om
 rw [show iL true 4 mode m s x b=⟨eF mode m s.c0 s.a s.f x.c0 b.c0 b.a,eF mode m s.c1 s.a s.f x.c1 b.c1 b.a,eF mode m s.c2 s.a s.f x.c2 b.c2 b.a,dG m s.a s.f x.a b.a,dG m s.a s.f x.own 0,fj 4 s.f x.f m⟩ from rfl]
 generalize eF mode m s.c0 s.a s.f x.c0 b.c0 b.a=y1 at *
 generalize eF mode m s.c1 s.a s.f x.c1 b.c1 b.a=y2 at *
 generalize eF mode m s.c2 s.a s.f x.c2 b.c2 b.a=y3 at *
 generalize dG m s.a s.f x.a b.a=y4 at *
 generalize dG m s.a s.f x.own 0=y5 at *
 generalize fj 4 s.f x.f m=y6 at *
 refine aC Tryz.func207 [.cell 10 156, .tmp 11] ?_
 repeat' (first|refine ak ?_|(refine ai (fun K hK => ?_);and_intros;all_goals first|(refine hK _ ?_;clear hK K)|try exact aa))
 refine aS (X:=Int) (fun i=>aZ [(0, .b (I mode)),(1, .b (U m)),(7, .b (.c (.ptr 0 0))),(8, .b (.c (.ptr 1 0))),(9, .b (.c (.ptr 2 0))),(10, .b (.c (.ptr 3 0))),(12, .b (.c (.ptr 4 0))),(19, .b (ag [PU x.c0,PU x.c1,PU x.c2])),(20, .b (I i))]
  [(0, .fix ((aH s).map CV.p)),(1, .fix ((dI x).map CV.p)),(2, .fix ((aH b).map CV.p)),(3, .fix ((dI FA).map CV.p)),(4, .fix [.p (PU (if 0<i then y1 else x.c0)), .p (PU (if 1<i then y2 else x.c1)), .p (PU (if 2<i then y3 else x.c2)), .p (PU x.a), .p (PU x.own), .p (PU x.f)])] 5) (fun i=>0≤i∧i≤3) (fun i=>(3 - i).toNat) 0 ?_ ?_ ?_
 ·omega
 ·refine ay [(1,some 1),(2,some 2),(3,some 3),(4,some 4)] ?_ ?_
  and_intros
  all_goals first|exact ao|skip
 ·intro i hi'
  rcases zt hi' with rfl|rfl|rfl|rfl
  ·repeat' (first|refine aj htt ?_|(((with_reducible refine cr (id:=5) [] (by decide +kernel) (by decide +kernel) ?_ (fun K hK => ?_));(first|(refine And.intro (fun iw hiw => ?_) ?_;(focus ((try simp (maxSteps:=999999)(disch:=omega) only [go_sem] at hiw ⊢);(repeat (refine Eq.trans (if_neg ?_) ?_;(focus omega)));exact hw iw (by omega)));(focus (first|exact Nat.zero_le _|(simp (maxSteps:=999999)(disch:=omega) only [go_sem];done)|(simp (maxSteps:=999999)(disch:=omega) only [go_sem];omega))))|exact eS));(try simp (maxSteps:=999999)(disch:=omega) only [go_sem]);and_intros;(all_goals first|(refine hK _ (by simp (maxSteps:=999999)(disch:=omega) only [go_sem]) ?_;clear hK K)|exact aa|skip))|refine ak ?_|((first|refine ai (fun K hK => ?_)|refine ae (c1) ?_);and_intros;all_goals first|(refine hK _ ?_;clear hK K)|try exact aa))
   refine hK _ trivial ?_
   clear hK
   repeat' (first|refine aj htt ?_|refine ak ?_|(refine ai (fun K hK => ?_);and_intros;all_goals first|(refine hK _ ?_;clear hK K)|try exact aa))
   rw [ah]
   refine au 1 ?_ (by omega) (by decide)
   refine ay [(1,some 1),(2,some 2),(3,some 3),(4,some 4)] ?_ ?_
   and_intros
   all_goals first|exact ao|skip
  ·repeat' (first|refine aj htt ?_|(((with_reducible refine cr (id:=5) [] (by decide +kernel) (by decide +kernel) ?_ (fun K hK => ?_));(first|(refine And.intro (fun iw hiw => ?_) ?_;(focus ((try simp (maxSteps:=999999)(disch:=omega) only [go_sem] at hiw ⊢);(repeat (refine Eq.trans (if_neg ?_) ?_;(focus omega)));exact hw iw (by omega)));(focus (first|exact Nat.zero_le _|(simp (maxSteps:=999999)(disch:=omega) only [go_sem];done)|(simp (maxSteps:=999999)(disch:=omega) only [go_sem];omega))))|exact eS));(try simp (maxSteps:=999999)(disch:=omega) only [go_sem]);and_intros;(all_goals first|(refine hK _ (by simp (maxSteps:=999999)(disch:=omega) only [go_sem]) ?_;clear hK K)|exact aa|skip))|refine ak ?_|((first|refine ai (fun K hK => ?_)|refine ae (c2) ?_);and_intros;all_goals first|(refine hK _ ?_;clear hK K)|try exact aa))
   refine hK _ trivial ?_
   clear hK
   repeat' (first|refine aj htt ?_|refine ak ?_|(refine ai (fun K hK => ?_);and_intros;all_goals first|(refine hK _ ?_;clear hK K)|try exact aa))
   rw [ah]
   refine au 2 ?_ (by omega) (by decide)
   refine ay [(1,some 1),(2,some 2),(3,some 3),(4,some 4)] ?_ ?_
   and_intros
   all_goals first|exact ao|skip
  ·repeat' (first|refine aj htt ?_|(((with_reducible refine cr (id:=5) [] (by decide +kernel) (by decide +kernel) ?_ (fun K hK => ?_));(first|(refine And.intro (fun iw hiw => ?_) ?_;(focus ((try simp (maxSteps:=999999)(disch:=omega) only [go_sem] at hiw ⊢);(repeat (refine Eq.trans (if_neg ?_) ?_;(focus omega)));exact hw iw (by omega)));(focus (first|exact Nat.zero_le _|(simp (maxSteps:=999999)(disch:=omega) only [go_sem];done)|(simp (maxSteps:=999999)(disch:=omega) only [go_sem];omega))))|exact eS));(try simp (maxSteps:=999999)(disch:=omega) only [go_sem]);and_intros;(all_goals first|(refine hK _ (by simp (maxSteps:=999999)(disch:=omega) only [go_sem]) ?_;clear hK K)|exact aa|skip))|refine ak ?_|((first|refine ai (fun K hK => ?_)|refine ae (c3) ?_);and_intros;all_goals first|(refine hK _ ?_;clear hK K)|try exact aa))
   refine hK _ trivial ?_
   clear hK
   repeat' (first|refine aj htt ?_|refine ak ?_|(refine ai (fun K hK => ?_);and_intros;all_goals first|(refine hK _ ?_;clear hK K)|try exact aa))
   rw [ah]
   refine au 3 ?_ (by omega) (by decide)
   refine ay [(1,some 1),(2,some 2),(3,some 3),(4,some 4)] ?_ ?_
   and_intros
   all_goals first|exact ao|skip
  ·repeat' (first|refine aj htt ?_|refine ak ?_|((first|refine ai (fun K hK => ?_)|refine ae (a1) ?_|refine ae (a2) ?_|refine ae (hsh) ?_);and_intros;all_goals first|(refine hK _ ?_;clear hK K)|try exact aa)|(refine an ?_;(try clear hB KB);(try clear hK K)))
   rfl
theorem Eu (ko : Bool) (op mode m : Int) (s : Pixel) (x : Acc) (b : Pixel) (hm : Full m) (ho : 1 ≤ op ∧ op ≤ 12) (hmo : 1 ≤ mode ∧ mode ≤ 12) (hs : PixV s m) (hx : AccV x b m) (hk : ko = true → op = 4) :
  aD Sg 180 [B ko,I op,I mode,U m,ag (aH s),ag (dI x),ag (aH b)] (fun r=>r = .tup [ag (dI (iL ko op mode m s x b)),B true]):=by
 have hva:=uv x b m hm hx
 have hvp:=gG s m
 rw [lx hs] at hvp
 have hsh:=uw op s.f x.f m hm ho hs.f0 hs.fm hx.f0 hx.fm
 obtain ⟨s1,s2,s3⟩:=hs.pre
 obtain ⟨x1,x2,x3⟩:=hx.pre
 have htt:True:=trivial
 cases ko
 ·have c1:=nU op mode m s.c0 s.a x.c0 x.a hm ho hmo s1 x1
  have c2:=nU op mode m s.c1 s.a x.c1 x.a hm ho hmo s2 x2
  have c3:=nU op mode m s.c2 s.a x.c2 x.a hm ho hmo s3 x3
  have a1:=sY op s.a x.a m hm ho hs.a0 hs.am hx.a0 hx.am
  have a2:=sY op s.a x.own m hm ho hs.a0 hs.am hx.o0 hx.om
  rw [show iL false op mode m s x b=⟨fq op mode m s.c0 s.a x.c0 x.a,fq op mode m s.c1 s.a x.c1 x.a,fq op mode m s.c2 s.a x.c2 x.a,dA op s.a x.a m,dA op s.a x.own m,fj op s.f x.f m⟩ from rfl]
  generalize fq op mode m s.c0 s.a x.c0 x.a=y1 at *
  generalize fq op mode m s.c1 s.a x.c1 x.a=y2 at *
  generalize fq op mode m s.c2 s.a x.c2 x.a=y3 at *
  generalize dA op s.a x.a m=y4 at *
  generalize dA op s.a x.own m=y5 at *
  generalize fj op s.f x.f m=y6 at *
  refine aC Tryz.func180 [.cell 14 156, .tmp 15] ?_
  repeat' (first|refine aj htt ?_|refine ak ?_|((first|refine ai (fun K hK => ?_)|refine ae (hva) ?_|refine aE (fun hg=>hvp) ?_);and_intros;all_goals first|(refine hK _ ?_;clear hK K)|try exact aa))
  refine aS (X:=Int) (fun i=>aZ [(1, .b (I op)),(2, .b (I mode)),(3, .b (U m)),(11, .b (.c (.ptr 0 0))),(12, .b (.c (.ptr 1 0))),(13, .b (.c (.ptr 2 0))),(14, .b (.c (.ptr 3 0))),(16, .b (.c (.ptr 4 0))),(51, .b (ag [PU x.c0,PU x.c1,PU x.c2])),(52, .b (I i))]
   [(0, .fix ((aH s).map CV.p)),(1, .fix ((dI x).map CV.p)),(2, .fix ((aH b).map CV.p)),(3, .fix ((dI FA).map CV.p)),(4, .fix [.p (PU (if 0<i then y1 else x.c0)), .p (PU (if 1<i then y2 else x.c1)), .p (PU (if 2<i then y3 else x.c2)), .p (PU x.a), .p (PU x.own), .p (PU x.f)])] 5) (fun i=>0≤i∧i≤3) (fun i=>(3 - i).toNat) 0 ?_ ?_ ?_
  ·omega
  ·refine ay [(1,some 1),(2,some 2),(3,some 3),(4,some 4)] ?_ ?_
   and_intros
   all_goals first|exact ao|skip
  ·intro i hi'
   rcases zt hi' with rfl|rfl|rfl|rfl
   ·repeat' (first|refine aj htt ?_|(((with_reducible refine cr (id:=9) [] (by decide +kernel) (by decide +kernel) ?_ (fun K hK => ?_));(first|(refine And.intro (fun iw hiw => ?_) ?_;(focus ((try simp (maxSteps:=999999)(disch:=omega) only [go_sem] at hiw ⊢);(repeat (refine Eq.trans (if_neg ?_) ?_;(focus omega)));exact hw iw (by omega)));(focus (first|exact Nat.zero_le _|(simp (maxSteps:=999999)(disch:=omega) only [go_sem];done)|(simp (maxSteps:=999999)(disch:=omega) only [go_sem];omega))))|exact eS));(try simp (maxSteps:=999999)(disch:=omega) only [go_sem]);and_intros;(all_goals first|(refine hK _ (by simp (maxSteps:=999999)(disch:=omega) only [go_sem]) ?_;clear hK K)|exact aa|skip))|refine ak ?_|((first|refine ai (fun K hK => ?_)|refine ae (c1) ?_);and_intros;all_goals first|(refine hK _ ?_;clear hK K)|try exact aa))
    refine hK _ trivial ?_
    clear hK
    repeat' (first|refine aj htt ?_|refine ak ?_|(refine ai (fun K hK => ?_);and_intros;all_goals first|(refine hK _ ?_;clear hK K)|try exact aa))
    rw [ah]
    refine au 1 ?_ (by omega) (by decide)
    refine ay [(1,some 1),(2,some 2),(3,some 3),(4,some 4)] ?_ ?_
    and_intros
    all_goals first|exact ao|skip
   ·repeat' (first|refine aj htt ?_|(((with_reducible refine cr (id:=9) [] (by decide +kernel) (by decide +kernel) ?_ (fun K hK => ?_));(first|(refine And.intro (fun iw hiw => ?_) ?_;(focus ((try simp (maxSteps:=999999)(disch:=omega) only [go_sem] at hiw ⊢);(repeat (refine Eq.trans (if_neg ?_) ?_;(focus omega)));exact hw iw (by omega)));(focus (first|exact Nat.zero_le _|(simp (maxSteps:=999999)(disch:=omega) only [go_sem];done)|(simp (maxSteps:=999999)(disch:=omega) only [go_sem];omega))))|exact eS));(try simp (maxSteps:=999999)(disch:=omega) only [go_sem]);and_intros;(all_goals first|(refine hK _ (by simp (maxSteps:=999999)(disch:=omega) only [go_sem]) ?_;clear hK K)|exact aa|skip))|refine ak ?_|((first|refine ai (fun K hK => ?_)|refine ae (c2) ?_);and_intros;all_goals first|(refine hK _ ?_;clear hK K)|try exact aa))
    refine hK _ trivial ?_
    clear hK
    repeat' (first|refine aj htt ?_|refine ak ?_|(refine ai (fun K hK => ?_);and_intros;all_goals first|(refine hK _ ?_;clear hK K)|try exact aa))
    rw [ah]
    refine au 2 ?_ (by omega) (by decide)
    refine ay [(1,some 1),(2,some 2),(3,some 3),(4,some 4)] ?_ ?_
    and_intros
    all_goals first|exact ao|skip
   ·repeat' (first|refine aj htt ?_|(((with_reducible refine cr (id:=9) [] (by decide +kernel) (by decide +kernel) ?_ (fun K hK => ?_));(first|(refine And.intro (fun iw hiw => ?_) ?_;(focus ((try simp (maxSteps:=999999)(disch:=omega) only [go_sem] at hiw ⊢);(repeat (refine Eq.trans (if_neg ?_) ?_;(focus omega)));exact hw iw (by omega)));(focus (first|exact Nat.zero_le _|(simp (maxSteps:=999999)(disch:=omega) only [go_sem];done)|(simp (maxSteps:=999999)(disch:=omega) only [go_sem];omega))))|exact eS));(try simp (maxSteps:=999999)(disch:=omega) only [go_sem]);and_intros;(all_goals first|(refine hK _ (by simp (maxSteps:=999999)(disch:=omega) only [go_sem]) ?_;clear hK K)|exact aa|skip))|refine ak ?_|((first|refine ai (fun K hK => ?_)|refine ae (c3) ?_);and_intros;all_goals first|(refine hK _ ?_;clear hK K)|try exact aa))
    refine hK _ trivial ?_
    clear hK
    repeat' (first|refine aj htt ?_|refine ak ?_|(refine ai (fun K hK => ?_);and_intros;all_goals first|(refine hK _ ?_;clear hK K)|try exact aa))
    rw [ah]
    refine au 3 ?_ (by omega) (by decide)
    refine ay [(1,some 1),(2,some 2),(3,some 3),(4,some 4)] ?_ ?_
    and_intros
    all_goals first|exact ao|skip
   ·repeat' (first|refine aj htt ?_|refine ak ?_|((first|refine ai (fun K hK => ?_)|refine ae (a1) ?_|refine ae (a2) ?_|refine ae (hsh) ?_);and_intros;all_goals first|(refine hK _ ?_;clear hK K)|try exact aa)|(refine an ?_;(try clear hB KB);(try clear hK K)))
    rfl
 ·obtain rfl:=hk rfl
  have hr:=vW mode m s x b hm hmo hs hx
  generalize iL true 4 mode m s x b=y at *
  refine aC Tryz.func180 [.cell 14 156, .tmp 15] ?_
  repeat' (first|refine aj htt ?_|refine ak ?_|((first|refine ai (fun K hK => ?_)|refine ae (hva) ?_|refine aE (fun hg=>hvp) ?_|refine ae (hr) ?_);and_intros;all_goals first|(refine hK _ ?_;clear hK K)|try exact aa)|(refine an ?_;(try clear hB KB);(try clear hK K)))
  rfl
end Go.Proofs.YtmfblbbemekkoaaGreatDoor
set_option maxHeartbeats 1000000
namespace Go.Proofs.YtmfblbbemekkoaaGreatDoor
structure Mic where
 op:Int
 kind:Int
 inp:Pixel
 back:Pixel
 k:Int
 out:Pixel
 deriving DecidableEq,Inhabited
def dU (a:Acc):Pixel:=⟨a.c0,a.c1,a.c2,a.a,a.f⟩
def sg (m:Int) (o:Op) (p:Pixel) (k:Int):Pixel:=if o.mask=0 then p else aX p k m
def cN (m:Int) (i:Nat) (o:Op) (p:Pixel) (k:Int):List Mic :=
 (if o.mask=0 then [] else [⟨i,2,p,aG,k,aX p k m⟩]) ++ [⟨i,3,sg m o p k,aG,o.opacity,az m o p k⟩]
def pB (m:Int) (z:Op→Pixel × Int) (i:Nat) (st:List Lv) (o:Op):List Mic :=
 match st with
 | []=>[]
 | t :: r =>
  if o.kind=1 then ⟨i,1,aG,aG,0,(z o).1⟩ :: (cN m i o (z o).1 (z o).2 ++ [⟨i,4,az m o (z o).1 (z o).2,dU t.acc,0,dU (bT m o (az m o (z o).1 (z o).2) t).acc⟩])
  else if o.kind=2 then [⟨i,5,aG,aG,0,(fW o t).back⟩]
  else match r with
   | []=>[]
   | u :: _ => ⟨i, 6, aG, aG, 0, bl t.acc t.back m⟩ :: (cN m i t.op (bl t.acc t.back m) (z t.op).2 ++
     [⟨i,4,az m t.op (bl t.acc t.back m) (z t.op).2,dU u.acc,0,dU (bT m t.op (az m t.op (bl t.acc t.back m) (z t.op).2) u).acc⟩])
def cW (m:Int) (z:Op→Pixel × Int) (ops:List Op):Nat→List Mic
 | 0=>[]
 | n+1=>cW m z ops n ++ pB m z n (ga m z ops n) (aO ops n)
theorem oI {m:Int} {o:Op} {p:Pixel} {k:Int} (hm:Full m):az m o p k=aX (sg m o p k) o.opacity m:=by
 unfold az sg
 split
 ·rw [hZ hm]
 ·rfl
theorem xA {m : Int} {z : Op → Pixel × Int} {i : Nat} {t : Lv} {r : List Lv} {o : Op} (h : o.kind = 1) :
  pB m z i (t :: r) o=⟨i,1,aG,aG,0,(z o).1⟩ :: (cN m i o (z o).1 (z o).2 ++ [⟨i,4,az m o (z o).1 (z o).2,dU t.acc,0,dU (bT m o (az m o (z o).1 (z o).2) t).acc⟩]):=by
 unfold pB
 dsimp only
 rw [if_pos h]
theorem ur {m:Int} {z:Op→Pixel × Int} {i:Nat} {t:Lv} {r:List Lv} {o:Op} (h:o.kind=2):pB m z i (t :: r) o=[⟨i,5,aG,aG,0,(fW o t).back⟩]:=by
 unfold pB
 dsimp only
 rw [if_neg (by omega),if_pos h]
theorem Ac {m : Int} {z : Op → Pixel × Int} {i : Nat} {t u : Lv} {r : List Lv} {o : Op} (h : o.kind = 3) :
  pB m z i (t :: u :: r) o=⟨i,6,aG,aG,0,bl t.acc t.back m⟩ :: (cN m i t.op (bl t.acc t.back m) (z t.op).2 ++
   [⟨i,4,az m t.op (bl t.acc t.back m) (z t.op).2,dU u.acc,0,dU (bT m t.op (az m t.op (bl t.acc t.back m) (z t.op).2) u).acc⟩]):=by
 unfold pB
 dsimp only
 rw [if_neg (by omega),if_neg (by omega)]
theorem xS {m:Int} {i:Nat} {o:Op} {p:Pixel} {k:Int}:(cN m i o p k).length≤2:=by
 unfold cN
 split <;> simp
theorem IZ {m:Int} {z:Op→Pixel × Int} {i:Nat} {st:List Lv} {o:Op}:(pB m z i st o).length≤4:=by
 cases st with
 | nil=>exact Nat.zero_le _
 | cons t r =>
  unfold pB
  dsimp only
  split
  ·have:=xS (m:=m) (i:=i) (o:=o) (p:=(z o).1) (k:=(z o).2)
   simp only [List.length_cons,List.length_append,List.length_nil];omega
  split
  ·exact Nat.le_of_ble_eq_true rfl
  ·cases r with
   | nil=>exact Nat.zero_le _
   | cons u r =>
    have:=xS (m:=m) (i:=i) (o:=t.op) (p:=bl t.acc t.back m) (k:=(z t.op).2)
    simp only [List.length_cons,List.length_append,List.length_nil];omega
theorem tI {m:Int} {z:Op→Pixel × Int} {ops:List Op}:∀ n,(cW m z ops n).length≤4 * n
 | 0=>Nat.zero_le _
 | n+1=>by
  have:=tI (m:=m) (z:=z) (ops:=ops) n
  have:=IZ (m:=m) (z:=z) (i:=n) (st:=ga m z ops n) (o:=aO ops n)
  rw [cW,List.length_append];omega
def OE (x:Mic):Prop:=x.kind=1∨x.kind=5∨x.kind=6
def Lq (m:Int) (x:Mic):Prop:=(x.kind=2∨x.kind=3)∧PixV x.inp m∧0≤x.k∧x.k≤m∧x.out=aX x.inp x.k m
def Dc (m:Int) (p:Option Pixel) (x:Mic):Prop:=OE x∨(Lq m x∨x.kind=4)∧p=some x.inp
def fA (m:Int):Option Pixel→List Mic→Prop
 | _,[]=>True
 | p,x :: l=>Dc m p x∧fA m (some x.out) l
def EN (p:Option Pixel) (l:List Mic):Option Pixel:=l.foldl (fun _ x=>some x.out) p
theorem tn {m:Int}:∀ {l l':List Mic} {p:Option Pixel},fA m p (l ++ l')↔fA m p l∧fA m (EN p l) l'
 | [],l',p=>by simp [fA,EN]
 | x :: l,l',p=>by
  rw [List.cons_append,fA,fA,tn]
  exact ⟨fun ⟨a,b,c⟩=>⟨⟨a,b⟩,c⟩,fun ⟨⟨a,b⟩,c⟩=>⟨a,b,c⟩⟩
theorem vY {m:Int}:∀ {l:List Mic} {p:Option Pixel},fA m p l→∀ i,i<l.length→Dc m (if i=0 then p else some (l.getD (i - 1) default).out) (l.getD i default)
 | [],_,_,i,hi=>absurd hi (Nat.not_lt_zero _)
 | x :: l,p,h,0,_=>h.1
 | x :: l,p,h,i+1,hi=>by
  have:=vY h.2 i (by simpa using hi)
  rw [if_neg (by omega)]
  cases i with
  | zero=>exact this
  | succ i =>
   rw [if_neg (by omega)] at this
   exact this
theorem pU {m : Int} {i : Nat} {o : Op} {p b q : Pixel} {k : Int} (hm : Full m) (hp : PixV p m) (h0 : 0 ≤ k) (h1 : k ≤ m) (o0 : 0 ≤ o.opacity) (om : o.opacity ≤ m) :
  fA m (some p) (cN m i o p k ++ [⟨i,4,az m o p k,b,0,q⟩]):=by
 have hv:=jD hm hp h0 h1
 unfold cN
 by_cases h:o.mask=0
 ·rw [if_pos h,List.nil_append]
  have e:sg m o p k=p:=if_pos h
  rw [e]
  refine ⟨.inr ⟨.inl ⟨.inr rfl,hp,o0,om, ?_⟩,rfl⟩, .inr ⟨.inr rfl,rfl⟩,trivial⟩
  show az m o p k=_
  rw [oI hm,e]
 ·rw [if_neg h]
  have e:sg m o p k=aX p k m:=if_neg h
  rw [e]
  refine ⟨.inr ⟨.inl ⟨.inl rfl,hp,h0,h1,rfl⟩,rfl⟩, .inr ⟨.inl ⟨.inr rfl,hv,o0,om, ?_⟩,rfl⟩, .inr ⟨.inr rfl,rfl⟩,trivial⟩
  show az m o p k=_
  rw [oI hm,e]
section
variable {s:Script} {m x y:Int}
theorem Bk (C:Pt s m x y) {i:Nat} (hi:i<s.ops.length) (p:Option Pixel):fA m p (pB m (bI s x y) i (ga m (bI s x y) s.ops i) (aO s.ops i)):=by
 have ha:=Hn C i (by omega)
 obtain ⟨t,r,e⟩:=ha.ne
 rw [e] at ha ⊢
 rcases C.V.wf.kinds i hi with k|k|k
 ·rw [xA k]
  have hf:=ha.fit C hi (by omega)
  exact ⟨.inl (.inl rfl),pU C.hm (C.z.p _) (C.z.k0 _) (C.z.km _) hf.op0 hf.opm⟩
 ·rw [ur k]
  exact ⟨.inl (.inr (.inl rfl)),trivial⟩
 ·cases r with
  | nil=>unfold pB;dsimp only;rw [if_neg (by omega),if_neg (by omega)];trivial
  | cons u r =>
   rw [Ac k]
   obtain ⟨vt,vf,vs⟩:=ha.v
   exact ⟨.inl (.inr (.inr rfl)),pU C.hm (kz C.hm vt.v) (C.z.k0 _) (C.z.km _) vf.op0 vf.opm⟩
theorem oY (C:Pt s m x y):∀ n,n≤s.ops.length→fA m none (cW m (bI s x y) s.ops n)
 | 0,_=>trivial
 | n+1,h=>by
  rw [cW,tn]
  exact ⟨oY C n (by omega),Bk C (by omega) _⟩
end
end Go.Proofs.YtmfblbbemekkoaaGreatDoor
namespace Go.Proofs.YtmfblbbemekkoaaGreatDoor
theorem ng (m:Image) (x y dx dy:Int):kX m x y dx dy=dK m (x - dx) (y - dy):=by
 unfold kX
 split
 ·rename_i h
  unfold dK
  cases hf:aW m with
  | false=>rw [if_pos (.inl rfl)]
  | true =>
   obtain ⟨a,b,c,d⟩:=mq hf
   rw [if_pos (by omega)]
 ·rfl
end Go.Proofs.YtmfblbbemekkoaaGreatDoor
set_option maxHeartbeats 2000000
set_option maxRecDepth 16000
namespace Go.Proofs.YtmfblbbemekkoaaGreatDoor
open Go Go.SL
open Go.RowKit (wrap64)
attribute [local go_sem] Int.toNat_natCast uQ mF
theorem Nr {a b : Op} : a = b ↔ a.kind = b.kind ∧ a.image = b.image ∧ a.x = b.x ∧ a.y = b.y ∧ a.mask = b.mask ∧ a.maskX = b.maskX ∧ a.maskY = b.maskY ∧ a.opacity = b.opacity ∧ a.operator = b.operator ∧
  a.mode=b.mode∧a.isolated=b.isolated∧a.knockout=b.knockout:=by
 cases a;cases b;simp
theorem uJ (a b:List Op) (ha:a.length≤1000000) (hb:b.length≤1000000):aD Sg 37 [.c (.p (kq a)), .c (.p (kq b))] (fun x=>x = .b (B (decide (a=b)))):=by
 refine aC Tryz.func37 [.tmp 4] ?_
 repeat' (first|with_reducible exact cn|refine ak ?_|((first|refine ai (fun K hK => ?_)|refine wO ?_);and_intros;all_goals first|(refine hK _ ?_;clear hK K)|try exact aa)|((first|apply eE|apply kn);(case hf=>rfl);(case hc=>exact eC);(all_goals first|(intro hb;(try simp only [qK] at hb))|skip))|exact bO|(refine bc (fun hb => ?_) (fun hb => ?_);all_goals try exact aJ)|refine nQ (fun KB hB => ?_)|(refine hB _ ?_;clear hB KB)|refine vl (S:=Sg) (by assumption) ?_|(refine an ?_;(try clear hB KB);(try clear hK K)))
 ·rw [decide_eq_false (fun e=>by rw [e] at hb;omega)]
 refine aS (X:=Nat) (fun k=>aZ [(0, .b (.c (.p (kq a)))),(1, .b (.c (.p (kq b)))),(4, .b (B false)),(5, .b (I k))] [] 1) (fun k=>k≤a.length∧∀ j,j<k→aO a j=aO b j) (fun k=>a.length - k) 0 ?_ ?_ ?_
 ·exact ⟨Nat.zero_le _,fun j hj=>absurd hj (Nat.not_lt_zero _)⟩
 ·refine ay [] ?_ ?_
  and_intros
  all_goals first|exact ao|skip
 ·rintro k ⟨hk,hp⟩
  repeat' (first|with_reducible exact cn|refine ak ?_|((first|refine ai (fun K hK => ?_)|refine wO ?_);and_intros;all_goals first|(refine hK _ ?_;clear hK K)|try exact aa)|((first|apply eE|apply kn);(case hf=>rfl);(case hc=>exact eC);(all_goals first|(intro hb;(try simp only [qK] at hb))|skip))|exact bO|(refine bc (fun hb => ?_) (fun hb => ?_);all_goals try exact aJ)|refine nQ (fun KB hB => ?_)|(refine hB _ ?_;clear hB KB)|refine vl (S:=Sg) (by assumption) ?_|(refine an ?_;(try clear hB KB);(try clear hK K)))
  ·rw [decide_eq_false]
   intro e
   subst e
   simp at hb
  ·rw [ah]
   refine au (k+1) ?_ ⟨by omega,fun j hj => ?_⟩ (by omega)
   ·refine ay [] ?_ ?_
    and_intros
    all_goals first|exact ao|skip
   ·by_cases e:j=k
    ·obtain ⟨e1,e2,e3,e4,e5,e6,e7,e8,e9,e10,e11,e12,_⟩:=hb
     rw [e];exact Nr.2 ⟨e1,e2,e3,e4,e5,e6,e7,e8,e9,e10,e11,e12⟩
    ·exact hp j (by omega)
  ·rw [decide_eq_true (Ey (by omega) fun j hj=>hp j (by omega))]
end Go.Proofs.YtmfblbbemekkoaaGreatDoor
