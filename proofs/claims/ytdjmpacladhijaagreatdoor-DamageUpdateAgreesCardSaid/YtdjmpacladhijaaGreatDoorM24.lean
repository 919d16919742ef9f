/- Part of the proof: WN. -/
import Derived.Test.YtdjmpacladhijaaGreatDoorM23
set_option linter.unusedSimpArgs false
set_option linter.unusedVariables false
set_option maxHeartbeats 4000000
set_option maxRecDepth 16000
namespace Go.Proofs.YtdjmpacladhijaaGreatDoor
open Go Go.SL
open Go.RowKit (wrap64)
attribute [local go_sem] dA
theorem DQ (x:Acc) (b:Pixel) (m:Int) (hm:Full m) (h:AccV x b m):aB Sg 204 [ag (dA x),ag (aU b),U m] (fun r=>r = .b (B true)):=by
 have hvs:=pF b m;rw [lA h.bk] at hvs;have d0:decide (x.c0>x.a)=false:=decide_eq_false (by have:=h.l0;omega);have d1:decide (x.c1>x.a)=false:=decide_eq_false (by have:=h.l1;omega);have d2:decide (x.c2>x.a)=false:=decide_eq_false (by have:=h.l2;omega);have e0:(m == 255 || m == 65535)=true:=by rcases hm.h with q|q <;> rw [q] <;> rfl
 have e1:decide (x.own≤x.a)=true:=decide_eq_true h.oa;have e2:decide (x.own≤x.f)=true:=decide_eq_true h.of;have e3:decide (x.a≤m)=true:=decide_eq_true h.am;have e4:decide (x.f≤m)=true:=decide_eq_true h.fm;have e5:(b.f == b.a)=true:=beq_iff_eq.2 h.bf;have ht:True:=trivial;refine az Tryz.func204 [.tmp 6] ?_;repeat' (refine aC ?_)
 refine aK (X:=Int) (fun i=>aP [(2, .b (U m)),(3, .b (.c (.ptr 0 0))),(4, .b (.c (.ptr 1 0))),(10, .b (ag [PU x.c0,PU x.c1,PU x.c2])),(11, .b (I i))] [(0, .fix ((dA x).map CV.p)),(1, .fix ((aU b).map CV.p))] 2) (fun i=>0≤i∧i≤3) (fun i=>(3 - i).toNat) 0 ?_ ?_ ?_
 ·omega
 ·refine ar [(1,some 1)] ?_ ?_;and_intros;all_goals try exact ak
 ·intro i hi;rcases Ea hi with rfl|rfl|rfl|rfl
  ·repeat' (first|refine aj d0 ?_|refine aC ?_)
   rw [ae];refine ao 1 ?_ (by omega) (by decide);refine ar [(1,some 1)] ?_ ?_;and_intros;all_goals try exact ak
  ·repeat' (first|refine aj d1 ?_|refine aC ?_)
   rw [ae];refine ao 2 ?_ (by omega) (by decide);refine ar [(1,some 1)] ?_ ?_;and_intros;all_goals try exact ak
  ·repeat' (first|refine aj d2 ?_|refine aC ?_)
   rw [ae];refine ao 3 ?_ (by omega) (by decide);refine ar [(1,some 1)] ?_ ?_;and_intros;all_goals try exact ak
  ·repeat' (first|refine aj ht ?_|refine aw ?_|refine an (fun K hK => ?_)|refine aA (fun hg=>hvs) ?_|(refine aq hK ?_;try clear hK K))
   grind
theorem Kw (x:Acc) (b:Pixel) (m:Int) (hm:Full m) (h:AccV x b m):aB Sg 189 [ag (dA x),ag (aU b),U m] (fun r=>r = .tup [ag (aU (bU x b m)),B true]):=by
 have hva:=DQ x b m hm h;have c0:=uC x.c0 b.c0 x.own m hm h.n0 (Int.le_trans h.l0 h.am) h.bk.n0 (Int.le_trans h.bk.l0 h.bk.am) h.o0 h.om;have c1:=uC x.c1 b.c1 x.own m hm h.n1 (Int.le_trans h.l1 h.am) h.bk.n1 (Int.le_trans h.bk.l1 h.bk.am) h.o0 h.om;have c2:=uC x.c2 b.c2 x.own m hm h.n2 (Int.le_trans h.l2 h.am) h.bk.n2 (Int.le_trans h.bk.l2 h.bk.am) h.o0 h.om;have ht:True:=trivial;unfold bU;generalize iC x.c0 b.c0 x.own m=y0 at *
 generalize iC x.c1 b.c1 x.own m=y1 at *
 generalize iC x.c2 b.c2 x.own m=y2 at *
 refine az Tryz.func189 [.cell 6 43, .tmp 7] ?_;repeat' (first|refine aj ht ?_|refine aw ?_|refine an (fun K hK => ?_)|refine aa (hva) ?_|(refine aq hK ?_;try clear hK K))
 refine aK (X:=Int) (fun i=>aP [(2, .b (U m)),(3, .b (.c (.ptr 0 0))),(4, .b (.c (.ptr 1 0))),(6, .b (.c (.ptr 2 0))),(8, .b (.c (.ptr 3 0))),(23, .b (ag [PU x.c0,PU x.c1,PU x.c2])),(24, .b (I i))]
  [(0, .fix ((dA x).map CV.p)),(1, .fix ((aU b).map CV.p)),(2, .fix ((aU bG).map CV.p)),(3, .fix [.p (PU (if 0<i then y0 else 0)), .p (PU (if 1<i then y1 else 0)), .p (PU (if 2<i then y2 else 0)), .p (PU x.own), .p (PU x.f)])] 4)
  (fun i=>0≤i∧i≤3) (fun i=>(3 - i).toNat) 0 ?_ ?_ ?_
 ·omega
 ·refine ar [(1,some 1),(2,some 2),(3,some 3)] ?_ ?_;and_intros;all_goals try exact ak
 ·intro i hi;rcases Ea hi with rfl|rfl|rfl|rfl
  ·repeat' (first|refine aj ht ?_|(((with_reducible refine gx (id:=7) [] (by decide +kernel) (by decide +kernel) ?_ (fun K hK => ?_));exact bZ);(try simp (maxSteps:=999999)(disch:=omega) only [go_sem]);and_intros;(all_goals first|(refine hK _ ba ?_;clear hK K)|exact ai|skip))|refine bL ?_|((first|refine an (fun K hK => ?_)|refine aa (c0) ?_);and_intros;all_goals first|(refine hK _ ?_;clear hK K)|try exact ai))
   refine hK _ trivial ?_;clear hK;repeat' (refine aC ?_)
   rw [ae];refine ao 1 ?_ (by omega) (by decide);refine ar [(1,some 1),(2,some 2),(3,some 3)] ?_ ?_;and_intros;all_goals try exact ak
  ·repeat' (first|refine aj ht ?_|(((with_reducible refine gx (id:=7) [] (by decide +kernel) (by decide +kernel) ?_ (fun K hK => ?_));exact bZ);(try simp (maxSteps:=999999)(disch:=omega) only [go_sem]);and_intros;(all_goals first|(refine hK _ ba ?_;clear hK K)|exact ai|skip))|refine bL ?_|((first|refine an (fun K hK => ?_)|refine aa (c1) ?_);and_intros;all_goals first|(refine hK _ ?_;clear hK K)|try exact ai))
   refine hK _ trivial ?_;clear hK;repeat' (refine aC ?_)
   rw [ae];refine ao 2 ?_ (by omega) (by decide);refine ar [(1,some 1),(2,some 2),(3,some 3)] ?_ ?_;and_intros;all_goals try exact ak
  ·repeat' (first|refine aj ht ?_|(((with_reducible refine gx (id:=7) [] (by decide +kernel) (by decide +kernel) ?_ (fun K hK => ?_));exact bZ);(try simp (maxSteps:=999999)(disch:=omega) only [go_sem]);and_intros;(all_goals first|(refine hK _ ba ?_;clear hK K)|exact ai|skip))|refine bL ?_|((first|refine an (fun K hK => ?_)|refine aa (c2) ?_);and_intros;all_goals first|(refine hK _ ?_;clear hK K)|try exact ai))
   refine hK _ trivial ?_;clear hK;repeat' (refine aC ?_)
   rw [ae];refine ao 3 ?_ (by omega) (by decide);refine ar [(1,some 1),(2,some 2),(3,some 3)] ?_ ?_;and_intros;all_goals try exact ak
  ·repeat' (first|refine aj ht ?_|refine aC ?_)
   rfl
theorem Jm (mode m : Int) (s : Pixel) (x : Acc) (b : Pixel) (hm : Full m) (hmo : 1 ≤ mode ∧ mode ≤ 12) (hs : PixV s m) (hx : AccV x b m) :
  aB Sg 217 [I mode,U m,ag (aU s),ag (dA x),ag (aU b)] (fun r=>r = .tup [ag (dA (bQ true 4 mode m s x b)),B true]):=by
 have hsh:=CQ 4 s.f x.f m hm ⟨by decide,by decide⟩ hs.f0 hs.fm hx.f0 hx.fm;obtain ⟨s1,s2,s3⟩:=hs.pre;obtain ⟨b1,b2,b3⟩:=hx.bk.pre;have htt:True:=trivial;have c1:=uv mode m s.c0 s.a s.f x.c0 b.c0 b.a hm hmo s1 b1 hs.af hs.fm hx.n0 (Int.le_trans hx.l0 hx.am);have c2:=uv mode m s.c1 s.a s.f x.c1 b.c1 b.a hm hmo s2 b2 hs.af hs.fm hx.n1 (Int.le_trans hx.l1 hx.am);have c3:=uv mode m s.c2 s.a s.f x.c2 b.c2 b.a hm hmo s3 b3 hs.af hs.fm hx.n2 (Int.le_trans hx.l2 hx.am);have a1:=Bj m s.a s.f x.a b.a hm hs.a0 hs.af hs.fm hx.a0 hx.am hx.bk.a0 hx.bk.am;have a2:=La m s.a s.f x.own hm hs.a0 hs.af hs.fm hx.o0 hx.om;rw [show bQ true 4 mode m s x b=⟨dB mode m s.c0 s.a s.f x.c0 b.c0 b.a,dB mode m s.c1 s.a s.f x.c1 b.c1 b.a,dB mode m s.c2 s.a s.f x.c2 b.c2 b.a,dU m s.a s.f x.a b.a,dU m s.a s.f x.own 0,eC 4 s.f x.f m⟩ from rfl];generalize dB mode m s.c0 s.a s.f x.c0 b.c0 b.a=y1 at *
 generalize dB mode m s.c1 s.a s.f x.c1 b.c1 b.a=y2 at *
 generalize dB mode m s.c2 s.a s.f x.c2 b.c2 b.a=y3 at *
 generalize dU m s.a s.f x.a b.a=y4 at *
 generalize dU m s.a s.f x.own 0=y5 at *
 generalize eC 4 s.f x.f m=y6 at *
 refine az Tryz.func217 [.cell 10 202, .tmp 11] ?_;repeat' (refine aC ?_)
 refine aK (X:=Int) (fun i=>aP [(0, .b (I mode)),(1, .b (U m)),(7, .b (.c (.ptr 0 0))),(8, .b (.c (.ptr 1 0))),(9, .b (.c (.ptr 2 0))),(10, .b (.c (.ptr 3 0))),(12, .b (.c (.ptr 4 0))),(19, .b (ag [PU x.c0,PU x.c1,PU x.c2])),(20, .b (I i))]
  [(0, .fix ((aU s).map CV.p)),(1, .fix ((dA x).map CV.p)),(2, .fix ((aU b).map CV.p)),(3, .fix ((dA kz).map CV.p)),(4, .fix [.p (PU (if 0<i then y1 else x.c0)), .p (PU (if 1<i then y2 else x.c1)), .p (PU (if 2<i then y3 else x.c2)), .p (PU x.a), .p (PU x.own), .p (PU x.f)])] 5) (fun i=>0≤i∧i≤3) (fun i=>(3 - i).toNat) 0 ?_ ?_ ?_
 ·omega
 ·refine ar [(1,some 1),(2,some 2),(3,some 3),(4,some 4)] ?_ ?_;and_intros;all_goals try exact ak
 ·intro i hi';rcases Ea hi' with rfl|rfl|rfl|rfl
  ·repeat' (first|refine aj htt ?_|(((with_reducible refine bT (id:=5) [] (by decide +kernel) (by decide +kernel) ?_ (fun K hK => ?_));exact bZ);(try simp (maxSteps:=999999)(disch:=omega) only [go_sem]);and_intros;(all_goals first|(refine hK _ ba ?_;clear hK K)|exact ai|skip))|refine bL ?_|((first|refine an (fun K hK => ?_)|refine aa (c1) ?_);and_intros;all_goals first|(refine hK _ ?_;clear hK K)|try exact ai))
   refine hK _ trivial ?_;clear hK;repeat' (first|refine aj htt ?_|refine aC ?_)
   rw [ae];refine ao 1 ?_ (by omega) (by decide);refine ar [(1,some 1),(2,some 2),(3,some 3),(4,some 4)] ?_ ?_;and_intros;all_goals try exact ak
  ·repeat' (first|refine aj htt ?_|(((with_reducible refine bT (id:=5) [] (by decide +kernel) (by decide +kernel) ?_ (fun K hK => ?_));exact bZ);(try simp (maxSteps:=999999)(disch:=omega) only [go_sem]);and_intros;(all_goals first|(refine hK _ ba ?_;clear hK K)|exact ai|skip))|refine bL ?_|((first|refine an (fun K hK => ?_)|refine aa (c2) ?_);and_intros;all_goals first|(refine hK _ ?_;clear hK K)|try exact ai))
   refine hK _ trivial ?_;clear hK;repeat' (first|refine aj htt ?_|refine aC ?_)
   rw [ae];refine ao 2 ?_ (by omega) (by decide);refine ar [(1,some 1),(2,some 2),(3,some 3),(4,some 4)] ?_ ?_;and_intros;all_goals try exact ak
  ·repeat' (first|refine aj htt ?_|(((with_reducible refine bT (id:=5) [] (by decide +kernel) (by decide +kernel) ?_ (fun K hK => ?_));exact bZ);(try simp (maxSteps:=999999)(disch:=omega) only [go_sem]);and_intros;(all_goals first|(refine hK _ ba ?_;clear hK K)|exact ai|skip))|refine bL ?_|((first|refine an (fun K hK => ?_)|refine aa (c3) ?_);and_intros;all_goals first|(refine hK _ ?_;clear hK K)|try exact ai))
   refine hK _ trivial ?_;clear hK;repeat' (first|refine aj htt ?_|refine aC ?_)
   rw [ae];refine ao 3 ?_ (by omega) (by decide);refine ar [(1,some 1),(2,some 2),(3,some 3),(4,some 4)] ?_ ?_;and_intros;all_goals try exact ak
  ·repeat' (first|refine aj htt ?_|refine aw ?_|refine an (fun K hK => ?_)|refine aa (a1) ?_|refine aa (a2) ?_|refine aa (hsh) ?_|(refine aq hK ?_;try clear hK K))
   rfl
theorem UX (ko : Bool) (op mode m : Int) (s : Pixel) (x : Acc) (b : Pixel) (hm : Full m) (ho : 1 ≤ op ∧ op ≤ 12) (hmo : 1 ≤ mode ∧ mode ≤ 12) (hs : PixV s m) (hx : AccV x b m) (hk : ko = true → op = 4) :
  aB Sg 207 [B ko,I op,I mode,U m,ag (aU s),ag (dA x),ag (aU b)] (fun r=>r = .tup [ag (dA (bQ ko op mode m s x b)),B true]):=by
 have hva:=DQ x b m hm hx;have hvp:=pF s m;rw [lA hs] at hvp;have hsh:=CQ op s.f x.f m hm ho hs.f0 hs.fm hx.f0 hx.fm;obtain ⟨s1,s2,s3⟩:=hs.pre;obtain ⟨x1,x2,x3⟩:=hx.pre;have htt:True:=trivial;cases ko
 ·have c1:=xt op mode m s.c0 s.a x.c0 x.a hm ho hmo s1 x1;have c2:=xt op mode m s.c1 s.a x.c1 x.a hm ho hmo s2 x2;have c3:=xt op mode m s.c2 s.a x.c2 x.a hm ho hmo s3 x3;have a1:=CU op s.a x.a m hm ho hs.a0 hs.am hx.a0 hx.am;have a2:=CU op s.a x.own m hm ho hs.a0 hs.am hx.o0 hx.om;rw [show bQ false op mode m s x b=⟨dk op mode m s.c0 s.a x.c0 x.a,dk op mode m s.c1 s.a x.c1 x.a,dk op mode m s.c2 s.a x.c2 x.a,cK op s.a x.a m,cK op s.a x.own m,eC op s.f x.f m⟩ from rfl];generalize dk op mode m s.c0 s.a x.c0 x.a=y1 at *
  generalize dk op mode m s.c1 s.a x.c1 x.a=y2 at *
  generalize dk op mode m s.c2 s.a x.c2 x.a=y3 at *
  generalize cK op s.a x.a m=y4 at *
  generalize cK op s.a x.own m=y5 at *
  generalize eC op s.f x.f m=y6 at *
  refine az Tryz.func207 [.cell 14 202, .tmp 15] ?_;repeat' (first|refine aj htt ?_|refine aw ?_|refine an (fun K hK => ?_)|refine aa (hva) ?_|refine aA (fun hg=>hvp) ?_|(refine aq hK ?_;try clear hK K))
  refine aK (X:=Int) (fun i=>aP [(1, .b (I op)),(2, .b (I mode)),(3, .b (U m)),(11, .b (.c (.ptr 0 0))),(12, .b (.c (.ptr 1 0))),(13, .b (.c (.ptr 2 0))),(14, .b (.c (.ptr 3 0))),(16, .b (.c (.ptr 4 0))),(51, .b (ag [PU x.c0,PU x.c1,PU x.c2])),(52, .b (I i))]
   [(0, .fix ((aU s).map CV.p)),(1, .fix ((dA x).map CV.p)),(2, .fix ((aU b).map CV.p)),(3, .fix ((dA kz).map CV.p)),(4, .fix [.p (PU (if 0<i then y1 else x.c0)), .p (PU (if 1<i then y2 else x.c1)), .p (PU (if 2<i then y3 else x.c2)), .p (PU x.a), .p (PU x.own), .p (PU x.f)])] 5) (fun i=>0≤i∧i≤3) (fun i=>(3 - i).toNat) 0 ?_ ?_ ?_
  ·omega
  ·refine ar [(1,some 1),(2,some 2),(3,some 3),(4,some 4)] ?_ ?_;and_intros;all_goals try exact ak
  ·intro i hi';rcases Ea hi' with rfl|rfl|rfl|rfl
   ·repeat' (first|refine aj htt ?_|(((with_reducible refine bT (id:=9) [] (by decide +kernel) (by decide +kernel) ?_ (fun K hK => ?_));exact bZ);(try simp (maxSteps:=999999)(disch:=omega) only [go_sem]);and_intros;(all_goals first|(refine hK _ ba ?_;clear hK K)|exact ai|skip))|refine bL ?_|((first|refine an (fun K hK => ?_)|refine aa (c1) ?_);and_intros;all_goals first|(refine hK _ ?_;clear hK K)|try exact ai))
    refine hK _ trivial ?_;clear hK;repeat' (first|refine aj htt ?_|refine aC ?_)
    rw [ae];refine ao 1 ?_ (by omega) (by decide);refine ar [(1,some 1),(2,some 2),(3,some 3),(4,some 4)] ?_ ?_;and_intros;all_goals try exact ak
   ·repeat' (first|refine aj htt ?_|(((with_reducible refine bT (id:=9) [] (by decide +kernel) (by decide +kernel) ?_ (fun K hK => ?_));exact bZ);(try simp (maxSteps:=999999)(disch:=omega) only [go_sem]);and_intros;(all_goals first|(refine hK _ ba ?_;clear hK K)|exact ai|skip))|refine bL ?_|((first|refine an (fun K hK => ?_)|refine aa (c2) ?_);and_intros;all_goals first|(refine hK _ ?_;clear hK K)|try exact ai))
    refine hK _ trivial ?_;clear hK;repeat' (first|refine aj htt ?_|refine aC ?_)
    rw [ae];refine ao 2 ?_ (by omega) (by decide);refine ar [(1,some 1),(2,some 2),(3,some 3),(4,some 4)] ?_ ?_;and_intros;all_goals try exact ak
   ·repeat' (first|refine aj htt ?_|(((with_reducible refine bT (id:=9) [] (by decide +kernel) (by decide +kernel) ?_ (fun K hK => ?_));exact bZ);(try simp (maxSteps:=999999)(disch:=omega) only [go_sem]);and_intros;(all_goals first|(refine hK _ ba ?_;clear hK K)|exact ai|skip))|refine bL ?_|((first|refine an (fun K hK => ?_)|refine aa (c3) ?_);and_intros;all_goals first|(refine hK _ ?_;clear hK K)|try exact ai))
    refine hK _ trivial ?_;clear hK;repeat' (first|refine aj htt ?_|refine aC ?_)
    rw [ae];refine ao 3 ?_ (by omega) (by decide);refine ar [(1,some 1),(2,some 2),(3,some 3),(4,some 4)] ?_ ?_;and_intros;all_goals try exact ak
   ·repeat' (first|refine aj htt ?_|refine aw ?_|refine an (fun K hK => ?_)|refine aa (a1) ?_|refine aa (a2) ?_|refine aa (hsh) ?_|(refine aq hK ?_;try clear hK K))
    rfl
 ·obtain rfl:=hk rfl;have hr:=Jm mode m s x b hm hmo hs hx;generalize bQ true 4 mode m s x b=y at *
  refine az Tryz.func207 [.cell 14 202, .tmp 15] ?_;repeat' (first|refine aj htt ?_|refine aw ?_|refine an (fun K hK => ?_)|refine aa (hva) ?_|refine aA (fun hg=>hvp) ?_|refine aa (hr) ?_|(refine aq hK ?_;try clear hK K))
  rfl
end Go.Proofs.YtdjmpacladhijaaGreatDoor
