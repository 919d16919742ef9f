/- Part of the proof: U8, U9, V3, V4, V5, V6, V7, V8, V9. -/
import Derived.Test.YtdjmpacladhijaaGreatDoorM20
import Derived.Test.YtdjmpacladhijaaGreatDoorM29
set_option linter.unusedSimpArgs false
set_option linter.unusedVariables false
set_option maxHeartbeats 4000000
set_option maxRecDepth 16000
namespace Go.Proofs.YtdjmpacladhijaaGreatDoor
open Go Go.SL
open Go.RowKit (wrap64)
section
attribute [local go_sem] qE mh
theorem SI (op mode m cs sl cb ab : Int) (hm : Full m) (ho : 1 ≤ op ∧ op ≤ 12) (hmo : 1 ≤ mode ∧ mode ≤ 12) (hs : Pre cs sl m) (hd : Pre cb ab m) :
  aB Sg 225 [I op,I mode,U m,U cs,U sl,U cb,U ab] (fun r=>r = .tup [ag (mh (dR op mode m cs sl cb ab)),B true]):=by
 have hok:=jG (op:=op) (mode:=mode) hm hs hd;have ht:=lI (mode:=mode) hm hs hd;obtain ⟨s0,sa,am⟩:=hs;obtain ⟨d0,db,bm⟩:=hd;have hle:=hm.le;have hp:=hm.pos;have hb:=GH mode cs sl cb ab hmo ⟨s0,sa,by omega,d0,db,by omega⟩;have hf:=BM op sl ab m hm ho (by omega) am (by omega) bm;have hu:=tz m;rw [show decide (m=255∨m=65535)=true from decide_eq_true hm.h] at hu;have ⟨a1,a2⟩:=mI (op:=op) (a:=sl) (b:=ab) (m:=m) (by omega) am (by omega) bm;have ⟨b1,b2⟩:=oJ (op:=op) (a:=sl) (b:=ab) (m:=m) (by omega) am (by omega) bm;obtain ⟨k1,k2,k3,k4,k5,k6,k7,k8,_⟩:=hok;obtain ⟨t0,t1,t2,t3,t4,t5,t6,t7,_⟩:=ht;unfold dR at *
 dsimp only at k1 k2 k3 k4 k5 k6 k7 k8;generalize aR mode cs sl cb ab=T at *
 generalize iD op sl ab m=fa at *
 generalize jy op sl ab m=fb at *
 have e1:0≤(m - ab) * cs∧(m - ab) * cs≤65535 * 65535:=⟨au (by omega) (by omega),aD (by omega) (by omega) (by omega) (by omega)⟩
 have e2:0≤fb * cb∧fb * cb≤65535 * 65535:=⟨au (by omega) (by omega),aD (by omega) (by omega) (by omega) (by omega)⟩
 have e3:0≤m * m∧m * m≤65535 * 65535:=⟨au (by omega) (by omega),aD (by omega) (by omega) (by omega) (by omega)⟩
 have e4:0≤(m - ab) * cs * fa∧(m - ab) * cs * fa≤65535 * 65535 * 65535:=⟨au e1.1 (by omega),aD e1.2 (by omega) (by omega) (by omega)⟩
 have e5:0≤(m - ab) * cs * fa * T.d∧(m - ab) * cs * fa * T.d≤65535 * 65535 * 65535 * 4294836225:=⟨au e4.1 (by omega),aD e4.2 (by omega) (by omega) (by omega)⟩
 have e6:0≤fb * cb * m∧fb * cb * m≤65535 * 65535 * 65535:=⟨au e2.1 (by omega),aD e2.2 (by omega) (by omega) (by omega)⟩
 have e7:0≤fb * cb * m * T.d∧fb * cb * m * T.d≤65535 * 65535 * 65535 * 4294836225:=⟨au e6.1 (by omega),aD e6.2 (by omega) (by omega) (by omega)⟩
 have e8:0≤T.p * fa:=au t0 a1;have e9:0≤fa * T.q∧fa * T.q≤65535 * 65535:=⟨au (by omega) (by omega),aD (by omega) (by omega) (by omega) (by omega)⟩
 have w1:=rT T.p fa t0 ⟨by omega,by omega⟩ (by omega);have w2:=sY ((m - ab) * cs) fa T.d ⟨by omega,by omega⟩ ⟨by omega,by omega⟩ ⟨by omega,by omega⟩ (by omega);have w3:=sY (fb * cb) m T.d ⟨by omega,by omega⟩ ⟨by omega,by omega⟩ ⟨by omega,by omega⟩ (by omega);have w4:=qL (T.p * fa) ((m - ab) * cs * fa * T.d) e8 e5.1 (by omega);have w5:=qL (T.p * fa+(m - ab) * cs * fa * T.d) (fb * cb * m * T.d) (by omega) e7.1 (by omega);have htt:True:=trivial;refine az Tryz.func225 [.cell 14 274, .tmp 15] ?_;repeat' (first|refine aj htt ?_|refine aw ?_|refine an (fun K hK => ?_)|refine aa (hb) ?_|refine aa (hf) ?_|refine aA (fun hg=>hu) ?_|refine aa (w1) ?_|refine aa (w2) ?_|refine aa (w3) ?_|refine aa (w4) ?_|refine aa (w5) ?_|(refine aq hK ?_;try clear hK K))
 rfl
theorem BT (op mode m cs sl cb ab : Int) (hm : Full m) (ho : 1 ≤ op ∧ op ≤ 12) (hmo : 1 ≤ mode ∧ mode ≤ 12) (hs : Pre cs sl m) (hd : Pre cb ab m) :
  aB Sg 211 [I op,I mode,U m,U cs,U sl,U cb,U ab] (fun r=>r = .tup [U (dk op mode m cs sl cb ab),B true]):=by
 have hok:=jG (op:=op) (mode:=mode) hm hs hd;have hv:=SI op mode m cs sl cb ab hm ho hmo hs hd;have hh:=tO _ hok;have hl:=rv (op:=op) (mode:=mode) hm hs hd;have hl2:=rQ (op:=op) (a:=sl) (b:=ab) hm (by have:=hs.s0;have:=hs.sa;omega) hs.am (by have:=hd.s0;have:=hd.sa;omega) hd.am;have hn:=(mH hok).2.2;have hle:=hm.le;have htt:True:=trivial;have hw:IntKind.u16.wrap (hx (dR op mode m cs sl cb ab))=dk op mode m cs sl cb ab:=iX hn (by unfold dk at hl;omega);refine az Tryz.func211 [.tmp 14, .tmp 15] ?_;repeat' (first|refine aj htt ?_|refine aw ?_|refine an (fun K hK => ?_)|refine aa (hv) ?_|refine aa (hh) ?_|(refine aq hK ?_;try clear hK K))
 rw [hw]
theorem wO (mode m cs sl fs c cb ab : Int) (hm : Full m) (hmo : 1 ≤ mode ∧ mode ≤ 12) (hs : Pre cs sl m) (hd : Pre cb ab m) (hf : sl ≤ fs) (hfm : fs ≤ m) (hc : 0 ≤ c) (hcm : c ≤ m) :
  aB Sg 210 [I mode,U m,U cs,U sl,U fs,U c,U cb,U ab] (fun r=>r = .tup [U (dB mode m cs sl fs c cb ab),B true]):=by
 have hok:=nJ (mode:=mode) hm hs hd hf hfm hc hcm;have hkl:=sg (mode:=mode) (acc:=m) hm hs hd hf hfm hc hcm (Int.le_refl _);have ht:=lI (mode:=mode) hm hs hd;have hh:=tO _ hok;have hn:=(mH hok).2.2;obtain ⟨s0,sa,am⟩:=hs;obtain ⟨d0,db,bm⟩:=hd;have hle:=hm.le;have hp:=hm.pos;have hb:=GH mode cs sl cb ab hmo ⟨s0,sa,by omega,d0,db,by omega⟩;have hi:=oI mode;rw [nT hmo] at hi;have hu:=tz m;rw [show decide (m=255∨m=65535)=true from decide_eq_true hm.h] at hu;have g1:decide (cs>sl)=false:=decide_eq_false (by omega);have g2:decide (sl>fs)=false:=decide_eq_false (by omega);have g3:decide (fs>m)=false:=decide_eq_false (by omega);have g4:decide (cb>ab)=false:=decide_eq_false (by omega);have g5:decide (ab>m)=false:=decide_eq_false (by omega);have g6:decide (c>m)=false:=decide_eq_false (by omega);have hka:dU m sl fs m ab≤m:=(mS hm (by omega) hf hfm (by omega) (Int.le_refl _) (by omega) bm).2;have hw:IntKind.u16.wrap (dB mode m cs sl fs c cb ab)=dB mode m cs sl fs c cb ab:=iX hn (by omega);obtain ⟨k1,k2,k3,k4,k5,k6,k7,k8,_⟩:=hok;obtain ⟨t0,t1,t2,t3,t4,t5,t6,t7,_⟩:=ht;unfold dB at *
 unfold eG at *
 dsimp only at k1 k2 k3 k4 k5 k6 k7 k8;generalize aR mode cs sl cb ab=T at *
 have e1:0≤(m - fs) * c∧(m - fs) * c≤65535 * 65535:=⟨au (by omega) (by omega),aD (by omega) (by omega) (by omega) (by omega)⟩
 have e2:0≤(fs - sl) * cb∧(fs - sl) * cb≤65535 * 65535:=⟨au (by omega) (by omega),aD (by omega) (by omega) (by omega) (by omega)⟩
 have e3:0≤(m - ab) * cs∧(m - ab) * cs≤65535 * 65535:=⟨au (by omega) (by omega),aD (by omega) (by omega) (by omega) (by omega)⟩
 have w1:=zO ((m - fs) * c+(fs - sl) * cb+(m - ab) * cs) T.d ⟨by omega,by omega⟩ ⟨by omega,by omega⟩;have w2:=qL T.p (((m - fs) * c+(fs - sl) * cb+(m - ab) * cs) * T.d) t0 (au (by omega) (by omega)) (by omega);refine az Tryz.func210 [.tmp 16, .tmp 17] ?_;repeat' (first|refine aj (And.intro g1 (And.intro g2 (And.intro g3 (And.intro g4 (And.intro g5 g6))))) ?_|refine aw ?_|refine an (fun K hK => ?_)|refine aa (hi) ?_|refine aA (fun hg=>hu) ?_|refine aa (hb) ?_|(refine aq hK ?_;try clear hK K))
 refine cM (id:=6) (.br 0 (.br 1 (.br 2 (.br 3 (.br 4 (.br 5 (.br 6 (.br 7 (.br 8 (.br 9 (.br 10 (.br 11 (.br 12 .leaf .nil) .nil) .nil) .nil) .nil) .nil) .nil) .nil) .nil) .nil) .nil) .nil) .nil) (by decide +kernel) bZ (fun K0 hW => ?_);refine (fun (tl:∀ st,Le st (aP [(18, .b (.c (.ptr 0 0))),(20, .b (cY m)),(23, .b (.c (.ptr 1 0)))] [(0, .fix ((mh T).map CV.p)),(1, .fix ((qE (T.p+((m - fs) * c+(fs - sl) * cb+(m - ab) * cs) * T.d)).map CV.p))] 2)→K0 st) => ?_) (fun st hl=>hW st _ hl ?_)
 ·clear hW;repeat' (first|exact bp|(refine bO (fun K' hK' => ?_) ?_)|(refine aZ (tl _ ?_);clear tl)|((first|refine aa (w1) ?_|refine aa (w2) ?_);(try simp (maxSteps:=999999)(disch:=omega) only [go_sem]);and_intros;(all_goals first|(refine hK' _ ?_;clear hK' K')|trivial|omega|exact Nat.le_of_ble_eq_true rfl|exact ai|skip))|(simp (maxSteps:=999999)(disch:=omega) only [go_sem];and_intros;(all_goals first|(refine hK' _ ?_;clear hK' K')|trivial|omega|exact Nat.le_of_ble_eq_true rfl|exact ai|skip)))
  all_goals
   refine ar [(1,some 1)] ?_ ?_;and_intros;all_goals try exact ak
 clear hW;repeat' (first|with_reducible exact cz|refine an (fun K hK => ?_)|refine aa (hh) ?_|refine aw ?_|(refine aq hK ?_;try clear hK K))
theorem DX (m a f acc b : Int) (hm : Full m) (ha : 0 ≤ a) (haf : a ≤ f) (hfm : f ≤ m) (h1 : 0 ≤ acc) (h2 : acc ≤ m) (h3 : 0 ≤ b) (h4 : b ≤ m) :
  aB Sg 212 [U m,U a,U f,U acc,U b] (fun r=>r = .tup [U (dU m a f acc b),B true]):=by
 have hle:=hm.le;have hp:=hm.pos;have hbd:=mS hm ha haf hfm h1 h2 h3 h4;have hu:=tz m;rw [show decide (m=255∨m=65535)=true from decide_eq_true hm.h] at hu;have g1:decide (a>f)=false:=decide_eq_false (by omega);have g2:decide (f>m)=false:=decide_eq_false (by omega);have g3:decide (acc>m)=false:=decide_eq_false (by omega);have g4:decide (b>m)=false:=decide_eq_false (by omega);have e1:0≤(m - f) * acc∧(m - f) * acc≤65535 * 65535:=⟨au (by omega) (by omega),aD (by omega) (by omega) (by omega) (by omega)⟩
 have e2:0≤(f - a) * b∧(f - a) * b≤65535 * 65535:=⟨au (by omega) (by omega),aD (by omega) (by omega) (by omega) (by omega)⟩
 have e3:0≤m * a∧m * a≤65535 * 65535:=⟨au (by omega) (by omega),aD (by omega) (by omega) (by omega) (by omega)⟩
 have hh:=lB ((m - f) * acc+(f - a) * b+m * a) m ⟨by omega,by omega⟩ ⟨by omega,by omega⟩;have hw:IntKind.u16.wrap (cn ((m - f) * acc+(f - a) * b+m * a) m)=dU m a f acc b:=iX hbd.1 (Int.le_trans hbd.2 hle);refine az Tryz.func212 [.tmp 10, .tmp 11] ?_;repeat' (first|refine aj (And.intro g1 (And.intro g2 (And.intro g3 g4))) ?_|refine aw ?_|refine an (fun K hK => ?_)|refine aa (hu) ?_|refine aa (hh) ?_|(refine aq hK ?_;try clear hK K))
 rw [hw]
theorem OP (m a f acc : Int) (hm : Full m) (ha : 0 ≤ a) (haf : a ≤ f) (hfm : f ≤ m) (h1 : 0 ≤ acc) (h2 : acc ≤ m) :
  aB Sg 213 [U m,U a,U f,U acc] (fun r=>r = .tup [U (dU m a f acc 0),B true]):=by
 have h:=DX m a f acc 0 hm ha haf hfm h1 h2 (Int.le_refl _) (Int.le_of_lt hm.pos);refine az Tryz.func213 [.tmp 8, .tmp 9] ?_;repeat' (first|with_reducible exact cz|refine an (fun K hK => ?_)|refine aa (h) ?_|refine aw ?_|(refine aq hK ?_;try clear hK K))
end
section
attribute [local go_sem] dA
theorem Ys (ko : Bool) (op mode m : Int) (s : Pixel) (x : Acc) (b : Pixel) (hm : Full m) (ho : 1 ≤ op ∧ op ≤ 12) (hmo : 1 ≤ mode ∧ mode ≤ 12) (hs : PixV s m) (hx : AccV x b m) (hk : ko = true → op = 4) :
  aB Sg 203 [B ko,I op,I mode,U m,ag (aU s),ag (dA x),ag (aU b)] (fun r=>r = .tup [ag (dA (bQ ko op mode m s x b)),B true]):=by
 have hi:=sP op;rw [nT ho] at hi;have hi2:=oI mode;rw [nT hmo] at hi2;have hva:=tK x b m hm hx;have hvp:=iK s m;rw [lA hs] at hvp;have hsh:=SN op s.f x.f m hm hs.f0 hs.fm hx.f0 hx.fm;obtain ⟨s1,s2,s3⟩:=hs.pre;obtain ⟨x1,x2,x3⟩:=hx.pre;obtain ⟨b1,b2,b3⟩:=hx.bk.pre;have htt:True:=trivial;cases ko
 ·have c1:=BT op mode m s.c0 s.a x.c0 x.a hm ho hmo s1 x1;have c2:=BT op mode m s.c1 s.a x.c1 x.a hm ho hmo s2 x2;have c3:=BT op mode m s.c2 s.a x.c2 x.a hm ho hmo s3 x3;have a1:=IP op s.a x.a m hm ho hs.a0 hs.am hx.a0 hx.am;have a2:=IP op s.a x.own m hm ho hs.a0 hs.am hx.o0 hx.om;rw [show bQ false op mode m s x b=⟨dk op mode m s.c0 s.a x.c0 x.a,dk op mode m s.c1 s.a x.c1 x.a,dk op mode m s.c2 s.a x.c2 x.a,cK op s.a x.a m,cK op s.a x.own m,eC op s.f x.f m⟩ from rfl];generalize dk op mode m s.c0 s.a x.c0 x.a=y1 at *
  generalize dk op mode m s.c1 s.a x.c1 x.a=y2 at *
  generalize dk op mode m s.c2 s.a x.c2 x.a=y3 at *
  generalize cK op s.a x.a m=y4 at *
  generalize cK op s.a x.own m=y5 at *
  generalize eC op s.f x.f m=y6 at *
  refine az Tryz.func203 [.cell 14 202, .tmp 15] ?_;repeat' (first|refine aj htt ?_|refine aw ?_|refine an (fun K hK => ?_)|refine aa (hi) ?_|refine aA (fun hg=>hi2) ?_|refine aA (fun hg=>hva) ?_|refine aA (fun hg=>hvp) ?_|refine aa (hsh) ?_|(refine aq hK ?_;try clear hK K))
  refine aK (X:=Int) (fun i=>aP [(0, .b (B false)),(1, .b (I op)),(2, .b (I mode)),(3, .b (U m)),(11, .b (.c (.ptr 0 0))),(12, .b (.c (.ptr 1 0))),(13, .b (.c (.ptr 2 0))),(14, .b (.c (.ptr 3 0))),(16, .b (.c (.ptr 4 0))),(17, .b (I i))]
   [(0, .fix ((aU s).map CV.p)),(1, .fix ((dA x).map CV.p)),(2, .fix ((aU b).map CV.p)),(3, .fix ((dA kz).map CV.p)),(4, .fix [.p (PU (if 0<i then y1 else 0)), .p (PU (if 1<i then y2 else 0)), .p (PU (if 2<i then y3 else 0)), .p (PU 0), .p (PU 0), .p (PU y6)])] 5) (fun i=>0≤i∧i≤3) (fun i=>(3 - i).toNat) 0 ?_ ?_ ?_
  ·omega
  ·refine ar [(1,some 1),(2,some 2),(3,some 3),(4,some 4)] ?_ ?_;and_intros;all_goals try exact ak
  ·intro i hi';have hiv:i=0∨i=1∨i=2∨i=3:=by omega
   rcases hiv with rfl|rfl|rfl|rfl
   ·repeat' (first|refine aj htt ?_|refine aw ?_|refine an (fun K hK => ?_)|refine aa (c1) ?_|(refine aq hK ?_;try clear hK K))
    rw [ae];refine ao 1 ?_ (by omega) (by decide);refine ar [(1,some 1),(2,some 2),(3,some 3),(4,some 4)] ?_ ?_;and_intros;all_goals try exact ak
   ·repeat' (first|refine aj htt ?_|refine aw ?_|refine an (fun K hK => ?_)|refine aa (c2) ?_|(refine aq hK ?_;try clear hK K))
    rw [ae];refine ao 2 ?_ (by omega) (by decide);refine ar [(1,some 1),(2,some 2),(3,some 3),(4,some 4)] ?_ ?_;and_intros;all_goals try exact ak
   ·repeat' (first|refine aj htt ?_|refine aw ?_|refine an (fun K hK => ?_)|refine aa (c3) ?_|(refine aq hK ?_;try clear hK K))
    rw [ae];refine ao 3 ?_ (by omega) (by decide);refine ar [(1,some 1),(2,some 2),(3,some 3),(4,some 4)] ?_ ?_;and_intros;all_goals try exact ak
   ·repeat' (first|refine aj htt ?_|refine aw ?_|refine an (fun K hK => ?_)|refine aa (a1) ?_|refine aa (a2) ?_|(refine aq hK ?_;try clear hK K))
    rfl
 ·obtain rfl:=hk rfl;have c1:=wO mode m s.c0 s.a s.f x.c0 b.c0 b.a hm hmo s1 b1 hs.af hs.fm hx.n0 (Int.le_trans hx.l0 hx.am);have c2:=wO mode m s.c1 s.a s.f x.c1 b.c1 b.a hm hmo s2 b2 hs.af hs.fm hx.n1 (Int.le_trans hx.l1 hx.am);have c3:=wO mode m s.c2 s.a s.f x.c2 b.c2 b.a hm hmo s3 b3 hs.af hs.fm hx.n2 (Int.le_trans hx.l2 hx.am);have a1:=DX m s.a s.f x.a b.a hm hs.a0 hs.af hs.fm hx.a0 hx.am hx.bk.a0 hx.bk.am;have a2:=OP m s.a s.f x.own hm hs.a0 hs.af hs.fm hx.o0 hx.om;rw [show bQ true 4 mode m s x b=⟨dB mode m s.c0 s.a s.f x.c0 b.c0 b.a,dB mode m s.c1 s.a s.f x.c1 b.c1 b.a,dB mode m s.c2 s.a s.f x.c2 b.c2 b.a,dU m s.a s.f x.a b.a,dU m s.a s.f x.own 0,eC 4 s.f x.f m⟩ from rfl];generalize dB mode m s.c0 s.a s.f x.c0 b.c0 b.a=y1 at *
  generalize dB mode m s.c1 s.a s.f x.c1 b.c1 b.a=y2 at *
  generalize dB mode m s.c2 s.a s.f x.c2 b.c2 b.a=y3 at *
  generalize dU m s.a s.f x.a b.a=y4 at *
  generalize dU m s.a s.f x.own 0=y5 at *
  generalize eC 4 s.f x.f m=y6 at *
  refine az Tryz.func203 [.cell 14 202, .tmp 15] ?_;repeat' (first|refine aj htt ?_|refine aw ?_|refine an (fun K hK => ?_)|refine aa (hi) ?_|refine aA (fun hg=>hi2) ?_|refine aA (fun hg=>hva) ?_|refine aA (fun hg=>hvp) ?_|refine aa (hsh) ?_|(refine aq hK ?_;try clear hK K))
  refine aK (X:=Int) (fun i=>aP [(0, .b (B true)),(1, .b (I 4)),(2, .b (I mode)),(3, .b (U m)),(11, .b (.c (.ptr 0 0))),(12, .b (.c (.ptr 1 0))),(13, .b (.c (.ptr 2 0))),(14, .b (.c (.ptr 3 0))),(16, .b (.c (.ptr 4 0))),(17, .b (I i))]
   [(0, .fix ((aU s).map CV.p)),(1, .fix ((dA x).map CV.p)),(2, .fix ((aU b).map CV.p)),(3, .fix ((dA kz).map CV.p)),(4, .fix [.p (PU (if 0<i then y1 else 0)), .p (PU (if 1<i then y2 else 0)), .p (PU (if 2<i then y3 else 0)), .p (PU 0), .p (PU 0), .p (PU y6)])] 5) (fun i=>0≤i∧i≤3) (fun i=>(3 - i).toNat) 0 ?_ ?_ ?_
  ·omega
  ·refine ar [(1,some 1),(2,some 2),(3,some 3),(4,some 4)] ?_ ?_;and_intros;all_goals try exact ak
  ·intro i hi';have hiv:i=0∨i=1∨i=2∨i=3:=by omega
   rcases hiv with rfl|rfl|rfl|rfl
   ·repeat' (first|refine aj htt ?_|refine aw ?_|refine an (fun K hK => ?_)|refine aa (c1) ?_|(refine aq hK ?_;try clear hK K))
    rw [ae];refine ao 1 ?_ (by omega) (by decide);refine ar [(1,some 1),(2,some 2),(3,some 3),(4,some 4)] ?_ ?_;and_intros;all_goals try exact ak
   ·repeat' (first|refine aj htt ?_|refine aw ?_|refine an (fun K hK => ?_)|refine aa (c2) ?_|(refine aq hK ?_;try clear hK K))
    rw [ae];refine ao 2 ?_ (by omega) (by decide);refine ar [(1,some 1),(2,some 2),(3,some 3),(4,some 4)] ?_ ?_;and_intros;all_goals try exact ak
   ·repeat' (first|refine aj htt ?_|refine aw ?_|refine an (fun K hK => ?_)|refine aa (c3) ?_|(refine aq hK ?_;try clear hK K))
    rw [ae];refine ao 3 ?_ (by omega) (by decide);refine ar [(1,some 1),(2,some 2),(3,some 3),(4,some 4)] ?_ ?_;and_intros;all_goals try exact ak
   ·repeat' (first|refine aj htt ?_|refine aw ?_|refine an (fun K hK => ?_)|refine aa (a1) ?_|refine aa (a2) ?_|(refine aq hK ?_;try clear hK K))
    rfl
end
section
attribute [local go_sem] dA
theorem MC {a b:Int} (h:b≤a) (ha:i64 a) (hb:i64 b):IntKind.u64.wrap (IntKind.u64.wrap a - IntKind.u64.wrap b)=a - b:=by
 obtain ⟨a1,a2⟩:=ha;obtain ⟨b1,b2⟩:=hb;have e:∀ n:Int,IntKind.u64.wrap n=n % 18446744073709551616:=fun n=>rfl;rw [e,e,e];omega
theorem LD (m:Image) (x y dx dy:Int) (hx:i64 x) (hy:i64 y) (hdx:i64 dx) (hdy:i64 dy):aB Sg 181 [ag (aF m),I x,I y,I dx,I dy] (fun r=>r = .b (ag (aU (gm m x y dx dy)))):=by
 have w1:=fun h=>MC (a:=x) (b:=dx) h hx hdx;have w2:=fun h=>MC (a:=y) (b:=dy) h hy hdy;by_cases hc:x<dx∨y<dy
 ·have e:gm m x y dx dy=bG:=by unfold gm;rw [if_pos (by omega)]
  rw [e];have g:(decide (x<dx) || decide (y<dy))=true:=by simp only [Bool.or_eq_true,decide_eq_true_eq];exact hc
  have g2:∀ a b:Bool,(decide (x<dx) || decide (y<dy) || a || b)=true:=fun a b=>by rw [g];rfl
  refine az Tryz.func181 [.cell 10 43] ?_;repeat' (first|refine aj (And.intro g g2) ?_|refine aC ?_)
  rfl
 ·have hc1:dx≤x:=by omega
  have hc2:dy≤y:=by omega
  have w1:=w1 hc1;have w2:=w2 hc2;have g1:decide (x<dx)=false:=decide_eq_false (by omega);have g2:decide (y<dy)=false:=decide_eq_false (by omega);by_cases hd:1099511627776≤x - dx∨1099511627776≤y - dy
  ·have e:gm m x y dx dy=bG:=by unfold gm;rw [if_pos (by omega)]
   rw [e];have g3:(decide (IntKind.u64.wrap (IntKind.u64.wrap x - IntKind.u64.wrap dx)≥1099511627776) || decide (IntKind.u64.wrap (IntKind.u64.wrap y - IntKind.u64.wrap dy)≥1099511627776))=true:=by
    rw [w1,w2];simp only [Bool.or_eq_true,decide_eq_true_eq];omega
   refine az Tryz.func181 [.cell 10 43] ?_;repeat' (first|refine aj (And.intro g1 (And.intro g2 g3)) ?_|refine aC ?_)
   rfl
  ·have e:gm m x y dx dy=dN m (x - dx) (y - dy):=by unfold gm;rw [if_neg (by omega)]
   rw [e];have ha:=Ib m (x - dx) (y - dy);generalize dN m (x - dx) (y - dy)=q at *
   have g3:decide (IntKind.u64.wrap (IntKind.u64.wrap x - IntKind.u64.wrap dx)≥1099511627776)=false:=by rw [w1];exact decide_eq_false (by omega)
   have g4:decide (IntKind.u64.wrap (IntKind.u64.wrap y - IntKind.u64.wrap dy)≥1099511627776)=false:=by rw [w2];exact decide_eq_false (by omega)
   refine az Tryz.func181 [.cell 10 43] ?_;repeat' (first|refine aj (And.intro g1 (And.intro g2 (And.intro g3 g4))) ?_|refine aw ?_|refine an (fun K hK => ?_)|refine aa (ha) ?_|(refine aq hK ?_;try clear hK K))
   rfl
theorem qW (a:Acc):aB Sg 145 [ag (dA a)] (fun r=>r = .b (ag (aU ⟨a.c0,a.c1,a.c2,a.a,a.f⟩))):=by
 have ht:True:=trivial;refine az Tryz.func145 [.cell 2 43] ?_;repeat' (refine aC ?_)
 rfl
theorem DY (m : Int) (o : Op) (p : Pixel) (k : Int) (hm : Full m) (hp : PixV p m) (hk : 0 ≤ k) (hkm : k ≤ m) (ho : 0 ≤ o.opacity) (hom : o.opacity ≤ m) :
  aB Sg 183 [ag (cC o),ag (aU p),U k,U m] (fun r=>r = .tup [ag (aU (aL m o p k)),B true]):=by
 have hpos:=hm.pos;unfold aL;by_cases h:o.mask=0
 ·rw [if_pos h];have hb:=Ma p m o.opacity m hm hp (by omega) (Int.le_refl _) ho hom;have g:(o.mask != 0)=false:=by rw [bne_eq_false_iff_eq];exact h
  generalize bY (bY p m m) o.opacity m=q at *
  refine az Tryz.func183 [.cell 8 43, .tmp 9] ?_;repeat' (first|refine aj g ?_|refine aw ?_|refine an (fun K hK => ?_)|refine aa (hb) ?_|(refine aq hK ?_;try clear hK K))
  rfl
 ·rw [if_neg h];have hb:=Ma p k o.opacity m hm hp hk hkm ho hom;have g:(o.mask != 0)=true:=by rw [bne_iff_ne];exact h
  generalize bY (bY p k m) o.opacity m=q at *
  refine az Tryz.func183 [.cell 8 43, .tmp 9] ?_;repeat' (first|refine aj g ?_|refine aw ?_|refine an (fun K hK => ?_)|refine aa (hb) ?_|(refine aq hK ?_;try clear hK K))
  rfl
theorem Em (s : Script) (o : Op) (x y : Int) (hs : ScriptLen s) (hx : i64 x) (hy : i64 y) (h1 : i64 o.x) (h2 : i64 o.y) (h3 : i64 o.maskX) (h4 : i64 o.maskY) :
  aB Sg 143 [ag (ay s),ag (cC o),I x,I y] (fun r=>r = .tup [ag (aU (bg s x y o).1),U (bg s x y o).2]):=by
 have hl:=hs.images;have n1:=LD (s.images.getD o.image.toNat default) x y o.x o.y hx hy h1 h2;have n2:=LD (s.images.getD (o.mask - 1).toNat default) x y o.maskX o.maskY hx hy h3 h4;unfold bg cH;by_cases c1:o.kind=1∧0≤o.image∧o.image<s.images.length
 ·have g1:(o.kind == 1 && decide (o.image≥0) && decide (o.image<s.images.length))=true:=by simp only [Bool.and_eq_true,beq_iff_eq,decide_eq_true_eq];omega
  by_cases c2:1≤o.mask∧o.mask≤s.images.length
  ·have g2:(decide (o.mask≥1) && decide (o.mask≤s.images.length))=true:=by simp only [Bool.and_eq_true,decide_eq_true_eq];omega
   rw [if_pos c1,if_pos c2];generalize gm (s.images.getD o.image.toNat default) x y o.x o.y=q1 at *
   generalize gm (s.images.getD (o.mask - 1).toNat default) x y o.maskX o.maskY=q2 at *
   refine az Tryz.func143 [.cell 8 43, .tmp 9] ?_;repeat' (first|refine aj (And.intro g1 g2) ?_|refine aw ?_|refine an (fun K hK => ?_)|refine aa (n1) ?_|refine aa (n2) ?_|(refine aq hK ?_;try clear hK K))
   rfl
  ·have g2:(decide (o.mask≥1) && decide (o.mask≤s.images.length))=false:=by rw [← Bool.not_eq_true,Bool.and_eq_true,decide_eq_true_eq,decide_eq_true_eq];omega
   rw [if_pos c1,if_neg c2];generalize gm (s.images.getD o.image.toNat default) x y o.x o.y=q1 at *
   refine az Tryz.func143 [.cell 8 43, .tmp 9] ?_;repeat' (first|refine aj (And.intro g1 g2) ?_|refine aw ?_|refine an (fun K hK => ?_)|refine aa (n1) ?_|(refine aq hK ?_;try clear hK K))
   rfl
 ·have g1:(o.kind == 1 && decide (o.image≥0) && decide (o.image<s.images.length))=false:=by rw [← Bool.not_eq_true,Bool.and_eq_true,Bool.and_eq_true,beq_iff_eq,decide_eq_true_eq,decide_eq_true_eq];omega
  by_cases c2:1≤o.mask∧o.mask≤s.images.length
  ·have g2:(decide (o.mask≥1) && decide (o.mask≤s.images.length))=true:=by simp only [Bool.and_eq_true,decide_eq_true_eq];omega
   rw [if_neg c1,if_pos c2];generalize gm (s.images.getD (o.mask - 1).toNat default) x y o.maskX o.maskY=q2 at *
   refine az Tryz.func143 [.cell 8 43, .tmp 9] ?_;repeat' (first|refine aj (And.intro g1 g2) ?_|refine aw ?_|refine an (fun K hK => ?_)|refine aa (n2) ?_|(refine aq hK ?_;try clear hK K))
   rfl
  ·have g2:(decide (o.mask≥1) && decide (o.mask≤s.images.length))=false:=by rw [← Bool.not_eq_true,Bool.and_eq_true,decide_eq_true_eq,decide_eq_true_eq];omega
   rw [if_neg c1,if_neg c2];refine az Tryz.func143 [.cell 8 43, .tmp 9] ?_;repeat' (first|refine aj (And.intro g1 g2) ?_|refine aC ?_)
   rfl
end
section
attribute [local go_sem] dA
theorem lv0 {g : Nat → PV} {t : Lv} (h : lL g t) : g 0 = PI t.op.kind ∧ g 1 = PI t.op.image ∧ g 2 = PI t.op.x ∧ g 3 = PI t.op.y ∧ g 4 = PI t.op.mask ∧ g 5 = PI t.op.maskX ∧ g 6 = PI t.op.maskY ∧ g 7 = PU t.op.opacity ∧ g 8 = PI t.op.operator ∧ g 9 = PI t.op.mode ∧
  g 10=PB t.op.isolated∧g 11=PB t.op.knockout∧g 12=PU t.acc.c0∧g 13=PU t.acc.c1∧g 14=PU t.acc.c2∧g 15=PU t.acc.a∧g 16=PU t.acc.own∧g 17=PU t.acc.f∧g 18=PU t.back.c0∧g 19=PU t.back.c1∧g 20=PU t.back.c2∧g 21=PU t.back.a∧g 22=PU t.back.f :=
 ⟨h 0 (by decide),h 1 (by decide),h 2 (by decide),h 3 (by decide),h 4 (by decide),h 5 (by decide),h 6 (by decide),h 7 (by decide),h 8 (by decide),h 9 (by decide),h 10 (by decide),h 11 (by decide),h 12 (by decide),h 13 (by decide),h 14 (by decide),h 15 (by decide),h 16 (by decide),
  h 17 (by decide),h 18 (by decide),h 19 (by decide),h 20 (by decide),h 21 (by decide),h 22 (by decide)⟩
attribute [local go_sem] Ks fQ Int.toNat_natCast Nf
theorem uR (m:Int) (n:Nat) (f:Nat→Nat→PV) (hl:n≤1000):aB Sg 150 [Ks m (n+1) f] (fun x=>x = .b (I n)):=by
 have ht:True:=trivial;refine az Tryz.func150 [.tmp 2] ?_;repeat' (first|with_reducible exact cz|refine aC ?_)
theorem zV (m:Int) (n:Nat) (f:Nat→Nat→PV) (hl:n≤1000):aB Sg 153 [Ks m (n+1) f] (fun x=>x = .b (I n)):=by
 have ht:True:=trivial;refine az Tryz.func153 [.tmp 2] ?_;repeat' (first|with_reducible exact cz|refine aC ?_)
theorem JL (m:Int) (n:Nat) (f:Nat→Nat→PV) (t:Lv) (hl:n≤1000) (hf:lL (f n) t):aB Sg 146 [Ks m (n+1) f] (fun x=>x = .b (ag (dA t.acc))):=by
 have ht:True:=trivial;have h1:=uR m n f hl;obtain ⟨_,_,_,_,_,_,_,_,_,_,_,_,e12,e13,e14,e15,e16,e17,_⟩:=lv0 hf;refine az Tryz.func146 [.cell 2 202] ?_;repeat' (first|refine an (fun K hK => ?_)|refine aa (h1) ?_|refine aw ?_|(refine aq hK ?_;try clear hK K))
 simp only [e12,e13,e14,e15,e16,e17];rfl
theorem VB (m:Int) (n:Nat) (f:Nat→Nat→PV) (t:Lv) (hl:n≤1000) (hf:lL (f n) t):aB Sg 149 [Ks m (n+1) f] (fun x=>x = .b (ag (aU t.back))):=by
 have ht:True:=trivial;have h1:=uR m n f hl;obtain ⟨_,_,_,_,_,_,_,_,_,_,_,_,_,_,_,_,_,_,e18,e19,e20,e21,e22⟩:=lv0 hf;refine az Tryz.func149 [.cell 2 43] ?_;repeat' (first|refine an (fun K hK => ?_)|refine aa (h1) ?_|refine aw ?_|(refine aq hK ?_;try clear hK K))
 simp only [e18,e19,e20,e21,e22];rfl
theorem Kh (m:Int) (f:Nat→Nat→PV) (t:Lv) (hf:lL (f 0) t) (hm:Full m) (hv:AccV t.acc t.back m):aB Sg 95 [Ks m 1 f] (fun x=>x = .tup [ag (aU (bU t.acc t.back m)),I 0]):=by
 have ht:True:=trivial;have h1:=zV m 0 f (by decide);obtain ⟨_,_,_,_,_,_,_,_,_,_,_,_,e12,e13,e14,e15,e16,e17,e18,e19,e20,e21,e22⟩:=lv0 hf;have h2:aB Sg 151 [ag [f 0 12,f 0 13,f 0 14,f 0 15,f 0 16,f 0 17],ag [f 0 18,f 0 19,f 0 20,f 0 21,f 0 22],U m] (fun r=>r = .tup [ag (aU (bU t.acc t.back m)),B true]):=by
  rw [e12,e13,e14,e15,e16,e17,e18,e19,e20,e21,e22];exact wM t.acc t.back m hm hv
 generalize bU t.acc t.back m=q at *
 have g:decide (((0:Nat):Int)>0)=false:=by decide
 refine az Tryz.func95 [.cell 2 43, .tmp 3] ?_;repeat' (first|refine aj g ?_|(((with_reducible refine bT (id:=3) [] (by decide +kernel) (by decide +kernel) ?_ (fun K hK => ?_));exact bZ);(try simp (maxSteps:=999999)(disch:=omega) only [go_sem]);and_intros;(all_goals first|(refine hK _ ba ?_;clear hK K)|exact ai|skip))|refine bL ?_|((first|refine an (fun K hK => ?_)|refine aa (h1) ?_|refine aa (h2) ?_);and_intros;all_goals first|(refine hK _ ?_;clear hK K)|try exact ai))
 refine hK _ trivial ?_;clear hK;repeat' (refine aC ?_)
 rfl
theorem Uy (p:Pixel):(SV.b (ag (aU p))).flat:=fun c hc=>by
 obtain ⟨x,hx,rfl⟩:=List.mem_map.1 hc;simp only [aU,List.mem_cons,List.not_mem_nil,or_false] at hx;rcases hx with rfl|rfl|rfl|rfl|rfl <;> trivial
theorem Bg (a:Acc):(SV.b (ag (dA a))).flat:=fun c hc=>by
 obtain ⟨x,hx,rfl⟩:=List.mem_map.1 hc;simp only [dA,List.mem_cons,List.not_mem_nil,or_false] at hx;rcases hx with rfl|rfl|rfl|rfl|rfl|rfl <;> trivial
theorem Zf {bx:Nat→Option Bx} {b k n e:Nat} {m:Int} {g:Nat→Nat→PV} (hb:bx b=some (.fix [.p (PU m), .own k n])) (hk:bx k=some (.arr e 23 n g)):gq bx (.c (.ptr b 0))=Ks m n g:=by
 have h0:iV bx (.own k n) = .p (.lst 23 n g):=by simp only [iV,hk,Nat.le_refl,if_true]
 have hf:(fun j=>(iV bx (([CV.p (PU m), .own k n]:List CV).getD (0+j) .any)).toP)=fun j=>[PU m, .lst 23 n g].getD j .any:=by
  funext j
  match j with
  | 0=>rfl
  | 1=>show (iV bx (.own k n)).toP=_;rw [h0];rfl
  | j+2=>rw [show 0+(j+2)=j+2 by omega];rfl
 simp only [gq,qD,hb];unfold Ks;rw [if_pos (Nat.zero_le _)];exact congrArg (fun g=>BV.c (.ipt 2 g 0)) hf
theorem mq {st : St} {f : FuncId} {K : SV → St → Prop} {X : SV} {b k n : Nat} {m : Int} {g : Nat → Nat → PV} {q : Prop} (h : aB Sg f [Ks m n g] (fun r => r = X)) (hf : X.flat) (hk : q)
  (h1:st.bx b=some (.fix [.p (PU m), .own k n]):=by (first|(simp (maxSteps:=999999)(disch:=omega) only [go_sem];done)|rfl|fail)) (h2:st.bx k=some (.arr 208 23 n g):=by (first|(simp (maxSteps:=999999)(disch:=omega) only [go_sem];done)|rfl|fail)) (hp:Sg.rcv (f+1000000)=false:=by rfl)
  (w:q→K X st:=by (first|(intro h;first|(simp (maxSteps:=999999)(disch:=omega) only [go_sem];exact h)|exact h)|fail)):dY Sg st f [.c (.ptr b 0)] (Sl.of K):=by
 refine .lend [Ks m n g] X h ?_ ?_ hf (w hk) hp
 ·rw [List.map_cons,List.map_nil,Zf h1 h2];exact ik _
 ·intro x hx;rw [List.mem_singleton.1 hx];trivial
end
section
attribute [local go_sem] dA Nf fQ Int.toNat_natCast dQ
theorem FW {a c nx:Nat} {A C:Bx} {bx b:Nat→Option Bx} (hw:∀ i,nx≤i→bx i=none) (h1:b a=some A) (h2:b c=some C) (h3:∀ i,i<nx→i≠a→i≠c→b i=bx i):Sub (aJ a A (aJ c C bx)) b:=fun i y hi=>by
 unfold aJ at hi;split at hi
 ·rename_i e;rw [e,h1];exact hi
 rename_i e;split at hi
 ·rename_i e2;rw [e2,h2];exact hi
 ·rename_i e2;rcases Nat.lt_or_ge i nx with q|q
  ·rw [h3 i q e e2];exact hi
  ·rw [hw i q] at hi;cases hi
theorem Yj (bx : Nat → Option Bx) (nx : Nat) (m : Int) (hm : Full m) (hw : ∀ i, nx ≤ i → bx i = none) : ∃ F : Nat → Nat → PV, lL (F 0) base ∧ lj Sg bx nx 142 [U m] (.tup [.c (.ptr (nx + 1) 0), I 0])
  (aJ (nx+1) (.fix [.p (PU m), .own nx 1]) (aJ nx (.arr 208 23 1 F) bx)) (nx+2):=by
 have hfu:=tz m;rw [Vm hm] at hfu;have ht:True:=trivial;refine ⟨?F, ?hF, ?hI⟩
 case hI =>
  refine oC Tryz.func142 rfl (rs:=[.tmp 2, .tmp 3]) rfl rfl dI (by decide +kernel) (Nat.le_of_ble_eq_true rfl) ?_ (fun kf => ?_)
  ·intro v hv;rw [List.mem_singleton.1 hv];trivial
  repeat' (first|refine aj ht ?_|refine aw ?_|refine an (fun K hK => ?_)|refine aa (hfu) ?_|(refine aq hK ?_;try clear hK K))
  refine ⟨FW hw ?_ ?_ (fun i hi h1 h2 => ?_),by omega⟩
  ·exact ba
  ·refine bV ?_;rfl
  ·exact ba
 intro j hj;have hivl:j=0∨j=1∨j=2∨j=3∨j=4∨j=5∨j=6∨j=7∨j=8∨j=9∨j=10∨j=11∨j=12∨j=13∨j=14∨j=15∨j=16∨j=17∨j=18∨j=19∨j=20∨j=21∨j=22:=by omega
 rcases hivl with rfl|rfl|rfl|rfl|rfl|rfl|rfl|rfl|rfl|rfl|rfl|rfl|rfl|rfl|rfl|rfl|rfl|rfl|rfl|rfl|rfl|rfl|rfl <;> rfl
def qC (n:Nat) (f:Nat→Nat→PV) (q:Acc):Nat→Nat→PV:=fun i j=>if i=n then (if 12≤j∧j<18 then (([CV.p (PU q.c0),CV.p (PU q.c1),CV.p (PU q.c2),CV.p (PU q.a),CV.p (PU q.own),CV.p (PU q.f)]:List CV).getD (j - 12) .any).toP else f n j) else f i j
theorem Dm {n:Nat} {f:Nat→Nat→PV} {q:Acc} {t:Lv} (hf:lL (f n) t):lL (qC n f q n) { t with acc:=q }:=by
 intro j hj;have hl:=hf j hj;unfold qC;rw [if_pos rfl];have hivl:j=0∨j=1∨j=2∨j=3∨j=4∨j=5∨j=6∨j=7∨j=8∨j=9∨j=10∨j=11∨j=12∨j=13∨j=14∨j=15∨j=16∨j=17∨j=18∨j=19∨j=20∨j=21∨j=22:=by omega
 rcases hivl with rfl|rfl|rfl|rfl|rfl|rfl|rfl|rfl|rfl|rfl|rfl|rfl|rfl|rfl|rfl|rfl|rfl|rfl|rfl|rfl|rfl|rfl|rfl <;> first|rfl|exact hl
theorem Ec {n i j:Nat} {f:Nat→Nat→PV} {q:Acc} (h:i≠n):qC n f q i j=f i j:=if_neg h
theorem Ob (bx : Nat → Option Bx) (nx b k n : Nat) (f : Nat → Nat → PV) (m : Int) (o : Op) (p : Pixel) (t : Lv)
  (hb:bx b=some (.fix [.p (PU m), .own k (n+1)])) (hk:bx k=some (.arr 208 23 (n+1) f)) (hbn:b<nx) (hkn:k<nx) (hbk:b≠k) (hn:n≤1000) (hf:lL (f n) t)
  (hm:Full m) (ho:1≤o.operator∧o.operator≤12) (hmo:1≤o.mode∧o.mode≤12) (hp:PixV p m) (hv:AccV t.acc t.back m) (hko:t.op.knockout=true→o.operator=4) (hw:∀ i,nx≤i→bx i=none) :
  lj Sg bx nx 184 [.c (.ptr b 0),ag (cC o),ag (aU p)] (.b (B true)) (aJ k (.arr 208 23 (n+1) (qC n f (bQ t.op.knockout o.operator o.mode m p t.acc t.back))) bx) (nx+3):=by
 have hl:=lv0 hf;have hst:aB Sg 203 [.c (.p (f n 11)),I o.operator,I o.mode,U m,ag (aU p),ag [f n 12,f n 13,f n 14,f n 15,f n 16,f n 17],ag [f n 18,f n 19,f n 20,f n 21,f n 22]] (fun r=>r = .tup [ag (dA (bQ t.op.knockout o.operator o.mode m p t.acc t.back)),B true]):=by
  obtain ⟨e0,e1,e2,e3,e4,e5,e6,e7,e8,e9,e10,e11,e12,e13,e14,e15,e16,e17,e18,e19,e20,e21,e22⟩:=hl;rw [e11,e12,e13,e14,e15,e16,e17,e18,e19,e20,e21,e22];exact Ys t.op.knockout o.operator o.mode m p t.acc t.back hm ho hmo hp hv hko
 have e:bx=aJ b (.fix [.p (PU m), .own k (n+1)]) (aJ k (.arr 208 23 (n+1) f) bx):=by rw [← eL hk];exact eL hb
 have ht:True:=trivial;generalize bQ t.op.knockout o.operator o.mode m p t.acc t.back=q at *
 refine oC Tryz.func184 rfl (rs:=[.tmp 6]) rfl rfl dI (by decide +kernel) (Nat.le_of_ble_eq_true rfl) ?_ (fun kf => ?_)
 ·intro v hv;simp only [List.mem_cons,List.not_mem_nil,or_false] at hv;rcases hv with rfl|rfl|rfl
  ·exact hbn
  ·exact fun c hc=>by (obtain ⟨x,_,rfl⟩:=List.mem_map.1 hc;trivial)
  ·exact fun c hc=>by (obtain ⟨x,_,rfl⟩:=List.mem_map.1 hc;trivial)
 rw [e];repeat' (first|(((with_reducible refine bT (id:=2) [] (by decide +kernel) (by decide +kernel) ?_ (fun K hK => ?_));exact bZ);(try simp (maxSteps:=999999)(disch:=omega) only [go_sem]);and_intros;(all_goals first|(refine hK _ ba ?_;clear hK K)|exact ai|skip))|((first|refine an (fun K hK => ?_)|refine mq (k:=k) (uR m n f hn) trivial ?_|refine aa (hst) ?_);and_intros;all_goals first|(refine hK _ ?_;clear hK K)|try exact ai))
 refine hK _ trivial ?_;clear hK;repeat' (first|refine aj ht ?_|((with_reducible refine vi (id:=4) [] ?_ (fun K hK => ?_));exact bZ;refine bV ?_)|refine aw ?_|refine an (fun K hK => ?_)|(refine aq hK ?_;try clear hK K)|(refine pz hK ?_;try clear hK K))
 refine Gi (bx:=aJ b (.fix [.p (PU m), .own k (n+1)]) (aJ k (.arr 208 23 (n+1) f) bx)) (nx:=nx) ?_ ?_ (fun i hi h1 => ?_)
 ·rw [← e];exact hw
 ·refine bV ?_;rfl
 ·exact ba
end
section
attribute [local go_sem] dA Nf fQ Int.toNat_natCast dQ
theorem AA {st : St} {K : SV → St → Prop} (b k n : Nat) (f : Nat → Nat → PV) (m : Int) (o : Op) (p : Pixel) (t : Lv)
  (hb:st.bx b=some (.fix [.p (PU m), .own k (n+1)])) (hk:st.bx k=some (.arr 208 23 (n+1) f)) (hbn:b<st.nx) (hkn:k<st.nx) (hbk:b≠k) (hn:n≤1000) (hf:lL (f n) t)
  (hm:Full m) (ho:1≤o.operator∧o.operator≤12) (hmo:1≤o.mode∧o.mode≤12) (hp:PixV p m) (hv:AccV t.acc t.back m) (hko:t.op.knockout=true→o.operator=4) (hw:∀ i,st.nx≤i→st.bx i=none)
  (hK:K (.b (B true)) (st.turn (aJ k (.arr 208 23 (n+1) (qC n f (bQ t.op.knockout o.operator o.mode m p t.acc t.back))) st.bx) (st.nx+3))) :
  dY Sg st 184 [.c (.ptr b 0),ag (cC o),ag (aU p)] (Sl.of K):=by
 refine dS (Ob st.bx st.nx b k n f m o p t hb hk hbn hkn hbk hn hf hm ho hmo hp hv hko hw) rfl (fun i hi => ?_) (by omega) hK;unfold aJ;rw [if_neg (by omega)];exact hw i (by omega)
theorem TI (bx : Nat → Option Bx) (nx b k n : Nat) (f : Nat → Nat → PV) (m : Int) (o : Op) (p : Pixel) (ms : Int) (t : Lv)
  (hb:bx b=some (.fix [.p (PU m), .own k (n+1)])) (hk:bx k=some (.arr 208 23 (n+1) f)) (hbn:b<nx) (hkn:k<nx) (hbk:b≠k) (hn:n≤1000) (hf:lL (f n) t)
  (hm:Full m) (hkd:o.kind=1) (ho:1≤o.operator∧o.operator≤12) (hmo:1≤o.mode∧o.mode≤12) (hop:0≤o.opacity∧o.opacity≤m) (hp:PixV p m) (hms:0≤ms∧ms≤m) (hv:AccV t.acc t.back m) (hko:t.op.knockout=true→o.operator=4) (hw:∀ i,nx≤i→bx i=none) :
  lj Sg bx nx 147 [.c (.ptr b 0),ag (cC o),ag (aU p),U ms] (.tup [ag (aU (aL m o p ms)),I 0]) (aJ k (.arr 208 23 (n+1) (qC n f (bQ t.op.knockout o.operator o.mode m (aL m o p ms) t.acc t.back))) bx) (nx+7):=by
 have hsc:=DY m o p ms hm hp hms.1 hms.2 hop.1 hop.2;have hsv:=pc (o:=o) hm hp hms.1 hms.2 hop.1 hop.2;have e:bx=aJ b (.fix [.p (PU m), .own k (n+1)]) (aJ k (.arr 208 23 (n+1) f) bx):=by rw [← eL hk];exact eL hb
 have g:(o.kind != 1)=false:=by rw [bne_eq_false_iff_eq];exact hkd
 generalize aL m o p ms=q at *
 refine oC Tryz.func147 rfl (rs:=[.cell 8 43, .tmp 9]) rfl rfl dI (by decide +kernel) (Nat.le_of_ble_eq_true rfl) ?_ (fun kf => ?_)
 ·intro v hv;simp only [List.mem_cons,List.not_mem_nil,or_false] at hv;rcases hv with rfl|rfl|rfl|rfl
  ·exact hbn
  ·exact fun c hc=>by (obtain ⟨x,_,rfl⟩:=List.mem_map.1 hc;trivial)
  ·exact fun c hc=>by (obtain ⟨x,_,rfl⟩:=List.mem_map.1 hc;trivial)
  ·trivial
 rw [e];repeat' (first|(((with_reducible refine bT (id:=1) [] (by decide +kernel) (by decide +kernel) ?_ (fun K hK => ?_));exact bZ);(try simp (maxSteps:=999999)(disch:=omega) only [go_sem]);and_intros;(all_goals first|(refine hK _ ba ?_;clear hK K)|exact ai|skip))|((first|refine an (fun K hK => ?_)|refine aa (hsc) ?_);and_intros;all_goals first|(refine hK _ ?_;clear hK K)|try exact ai))
 refine hK _ trivial ?_;clear hK;repeat' (first|refine aj g ?_|refine aw ?_|refine an (fun K hK => ?_)|(refine aq hK ?_;try clear hK K))
 refine AA b k n f m o q t ?_ ?_ ?_ ?_ hbk hn hf hm ho hmo hsv hv hko ?_ ?_
 ·exact ba
 ·exact ba
 ·exact ba
 ·exact ba
 ·intro iw hiw
  (try simp (maxSteps:=999999)(disch:=omega) only [go_sem] at hiw ⊢)
  (repeat (refine Eq.trans (if_neg ?_) ?_;(focus omega)))
  exact hw iw (by omega)
 refine bV ?_;refine hK _ ?_;clear hK;repeat' (first|refine aj g ?_|refine aC ?_)
 refine ⟨rfl,Gi (bx:=aJ b (.fix [.p (PU m), .own k (n+1)]) (aJ k (.arr 208 23 (n+1) f) bx)) (nx:=nx) ?_ ?_ (fun i hi h1 => ?_)⟩
 ·rw [← e];exact hw
 ·exact ba
 ·exact ba
end
section
attribute [local go_sem] dA Nf fQ Int.toNat_natCast dQ
theorem UR (bx : Nat → Option Bx) (nx b k n : Nat) (f : Nat → Nat → PV) (m : Int) (o : Op) (t : Lv)
  (hb:bx b=some (.fix [.p (PU m), .own k (n+1)])) (hk:bx k=some (.arr 208 23 (n+1) f)) (hbn:b<nx) (hkn:k<nx) (hbk:b≠k) (hn:n<64) (hf:lL (f n) t) (hkd:o.kind=2) (hw:∀ i,nx≤i→bx i=none) :
  ∃ F:Nat→Nat→PV,(lL (F (n+1)) (gU o t)∧∀ i,i<n+1→∀ j,F i j=f i j) ∧
  lj Sg bx nx 148 [.c (.ptr b 0),ag (cC o)] (.b (I 0)) (aJ b (.fix [.p (PU m), .own (nx+6) (n+2)]) (aJ (nx+6) (.arr 208 23 (n+2) F) bx)) (nx+7):=by
 have hl:=lv0 hf;have hst:aB Sg 185 [B o.isolated, .c (.p (f n 11)),ag [f n 12,f n 13,f n 14,f n 15,f n 16,f n 17],ag [f n 18,f n 19,f n 20,f n 21,f n 22]] (fun r=>r = .tup [ag (dA (gL (cg o.isolated t.op.knockout t.acc t.back))),ag (aU (cg o.isolated t.op.knockout t.acc t.back))]):=by
  obtain ⟨e0,e1,e2,e3,e4,e5,e6,e7,e8,e9,e10,e11,e12,e13,e14,e15,e16,e17,e18,e19,e20,e21,e22⟩:=hl;rw [e11,e12,e13,e14,e15,e16,e17,e18,e19,e20,e21,e22];exact Qn o.isolated t.op.knockout t.acc t.back
 have e:bx=aJ b (.fix [.p (PU m), .own k (n+1)]) (aJ k (.arr 208 23 (n+1) f) bx):=by rw [← eL hk];exact eL hb
 have g1:(o.kind != 2)=false:=by rw [bne_eq_false_iff_eq];exact hkd
 have g2:decide ((n:Int)≥64)=false:=decide_eq_false (by omega);unfold gU;generalize cg o.isolated t.op.knockout t.acc t.back=q at *
 refine ⟨?F,⟨?hF, ?hG⟩, ?hI⟩
 case hI =>
  refine oC Tryz.func148 rfl (rs:=[.tmp 4]) rfl rfl dI (by decide +kernel) (Nat.le_of_ble_eq_true rfl) ?_ (fun kf => ?_)
  ·intro v hv;simp only [List.mem_cons,List.not_mem_nil,or_false] at hv;rcases hv with rfl|rfl
   ·exact hbn
   ·exact fun c hc=>by (obtain ⟨x,_,rfl⟩:=List.mem_map.1 hc;trivial)
  rw [e];repeat' (first|refine aj (And.intro g1 g2) ?_|refine aw ?_|refine an (fun K hK => ?_)|refine mq (k:=k) (zV m n f (by omega)) trivial ?_|(refine aq hK ?_;try clear hK K))
  refine ni (id:=5) (.br 0 (.br 1 (.br 2 (.br 3 (.br 4 (.br 5 (.br 6 (.br 7 (.br 8 (.br 9 .leaf .nil) .nil) .nil) .nil) (.br 8 (.br 5 (.br 6 (.br 7 (.br 9 .leaf .nil) .nil) .nil) .nil) .nil)) .nil) .nil) .nil) .nil) .nil) (by decide +kernel) ?_ (fun K0 hW => ?_)
  ·exact bZ
  replace hW:=ka hW;repeat' (first|exact bp|(refine bO (fun K' hK' => ?_) ?_)|(refine aZ (hW _ ?_);clear hW)|(refine mq (k:=k) (uR m n f (by omega)) trivial ?_;(try simp (maxSteps:=999999)(disch:=omega) only [go_sem]);and_intros;(all_goals first|(refine hK' _ ?_;clear hK' K')|trivial|omega|exact Nat.le_of_ble_eq_true rfl|exact ai|skip))|(simp (maxSteps:=999999)(disch:=omega) only [go_sem];and_intros;(all_goals first|(refine hK' _ ?_;clear hK' K')|trivial|omega|exact Nat.le_of_ble_eq_true rfl|exact ai|skip)))
  all_goals
   refine gi ?_;repeat' (first|refine an (fun K hK => ?_)|refine aa (hst) ?_|(refine aq hK ?_;try clear hK K))
   refine ni (id:=7) (.br 0 (.br 1 (.br 2 (.br 3 (.br 4 (.br 6 (.br 7 (.br 8 (.br 9 (.br 5 (.br 10 (.br 11 (.br 12 (.br 13 (.br 14 .leaf .nil) .nil) .nil) .nil) .nil) (.br 10 (.br 5 (.br 11 (.br 12 (.br 13 (.br 14 .leaf .nil) .nil) .nil) .nil) .nil) .nil)) .nil) .nil) .nil) .nil) .nil) .nil) .nil) .nil) .nil) (by decide +kernel) ?_ (fun K0 hW => ?_)
   ·exact bZ
   replace hW:=ka hW;repeat' (first|exact bp|(refine bO (fun K' hK' => ?_) ?_)|(refine aZ (hW _ ?_);clear hW)|(simp (maxSteps:=999999)(disch:=omega) only [go_sem];and_intros;(all_goals first|(refine hK' _ ?_;clear hK' K')|trivial|omega|exact Nat.le_of_ble_eq_true rfl|exact ai|skip)))
   all_goals
    refine gi ?_;repeat' (refine aC ?_)
    refine FW (bx:=aJ b (.fix [.p (PU m), .own k (n+1)]) (aJ k (.arr 208 23 (n+1) f) bx)) (nx:=nx) ?_ ?_ ?_ (fun i hi h1 h2 => ?_)
    ·rw [← e];exact hw
    ·exact ba
    ·exact qS
    ·exact ba
 ·intro j hj;show dV (n+1) f _ (n+1) j=_;unfold dV;rw [if_neg (by omega),Nat.sub_self];have hivl:j=0∨j=1∨j=2∨j=3∨j=4∨j=5∨j=6∨j=7∨j=8∨j=9∨j=10∨j=11∨j=12∨j=13∨j=14∨j=15∨j=16∨j=17∨j=18∨j=19∨j=20∨j=21∨j=22:=by omega
  rcases hivl with rfl|rfl|rfl|rfl|rfl|rfl|rfl|rfl|rfl|rfl|rfl|rfl|rfl|rfl|rfl|rfl|rfl|rfl|rfl|rfl|rfl|rfl|rfl <;> rfl
 ·intro i hi j;show dV (n+1) f _ i j=_;unfold dV;rw [if_pos hi]
end
section
attribute [local go_sem] dA Nf fQ Int.toNat_natCast dQ
theorem QA {st:St} {f:FuncId} {args:List BV} {g:Bool} {c:Prop} {d:Option Nat} {K:St→Prop} (hg:g=true) (hc:c) (h:dY Sg st f args (Sl.of fun r st'=>K (st'.set d r))):rgm (some g) c Sg st f args d (Sl.of K) :=
 .inl ⟨fun _=>⟨hc,h⟩,fun h=>by rw [hg] at h;cases h⟩
theorem YR (bx : Nat → Option Bx) (nx b k n : Nat) (f : Nat → Nat → PV) (m ms : Int) (t u : Lv)
  (hb:bx b=some (.fix [.p (PU m), .own k (n+2)])) (hk:bx k=some (.arr 208 23 (n+2) f)) (hbn:b<nx) (hkn:k<nx) (hbk:b≠k) (hn:n<64) (hf:lL (f (n+1)) t) (hf2:lL (f n) u)
  (hm:Full m) (ho:1≤t.op.operator∧t.op.operator≤12) (hmo:1≤t.op.mode∧t.op.mode≤12) (hop:0≤t.op.opacity∧t.op.opacity≤m) (hms:0≤ms∧ms≤m) (hv:AccV t.acc t.back m) (hv2:AccV u.acc u.back m) (hko:u.op.knockout=true→t.op.operator=4) (hw:∀ i,nx≤i→bx i=none) :
  ∃ F:Nat→Nat→PV,(lL (F n) (nz m t.op (aL m t.op (bU t.acc t.back m) ms) u)∧∀ i,i<n→∀ j,F i j=f i j) ∧
  lj Sg bx nx 152 [.c (.ptr b 0),U ms] (.tup [ag (aU (aL m t.op (bU t.acc t.back m) ms)),I 0]) (aJ b (.fix [.p (PU m), .own (nx+4) (n+1)]) (aJ (nx+4) (.arr 208 23 (n+1) F) bx)) (nx+9):=by
 have hl:=lv0 hf;have hrv:=pK hm hv;have hr:aB Sg 151 [ag [f (n+1) 12,f (n+1) 13,f (n+1) 14,f (n+1) 15,f (n+1) 16,f (n+1) 17],ag [f (n+1) 18,f (n+1) 19,f (n+1) 20,f (n+1) 21,f (n+1) 22],U m] (fun r=>r = .tup [ag (aU (bU t.acc t.back m)),B true]):=by
  obtain ⟨e0,e1,e2,e3,e4,e5,e6,e7,e8,e9,e10,e11,e12,e13,e14,e15,e16,e17,e18,e19,e20,e21,e22⟩:=hl;rw [e12,e13,e14,e15,e16,e17,e18,e19,e20,e21,e22];exact wM t.acc t.back m hm hv
 have hsc:aB Sg 183 [ag [f (n+1) 0,f (n+1) 1,f (n+1) 2,f (n+1) 3,f (n+1) 4,f (n+1) 5,f (n+1) 6,f (n+1) 7,f (n+1) 8,f (n+1) 9,f (n+1) 10,f (n+1) 11],ag (aU (bU t.acc t.back m)),U ms,U m] (fun r=>r = .tup [ag (aU (aL m t.op (bU t.acc t.back m) ms)),B true]):=by
  obtain ⟨e0,e1,e2,e3,e4,e5,e6,e7,e8,e9,e10,e11,_⟩:=hl;rw [e0,e1,e2,e3,e4,e5,e6,e7,e8,e9,e10,e11];exact DY m t.op (bU t.acc t.back m) ms hm hrv hms.1 hms.2 hop.1 hop.2
 have ea:BV.agg [CV.p (f (n+1) 0),CV.p (f (n+1) 1),CV.p (f (n+1) 2),CV.p (f (n+1) 3),CV.p (f (n+1) 4),CV.p (f (n+1) 5),CV.p (f (n+1) 6),CV.p (f (n+1) 7),CV.p (f (n+1) 8),CV.p (f (n+1) 9),CV.p (f (n+1) 10),CV.p (f (n+1) 11)]=ag (cC t.op):=by
  obtain ⟨e0,e1,e2,e3,e4,e5,e6,e7,e8,e9,e10,e11,_⟩:=hl;rw [e0,e1,e2,e3,e4,e5,e6,e7,e8,e9,e10,e11];rfl
 have hsv:=pc (o:=t.op) hm hrv hms.1 hms.2 hop.1 hop.2;have e:bx=aJ b (.fix [.p (PU m), .own k (n+2)]) (aJ k (.arr 208 23 (n+2) f) bx):=by rw [← eL hk];exact eL hb
 have g:(((n+1:Nat):Int) == 0)=false:=by rw [beq_eq_false_iff_ne];omega
 generalize aL m t.op (bU t.acc t.back m) ms=q at *
 generalize bU t.acc t.back m=res at *
 refine ⟨?F,⟨?hF, ?hG⟩, ?hI⟩
 case hI =>
  refine oC Tryz.func152 rfl (rs:=[.cell 4 43, .tmp 5]) rfl rfl dI (by decide +kernel) (Nat.le_of_ble_eq_true rfl) ?_ (fun kf => ?_)
  ·intro v hv;simp only [List.mem_cons,List.not_mem_nil,or_false] at hv;rcases hv with rfl|rfl
   ·exact hbn
   ·trivial
  rw [e];repeat' (first|refine aj g ?_|refine aw ?_|refine an (fun K hK => ?_)|refine mq (k:=k) (zV m (n+1) f (by omega)) trivial ?_|(refine aq hK ?_;try clear hK K))
  refine ni (id:=3) (.br 0 (.br 1 (.br 2 (.br 3 (.br 4 (.br 5 (.br 6 (.br 7 (.br 8 (.br 9 .leaf .nil) .nil) .nil) .nil) (.br 8 (.br 5 (.br 6 (.br 7 (.br 9 .leaf .nil) .nil) .nil) .nil) .nil)) .nil) .nil) .nil) .nil) .nil) (by decide +kernel) ?_ (fun K0 hW => ?_)
  ·exact bZ
  replace hW:=ka hW;repeat' (first|exact bp|(refine bO (fun K' hK' => ?_) ?_)|(refine aZ (hW _ ?_);clear hW)|(refine mq (k:=k) (uR m (n+1) f (by omega)) trivial ?_;(try simp (maxSteps:=999999)(disch:=omega) only [go_sem]);and_intros;(all_goals first|(refine hK' _ ?_;clear hK' K')|trivial|omega|exact Nat.le_of_ble_eq_true rfl|exact ai|skip))|(simp (maxSteps:=999999)(disch:=omega) only [go_sem];and_intros;(all_goals first|(refine hK' _ ?_;clear hK' K')|trivial|omega|exact Nat.le_of_ble_eq_true rfl|exact ai|skip)))
  all_goals
   refine gi ?_;repeat' (first|(((with_reducible refine bT (id:=4) [] (by decide +kernel) (by decide +kernel) ?_ (fun K hK => ?_));exact bZ);(try simp (maxSteps:=999999)(disch:=omega) only [go_sem]);and_intros;(all_goals first|(refine hK _ ba ?_;clear hK K)|exact ai|skip))|(refine aa (hr) ?_;and_intros;all_goals first|(refine hK _ ?_;clear hK K)|try exact ai))
   refine hK _ trivial ?_;clear hK;repeat' (first|refine aj g ?_|(((with_reducible refine bT (id:=7) [] (by decide +kernel) (by decide +kernel) ?_ (fun K hK => ?_));exact bZ);(try simp (maxSteps:=999999)(disch:=omega) only [go_sem]);and_intros;(all_goals first|(refine hK _ ba ?_;clear hK K)|exact ai|skip))|refine bL ?_|((first|refine an (fun K hK => ?_)|refine aa (hsc) ?_);and_intros;all_goals first|(refine hK _ ?_;clear hK K)|try exact ai))
   refine hK _ trivial ?_;clear hK;repeat' (first|refine aj g ?_|refine aC ?_)
   refine ni (id:=10) (.br 0 (.br 1 (.br 2 (.br 3 (.br 4 (.br 5 (.br 6 (.br 7 (.br 8 (.br 9 (.br 10 (.br 11 (.br 12 (.br 13 (.br 14 .leaf .nil) .nil) .nil) .nil) .nil) .nil) .nil) .nil) .nil) .nil) .nil) .nil) .nil) .nil) .nil) (by decide +kernel) ?_ (fun K0 hW => ?_)
   ·exact bZ
   replace hW:=ka hW;repeat' (first|exact bp|(refine bO (fun K' hK' => ?_) ?_)|(refine aZ (hW _ ?_);clear hW)|(refine mq (k:=k) (uR m (n+1) f (by omega)) trivial ?_;(try simp (maxSteps:=999999)(disch:=omega) only [go_sem]);and_intros;(all_goals first|(refine hK' _ ?_;clear hK' K')|trivial|omega|exact Nat.le_of_ble_eq_true rfl|exact ai|skip))|(simp (maxSteps:=999999)(disch:=omega) only [go_sem];and_intros;(all_goals first|(refine hK' _ ?_;clear hK' K')|trivial|omega|exact Nat.le_of_ble_eq_true rfl|exact ai|skip)))
   all_goals
    refine gi ?_;repeat' (first|refine aw ?_|refine an (fun K hK => ?_)|(refine aq hK ?_;try clear hK K))
    refine QA rfl rfl ?_;rw [ea];refine AA (nx+5) (nx+4) n f m t.op q u ?_ ?_ ?_ ?_ ?_ ?_ hf2 hm ho hmo hsv hv2 hko ?_ ?_
    ·exact ba
    ·exact ba
    ·exact Ll
    ·exact Ll
    ·omega
    ·omega
    ·intro iw hiw
     (try simp (maxSteps:=999999)(disch:=omega) only [go_sem] at hiw ⊢)
     (repeat (refine Eq.trans (if_neg ?_) ?_;(focus omega)))
     exact hw iw (by omega)
    refine bV ?_;refine hK _ ?_;clear hK;repeat' (first|refine aj g ?_|refine bL ?_|(refine an (fun K hK => ?_);and_intros;all_goals first|(refine hK _ ?_;clear hK K)|try exact ai)|(refine bF ?_;(try clear hB KB);(try clear hK K)))
    refine ⟨rfl,FW (bx:=aJ b (.fix [.p (PU m), .own k (n+2)]) (aJ k (.arr 208 23 (n+2) f) bx)) (nx:=nx) ?_ ?_ ?_ (fun i hi h1 h2 => ?_)⟩
    ·rw [← e];exact hw
    ·exact ba
    ·exact qS
    ·exact ba
 ·exact Dm hf2
 ·intro i hi j;exact Ec (by omega)
end
section
attribute [local go_sem] dA Int.toNat_natCast dQ
theorem Nb {a id nx:Nat} {A:Bx} {bx b:Nat→Option Bx} (hw:∀ i,nx≤i→bx i=none) (h1:b a=some A) (h3:∀ i,i<nx→i≠a→i≠id→b i=bx i):Sub (aJ a A (dH id bx)) b:=fun i y hi=>by
 unfold aJ at hi;split at hi
 ·rename_i e;rw [e,h1];exact hi
 rename_i e;unfold dH at hi;split at hi
 ·cases hi
 ·rename_i e2;rcases Nat.lt_or_ge i nx with q|q
  ·rw [h3 i q e e2];exact hi
  ·rw [hw i q] at hi;cases hi
theorem EO (bx : Nat → Option Bx) (nx id n : Nat) (g : Nat → Nat → PV) (i m ms : Int) (o : Op) (p : Pixel) (hid : bx id = some (.arr 197 18 n g)) (hlt : id < nx) (hn : n ≤ 100000)
  (hm:Full m) (hmk:o.mask=0) (hop:0≤o.opacity∧o.opacity≤m) (hp:PixV p m) (hw:∀ i,nx≤i→bx i=none) :
  ∃ G:Nat→Nat→PV,lj Sg bx nx 144 [.c (.own id n),I i,ag (cC o),ag (aU p),U ms,U m] (.tup [.c (.own (nx+5) (n+1)),ag (aU (aL m o p ms))])
   (aJ (nx+5) (.arr 197 18 (n+1) G) (dH id bx)) (nx+6):=by
 have h1:=rV p o.opacity m hm hp hop.1 hop.2;have e:bx=aJ id (.arr 197 18 n g) bx:=eL hid;have e2:aL m o p ms=bY p o.opacity m:=by
  unfold aL;rw [if_pos hmk,As hm]
 rw [e2];have gg:(o.mask != 0)=false:=by rw [bne_eq_false_iff_eq];exact hmk
 generalize bY p o.opacity m=q at *
 refine ⟨?G, ?hI⟩
 case hI =>
  refine oC Tryz.func144 rfl (rs:=[.tmp 12, .cell 13 43]) rfl rfl dI (by decide +kernel) (Nat.le_of_ble_eq_true rfl) ?_ (fun kf => ?_)
  ·intro v hv;simp only [List.mem_cons,List.not_mem_nil,or_false] at hv;rcases hv with rfl|rfl|rfl|rfl|rfl|rfl
   ·exact hlt
   ·trivial
   ·exact fun c hc=>by (obtain ⟨x,_,rfl⟩:=List.mem_map.1 hc;trivial)
   ·exact fun c hc=>by (obtain ⟨x,_,rfl⟩:=List.mem_map.1 hc;trivial)
   ·trivial
   ·trivial
  rw [e];repeat' (first|refine aj gg ?_|refine aw ?_|refine an (fun K hK => ?_)|refine aa (h1) ?_|(refine aq hK ?_;try clear hK K))
  refine ni (id:=6) (.br 0 (.br 1 (.br 2 (.br 3 (.br 4 (.br 5 (.br 6 (.br 7 (.br 8 (.br 9 (.br 10 (.br 11 .leaf .nil) .nil) .nil) (.br 9 (.br 8 (.br 10 (.br 11 .leaf .nil) .nil) .nil) .nil)) (.br 9 (.br 7 (.br 8 (.br 10 (.br 11 .leaf .nil) .nil) .nil) .nil) .nil)) .nil) .nil) .nil) .nil) .nil) .nil) .nil) (by decide +kernel) ?_ (fun K0 hW => ?_)
  ·exact bZ
  replace hW:=ka hW;repeat' (first|exact bp|(refine bO (fun K' hK' => ?_) ?_)|(refine aZ (hW _ ?_);clear hW)|(simp (maxSteps:=999999)(disch:=omega) only [go_sem];and_intros;(all_goals first|(refine hK' _ ?_;clear hK' K')|trivial|omega|exact Nat.le_of_ble_eq_true rfl|exact ai|skip)))
  all_goals
   refine gi ?_;repeat' (refine aC ?_)
   refine ⟨rfl,Nb (bx:=aJ id (.arr 197 18 n g) bx) (nx:=nx) ?_ ?_ (fun i hi h1 h2 => ?_), ?_⟩
   ·rw [← e];exact hw
   ·exact qS
   ·exact ba
   ·omega
theorem ES (bx : Nat → Option Bx) (nx id n : Nat) (g : Nat → Nat → PV) (i m ms : Int) (o : Op) (p : Pixel) (hid : bx id = some (.arr 197 18 n g)) (hlt : id < nx) (hn : n ≤ 100000)
  (hm:Full m) (hmk:o.mask≠0) (hop:0≤o.opacity∧o.opacity≤m) (hp:PixV p m) (hms:0≤ms∧ms≤m) (hw:∀ i,nx≤i→bx i=none) :
  ∃ G:Nat→Nat→PV,lj Sg bx nx 144 [.c (.own id n),I i,ag (cC o),ag (aU p),U ms,U m] (.tup [.c (.own (nx+8) (n+2)),ag (aU (aL m o p ms))])
   (aJ (nx+8) (.arr 197 18 (n+2) G) (dH id bx)) (nx+9):=by
 have h1:=rV p ms m hm hp hms.1 hms.2;have h2:=rV (bY p ms m) o.opacity m hm (qv hm hp hms.1 hms.2) hop.1 hop.2;have e:bx=aJ id (.arr 197 18 n g) bx:=eL hid;have e2:aL m o p ms=bY (bY p ms m) o.opacity m:=by
  unfold aL;rw [if_neg hmk]
 rw [e2];have gg:(o.mask != 0)=true:=by rw [bne_iff_ne];exact hmk
 generalize bY (bY p ms m) o.opacity m=q at *
 generalize bY p ms m=q1 at *
 refine ⟨?G, ?hI⟩
 case hI =>
  refine oC Tryz.func144 rfl (rs:=[.tmp 12, .cell 13 43]) rfl rfl dI (by decide +kernel) (Nat.le_of_ble_eq_true rfl) ?_ (fun kf => ?_)
  ·intro v hv;simp only [List.mem_cons,List.not_mem_nil,or_false] at hv;rcases hv with rfl|rfl|rfl|rfl|rfl|rfl
   ·exact hlt
   ·trivial
   ·exact fun c hc=>by (obtain ⟨x,_,rfl⟩:=List.mem_map.1 hc;trivial)
   ·exact fun c hc=>by (obtain ⟨x,_,rfl⟩:=List.mem_map.1 hc;trivial)
   ·trivial
   ·trivial
  rw [e];repeat' (first|refine aj gg ?_|refine aw ?_|refine an (fun K hK => ?_)|refine aa (h1) ?_|refine aa (h2) ?_|(refine aq hK ?_;try clear hK K))
  refine ni (id:=6) (.br 0 (.br 1 (.br 2 (.br 3 (.br 4 (.br 5 (.br 6 (.br 7 (.br 8 (.br 9 (.br 10 (.br 11 .leaf .nil) .nil) .nil) (.br 9 (.br 8 (.br 10 (.br 11 .leaf .nil) .nil) .nil) .nil)) (.br 9 (.br 7 (.br 8 (.br 10 (.br 11 .leaf .nil) .nil) .nil) .nil) .nil)) .nil) .nil) .nil) .nil) .nil) .nil) .nil) (by decide +kernel) ?_ (fun K0 hW => ?_)
  ·exact bZ
  replace hW:=ka hW;repeat' (first|exact bp|(refine bO (fun K' hK' => ?_) ?_)|(refine aZ (hW _ ?_);clear hW)|(simp (maxSteps:=999999)(disch:=omega) only [go_sem];and_intros;(all_goals first|(refine hK' _ ?_;clear hK' K')|trivial|omega|exact Nat.le_of_ble_eq_true rfl|exact ai|skip)))
  all_goals
   refine gi ?_;repeat' (refine aC ?_)
   refine ⟨rfl,Nb (bx:=aJ id (.arr 197 18 n g) bx) (nx:=nx) ?_ ?_ (fun i hi h1 h2 => ?_), ?_⟩
   ·rw [← e];exact hw
   ·exact qS
   ·exact ba
   ·omega
end
end Go.Proofs.YtdjmpacladhijaaGreatDoor
