/- Part of the proof: V7, V9, WG, WH, WI, WJ, WK, WL. -/
import Derived.Test.YtcbifofjjpfbcaaGreatDoorM22
set_option linter.unusedSimpArgs false
set_option linter.unusedVariables false
set_option maxHeartbeats 4000000
set_option maxRecDepth 16000
namespace Go.Proofs.YtcbifofjjpfbcaaGreatDoor
open Go Go.SL
open Go.RowKit (wrap64)
section
attribute [local go_sem] cO LL fX Int.toNat_natCast cA
theorem Mp (bx : Nat → Option Bx) (nx b k n : Nat) (f : Nat → Nat → PV) (m : Int) (o : Op) (t : Lv)
  (hb:bx b=some (.fix [.p (PU m), .own k (n+1)])) (hk:bx k=some (.arr 206 23 (n+1) f)) (hbn:b<nx) (hkn:k<nx) (hbk:b≠k) (hn:n<64) (hf:jE (f n) t) (hkd:o.kind=2) (hw:∀ i,nx≤i→bx i=none) :
  ∃ F:Nat→Nat→PV,(jE (F (n+1)) (ma o t)∧∀ i,i<n+1→∀ j,F i j=f i j) ∧
  lU Sg bx nx 143 [.c (.ptr b 0),ag (fZ o)] (.b (I 0)) (aJ b (.fix [.p (PU m), .own (nx+6) (n+2)]) (aJ (nx+6) (.arr 206 23 (n+2) F) bx)) (nx+7):=by
 have hl:=Sh hf;have hst:aA Sg 179 [B o.isolated, .c (.p (f n 11)),ag [f n 12,f n 13,f n 14,f n 15,f n 16,f n 17],ag [f n 18,f n 19,f n 20,f n 21,f n 22]] (fun r=>r = .tup [ag (cO (oU (eA o.isolated t.op.knockout t.acc t.back))),ag (aS (eA o.isolated t.op.knockout t.acc t.back))]):=by
  obtain ⟨e0,e1,e2,e3,e4,e5,e6,e7,e8,e9,e10,e11,e12,e13,e14,e15,e16,e17,e18,e19,e20,e21,e22⟩:=hl;rw [e11,e12,e13,e14,e15,e16,e17,e18,e19,e20,e21,e22];exact Mq o.isolated t.op.knockout t.acc t.back
 have e:bx=aJ b (.fix [.p (PU m), .own k (n+1)]) (aJ k (.arr 206 23 (n+1) f) bx):=by rw [← dv hk];exact dv hb
 have g1:(o.kind != 2)=false:=by rw [bne_eq_false_iff_eq];exact hkd
 have g2:decide ((n:Int)≥64)=false:=decide_eq_false (by omega);unfold ma;generalize eA o.isolated t.op.knockout t.acc t.back=q at *
 refine ⟨?F,⟨?hF, ?hG⟩, ?hI⟩
 case hI =>
  refine ku Tryz.func143 rfl (rs:=[.tmp 4]) rfl rfl fG (by decide +kernel) (Nat.le_of_ble_eq_true rfl) ?_ (fun kf => ?_)
  ·intro v hv;simp only [List.mem_cons,List.not_mem_nil,or_false] at hv;rcases hv with rfl|rfl
   ·exact hbn
   ·exact fun c hc=>by (obtain ⟨x,_,rfl⟩:=List.mem_map.1 hc;trivial)
  rw [e];repeat' (first|refine ah (And.intro g1 g2) ?_|refine ax ?_|refine an (fun K hK => ?_)|refine jS (k:=k) (wm m n f (by omega)) trivial ?_|(refine aq hK ?_;try clear hK K))
  refine lk (id:=5) (.br 0 (.br 1 (.br 2 (.br 3 (.br 4 (.br 5 (.br 6 (.br 7 (.br 8 (.br 9 .leaf .nil) .nil) .nil) .nil) (.br 8 (.br 5 (.br 6 (.br 7 (.br 9 .leaf .nil) .nil) .nil) .nil) .nil)) .nil) .nil) .nil) .nil) .nil) (by decide +kernel) ?_ (fun K0 hW => ?_)
  ·exact dK
  replace hW:=iS hW;repeat' (first|exact cg|(refine cH (fun K' hK' => ?_) ?_)|(refine bJ (hW _ ?_);clear hW)|(refine jS (k:=k) (qD m n f (by omega)) trivial ?_;(try simp (maxSteps:=999999)(disch:=omega) only [go_sem]);and_intros;(all_goals first|(refine hK' _ ?_;clear hK' K')|trivial|omega|exact Nat.le_of_ble_eq_true rfl|exact ai|skip))|(simp (maxSteps:=999999)(disch:=omega) only [go_sem];and_intros;(all_goals first|(refine hK' _ ?_;clear hK' K')|trivial|omega|exact Nat.le_of_ble_eq_true rfl|exact ai|skip)))
  all_goals
   refine dJ ?_;repeat' (first|refine an (fun K hK => ?_)|refine aa (hst) ?_|(refine aq hK ?_;try clear hK K))
   refine lk (id:=7) (.br 0 (.br 1 (.br 2 (.br 3 (.br 4 (.br 6 (.br 7 (.br 8 (.br 9 (.br 5 (.br 10 (.br 11 (.br 12 (.br 13 (.br 14 .leaf .nil) .nil) .nil) .nil) .nil) (.br 10 (.br 5 (.br 11 (.br 12 (.br 13 (.br 14 .leaf .nil) .nil) .nil) .nil) .nil) .nil)) .nil) .nil) .nil) .nil) .nil) .nil) .nil) .nil) .nil) (by decide +kernel) ?_ (fun K0 hW => ?_)
   ·exact dK
   replace hW:=iS hW;repeat' (first|exact cg|(refine cH (fun K' hK' => ?_) ?_)|(refine bJ (hW _ ?_);clear hW)|(simp (maxSteps:=999999)(disch:=omega) only [go_sem];and_intros;(all_goals first|(refine hK' _ ?_;clear hK' K')|trivial|omega|exact Nat.le_of_ble_eq_true rfl|exact ai|skip)))
   all_goals
    refine dJ ?_;repeat' (refine aC ?_)
    refine AK (bx:=aJ b (.fix [.p (PU m), .own k (n+1)]) (aJ k (.arr 206 23 (n+1) f) bx)) (nx:=nx) ?_ ?_ ?_ (fun i hi h1 h2 => ?_)
    ·rw [← e];exact hw
    ·exact bG
    ·exact na
    ·exact bG
 ·intro j hj;show gY (n+1) f _ (n+1) j=_;unfold gY;rw [if_neg (by omega),Nat.sub_self];have hivl:j=0∨j=1∨j=2∨j=3∨j=4∨j=5∨j=6∨j=7∨j=8∨j=9∨j=10∨j=11∨j=12∨j=13∨j=14∨j=15∨j=16∨j=17∨j=18∨j=19∨j=20∨j=21∨j=22:=by omega
  rcases hivl with rfl|rfl|rfl|rfl|rfl|rfl|rfl|rfl|rfl|rfl|rfl|rfl|rfl|rfl|rfl|rfl|rfl|rfl|rfl|rfl|rfl|rfl|rfl <;> rfl
 ·intro i hi j;show gY (n+1) f _ i j=_;unfold gY;rw [if_pos hi]
end
section
attribute [local go_sem] cO Int.toNat_natCast cA
theorem Gl {a id nx:Nat} {A:Bx} {bx b:Nat→Option Bx} (hw:∀ i,nx≤i→bx i=none) (h1:b a=some A) (h3:∀ i,i<nx→i≠a→i≠id→b i=bx i):VQ (aJ a A (dr id bx)) b:=fun i y hi=>by
 unfold aJ at hi;split at hi
 ·rename_i e;rw [e,h1];exact hi
 rename_i e;unfold dr at hi;split at hi
 ·cases hi
 ·rename_i e2;rcases Nat.lt_or_ge i nx with q|q
  ·rw [h3 i q e e2];exact hi
  ·rw [hw i q] at hi;cases hi
theorem AR (bx : Nat → Option Bx) (nx id n : Nat) (g : Nat → Nat → PV) (i m ms : Int) (o : Op) (p : Pixel) (hid : bx id = some (.arr 116 18 n g)) (hlt : id < nx) (hn : n ≤ 100000)
  (hm:Full m) (hmk:o.mask=0) (hop:0≤o.opacity∧o.opacity≤m) (hp:PixV p m) (hw:∀ i,nx≤i→bx i=none) :
  ∃ G:Nat→Nat→PV,lU Sg bx nx 139 [.c (.own id n),I i,ag (fZ o),ag (aS p),U ms,U m] (.tup [.c (.own (nx+5) (n+1)),ag (aS (aM m o p ms))])
   (aJ (nx+5) (.arr 116 18 (n+1) G) (dr id bx)) (nx+6):=by
 have h1:=od p o.opacity m hm hp hop.1 hop.2;have e:bx=aJ id (.arr 116 18 n g) bx:=dv hid;have e2:aM m o p ms=bF p o.opacity m:=by
  unfold aM;rw [if_pos hmk,Fk hm]
 rw [e2];have gg:(o.mask != 0)=false:=by rw [bne_eq_false_iff_eq];exact hmk
 generalize bF p o.opacity m=q at *
 refine ⟨?G, ?hI⟩
 case hI =>
  refine ku Tryz.func139 rfl (rs:=[.tmp 12, .cell 13 37]) rfl rfl fG (by decide +kernel) (Nat.le_of_ble_eq_true rfl) ?_ (fun kf => ?_)
  ·intro v hv;simp only [List.mem_cons,List.not_mem_nil,or_false] at hv;rcases hv with rfl|rfl|rfl|rfl|rfl|rfl
   ·exact hlt
   ·trivial
   ·exact fun c hc=>by (obtain ⟨x,_,rfl⟩:=List.mem_map.1 hc;trivial)
   ·exact fun c hc=>by (obtain ⟨x,_,rfl⟩:=List.mem_map.1 hc;trivial)
   ·trivial
   ·trivial
  rw [e];repeat' (first|refine ah gg ?_|refine ax ?_|refine an (fun K hK => ?_)|refine aa (h1) ?_|(refine aq hK ?_;try clear hK K))
  refine lk (id:=6) (.br 0 (.br 1 (.br 2 (.br 3 (.br 4 (.br 5 (.br 6 (.br 7 (.br 8 (.br 9 (.br 10 (.br 11 .leaf .nil) .nil) .nil) (.br 9 (.br 8 (.br 10 (.br 11 .leaf .nil) .nil) .nil) .nil)) (.br 9 (.br 7 (.br 8 (.br 10 (.br 11 .leaf .nil) .nil) .nil) .nil) .nil)) .nil) .nil) .nil) .nil) .nil) .nil) .nil) (by decide +kernel) ?_ (fun K0 hW => ?_)
  ·exact dK
  replace hW:=iS hW;repeat' (first|exact cg|(refine cH (fun K' hK' => ?_) ?_)|(refine bJ (hW _ ?_);clear hW)|(simp (maxSteps:=999999)(disch:=omega) only [go_sem];and_intros;(all_goals first|(refine hK' _ ?_;clear hK' K')|trivial|omega|exact Nat.le_of_ble_eq_true rfl|exact ai|skip)))
  all_goals
   refine dJ ?_;repeat' (refine aC ?_)
   refine ⟨rfl,Gl (bx:=aJ id (.arr 116 18 n g) bx) (nx:=nx) ?_ ?_ (fun i hi h1 h2 => ?_), ?_⟩
   ·rw [← e];exact hw
   ·exact na
   ·exact bG
   ·omega
theorem AX (bx : Nat → Option Bx) (nx id n : Nat) (g : Nat → Nat → PV) (i m ms : Int) (o : Op) (p : Pixel) (hid : bx id = some (.arr 116 18 n g)) (hlt : id < nx) (hn : n ≤ 100000)
  (hm:Full m) (hmk:o.mask≠0) (hop:0≤o.opacity∧o.opacity≤m) (hp:PixV p m) (hms:0≤ms∧ms≤m) (hw:∀ i,nx≤i→bx i=none) :
  ∃ G:Nat→Nat→PV,lU Sg bx nx 139 [.c (.own id n),I i,ag (fZ o),ag (aS p),U ms,U m] (.tup [.c (.own (nx+8) (n+2)),ag (aS (aM m o p ms))])
   (aJ (nx+8) (.arr 116 18 (n+2) G) (dr id bx)) (nx+9):=by
 have h1:=od p ms m hm hp hms.1 hms.2;have h2:=od (bF p ms m) o.opacity m hm (mX hm hp hms.1 hms.2) hop.1 hop.2;have e:bx=aJ id (.arr 116 18 n g) bx:=dv hid;have e2:aM m o p ms=bF (bF p ms m) o.opacity m:=by
  unfold aM;rw [if_neg hmk]
 rw [e2];have gg:(o.mask != 0)=true:=by rw [bne_iff_ne];exact hmk
 generalize bF (bF p ms m) o.opacity m=q at *
 generalize bF p ms m=q1 at *
 refine ⟨?G, ?hI⟩
 case hI =>
  refine ku Tryz.func139 rfl (rs:=[.tmp 12, .cell 13 37]) rfl rfl fG (by decide +kernel) (Nat.le_of_ble_eq_true rfl) ?_ (fun kf => ?_)
  ·intro v hv;simp only [List.mem_cons,List.not_mem_nil,or_false] at hv;rcases hv with rfl|rfl|rfl|rfl|rfl|rfl
   ·exact hlt
   ·trivial
   ·exact fun c hc=>by (obtain ⟨x,_,rfl⟩:=List.mem_map.1 hc;trivial)
   ·exact fun c hc=>by (obtain ⟨x,_,rfl⟩:=List.mem_map.1 hc;trivial)
   ·trivial
   ·trivial
  rw [e];repeat' (first|refine ah gg ?_|refine ax ?_|refine an (fun K hK => ?_)|refine aa (h1) ?_|refine aa (h2) ?_|(refine aq hK ?_;try clear hK K))
  refine lk (id:=6) (.br 0 (.br 1 (.br 2 (.br 3 (.br 4 (.br 5 (.br 6 (.br 7 (.br 8 (.br 9 (.br 10 (.br 11 .leaf .nil) .nil) .nil) (.br 9 (.br 8 (.br 10 (.br 11 .leaf .nil) .nil) .nil) .nil)) (.br 9 (.br 7 (.br 8 (.br 10 (.br 11 .leaf .nil) .nil) .nil) .nil) .nil)) .nil) .nil) .nil) .nil) .nil) .nil) .nil) (by decide +kernel) ?_ (fun K0 hW => ?_)
  ·exact dK
  replace hW:=iS hW;repeat' (first|exact cg|(refine cH (fun K' hK' => ?_) ?_)|(refine bJ (hW _ ?_);clear hW)|(simp (maxSteps:=999999)(disch:=omega) only [go_sem];and_intros;(all_goals first|(refine hK' _ ?_;clear hK' K')|trivial|omega|exact Nat.le_of_ble_eq_true rfl|exact ai|skip)))
  all_goals
   refine dJ ?_;repeat' (refine aC ?_)
   refine ⟨rfl,Gl (bx:=aJ id (.arr 116 18 n g) bx) (nx:=nx) ?_ ?_ (fun i hi h1 h2 => ?_), ?_⟩
   ·rw [← e];exact hw
   ·exact na
   ·exact bG
   ·omega
end
section
attribute [local go_sem] qE ks
theorem IT (op mode m cs sl cb ab : Int) (hm : Full m) (ho : 1 ≤ op ∧ op ≤ 12) (hmo : 1 ≤ mode ∧ mode ≤ 12) (hs : Pre cs sl m) (hd : Pre cb ab m) :
  aA Sg 199 [I op,I mode,U m,U cs,U sl,U cb,U ab] (fun r=>r = .tup [ag (ks (dp op mode m cs sl cb ab)),B true]):=by
 have hok:=kK (op:=op) (mode:=mode) hm hs hd;have ht:=kk (mode:=mode) hm hs hd;obtain ⟨s0,sa,am⟩:=hs;obtain ⟨d0,db,bm⟩:=hd;have hle:=hm.le;have hp:=hm.pos;have hb:=yv mode cs sl cb ab hmo ⟨s0,sa,by omega,d0,db,by omega⟩;have hf:=uo op sl ab m hm ho (by omega) am (by omega) bm;have ⟨a1,a2⟩:=ki (op:=op) (a:=sl) (b:=ab) (m:=m) (by omega) am (by omega) bm;have ⟨b1,b2⟩:=lJ (op:=op) (a:=sl) (b:=ab) (m:=m) (by omega) am (by omega) bm;obtain ⟨k1,k2,k3,k4,k5,k6,k7,k8,_⟩:=hok;obtain ⟨t0,t1,t2,t3,t4,t5,t6,t7,_⟩:=ht;unfold dp at *
 dsimp only at k1 k2 k3 k4 k5 k6 k7 k8;generalize aR mode cs sl cb ab=T at *
 generalize jl op sl ab m=fa at *
 generalize jY op sl ab m=fb at *
 have e1:0≤(m - ab) * cs∧(m - ab) * cs≤65535 * 65535:=⟨ao (by omega) (by omega),az (by omega) (by omega) (by omega) (by omega)⟩
 have hsum:(m - ab) * cs+sl * ab≤65535 * 65535:=by
  have h1:=az (show m - ab≤m - ab by omega) sa s0 (by omega);have h2:(m - ab) * sl+sl * ab=m * sl:=by rw [Int.sub_mul,Int.mul_comm sl ab];omega
  have h3:m * sl≤65535 * 65535:=az hle (by omega) (by omega) (by decide);omega
 have e2:0≤(m - ab) * cs * T.d:=ao e1.1 (by omega);have e3:(m - ab) * cs * T.d+T.p≤65535 * 65535 * 4294836225:=by
  have h1:=az hsum t6 (by omega) (by decide);rw [Int.add_mul] at h1;omega
 have e4:0≤cb * m∧cb * m≤65535 * 65535:=⟨ao (by omega) (by omega),az (by omega) (by omega) (by omega) (by omega)⟩
 have e5:0≤cb * m * T.d∧cb * m * T.d≤65535 * 65535 * 4294836225:=⟨ao e4.1 (by omega),az e4.2 (by omega) (by omega) (by omega)⟩
 have e6:0≤m * m∧m * m≤65535 * 65535:=⟨ao (by omega) (by omega),az (by omega) (by omega) (by omega) (by omega)⟩
 have e9:0≤fa * T.q∧fa * T.q≤65535 * 65535:=⟨ao (by omega) (by omega),az (by omega) (by omega) (by omega) (by omega)⟩
 have e10:T.p / 18446744073709551616=0∧T.p % 18446744073709551616=T.p:=by omega
 have w1:aA Sg 212 [cm ((m - ab) * cs * T.d+T.p % 18446744073709551616),cm fa] (fun r=>r = .b (ag (qE (((m - ab) * cs * T.d+T.p) * fa)))):=by rw [e10.2];exact kj ((m - ab) * cs * T.d+T.p) fa ⟨by omega,by omega⟩ ⟨by omega,by omega⟩
 have w2:=kj (cb * m * T.d) fb ⟨by omega,by omega⟩ ⟨by omega,by omega⟩;have eq:((m - ab) * cs * T.d+T.p) * fa+cb * m * T.d * fb=T.p * fa+(m - ab) * cs * fa * T.d+fb * cb * m * T.d:=by grind
 have w3:=rM (((m - ab) * cs * T.d+T.p) * fa) (cb * m * T.d * fb) (ao (by omega) a1) (ao e5.1 b1) (by rw [eq];omega);rw [eq] at w3;have g1:(m != 255 && m != 65535)=false:=by rcases hm.h with q|q <;> rw [q] <;> rfl
 have htt:True:=trivial;refine aD Tryz.func199 [.cell 14 253, .tmp 15] ?_;repeat' (first|refine ah g1 ?_|refine ax ?_|refine an (fun K hK => ?_)|refine aa (hf) ?_|refine aa (hb) ?_|refine aa (w1) ?_|refine aa (w2) ?_|refine aa (w3) ?_|(refine aq hK ?_;try clear hK K))
 rfl
theorem sC (op mode m cs sl cb ab : Int) (hm : Full m) (ho : 1 ≤ op ∧ op ≤ 12) (hmo : 1 ≤ mode ∧ mode ≤ 12) (hs : Pre cs sl m) (hd : Pre cb ab m) :
  aA Sg 189 [I op,I mode,U m,U cs,U sl,U cb,U ab] (fun r=>r = .tup [U (dN op mode m cs sl cb ab),B true]):=by
 have hok:=kK (op:=op) (mode:=mode) hm hs hd;have hv:=IT op mode m cs sl cb ab hm ho hmo hs hd;have hh:=uq _ hok;have hl:=oE (op:=op) (mode:=mode) hm hs hd;have hl2:=oM (op:=op) (a:=sl) (b:=ab) hm (by have:=hs.s0;have:=hs.sa;omega) hs.am (by have:=hd.s0;have:=hd.sa;omega) hd.am;have hn:=(lI hok).2.2;have hle:=hm.le;have htt:True:=trivial;have hw:IntKind.u16.wrap (hx (dp op mode m cs sl cb ab))=dN op mode m cs sl cb ab:=gD hn (by unfold dN at hl;omega);refine aD Tryz.func189 [.tmp 14, .tmp 15] ?_;repeat' (first|refine ah htt ?_|refine ax ?_|refine an (fun K hK => ?_)|refine aa (hv) ?_|refine aa (hh) ?_|(refine aq hK ?_;try clear hK K))
 rw [hw]
end
section
attribute [local go_sem] qE ks
theorem zy (m:Int):aA Sg 210 [U m] (fun r=>r = .b (B (decide (m=255∨m=65535)))):=by
 refine aD Tryz.func210 [.tmp 2] ?_;repeat' (refine aC ?_)
 refine eV ?_
 (try simp only [Bool.and_eq_true,Bool.or_eq_true,Bool.not_eq_true',Bool.not_eq_false',decide_eq_true_eq,decide_eq_false_iff_not,ge_iff_le,gt_iff_lt,beq_iff_eq,bne_iff_ne,ne_eq,Bool.or_eq_false_iff,Bool.and_eq_false_imp,Bool.not_true,Bool.not_false])
 try omega
theorem Hb (a b c d e f : Int) (ha : 0 ≤ a ∧ a ≤ 65535) (hb : 0 ≤ b ∧ b ≤ 65535) (hc : 0 ≤ c ∧ c ≤ 65535) (hd : 0 ≤ d ∧ d ≤ 65535) (he : 0 ≤ e ∧ e ≤ 65535) (hf : 0 ≤ f ∧ f ≤ 65535) :
  aA Sg 213 [U a,U b,U c,U d,U e,U f] (fun r=>r = .b (UQ (a * b+c * d+e * f))):=by
 have e1:0≤a * b∧a * b≤65535 * 65535:=⟨ao ha.1 hb.1,az ha.2 hb.2 hb.1 (by decide)⟩
 have e2:0≤c * d∧c * d≤65535 * 65535:=⟨ao hc.1 hd.1,az hc.2 hd.2 hd.1 (by decide)⟩
 have e3:0≤e * f∧e * f≤65535 * 65535:=⟨ao he.1 hf.1,az he.2 hf.2 hf.1 (by decide)⟩
 refine aD Tryz.func213 [.tmp 12] ?_;repeat' (first|with_reducible exact bq|refine aC ?_)
theorem vI (m a f acc b : Int) (hm : Full m) (ha : 0 ≤ a) (haf : a ≤ f) (hfm : f ≤ m) (h1 : 0 ≤ acc) (h2 : acc ≤ m) (h3 : 0 ≤ b) (h4 : b ≤ m) :
  aA Sg 197 [U m,U a,U f,U acc,U b] (fun r=>r = .tup [U (dA m a f acc b),B true]):=by
 have hle:=hm.le;have hp:=hm.pos;have hbd:=kA hm ha haf hfm h1 h2 h3 h4;have hu:=zy m;rw [show decide (m=255∨m=65535)=true from decide_eq_true hm.h] at hu;have g1:decide (a>f)=false:=decide_eq_false (by omega);have g2:decide (f>m)=false:=decide_eq_false (by omega);have g3:decide (acc>m)=false:=decide_eq_false (by omega);have g4:decide (b>m)=false:=decide_eq_false (by omega);have hs:=Hb (m - f) acc (f - a) b m a ⟨by omega,by omega⟩ ⟨h1,by omega⟩ ⟨by omega,by omega⟩ ⟨h3,by omega⟩ ⟨by omega,hle⟩ ⟨ha,by omega⟩;have e1:0≤(m - f) * acc∧(m - f) * acc≤65535 * 65535:=⟨ao (by omega) (by omega),az (by omega) (by omega) (by omega) (by omega)⟩
 have e2:0≤(f - a) * b∧(f - a) * b≤65535 * 65535:=⟨ao (by omega) (by omega),az (by omega) (by omega) (by omega) (by omega)⟩
 have e3:0≤m * a∧m * a≤65535 * 65535:=⟨ao (by omega) (by omega),az (by omega) (by omega) (by omega) (by omega)⟩
 have hh:=xc ((m - f) * acc+(f - a) * b+m * a) m ⟨by omega,by omega⟩ ⟨by omega,by omega⟩;have hw:IntKind.u16.wrap (bV ((m - f) * acc+(f - a) * b+m * a) m)=dA m a f acc b:=gD hbd.1 (Int.le_trans hbd.2 hle);refine aD Tryz.func197 [.tmp 10, .tmp 11] ?_;repeat' (first|refine ah (And.intro g1 (And.intro g2 (And.intro g3 g4))) ?_|refine ax ?_|refine an (fun K hK => ?_)|refine aa (hu) ?_|refine aa (hs) ?_|refine aa (hh) ?_|(refine aq hK ?_;try clear hK K))
 rw [hw]
theorem Fa (m a f acc : Int) (hm : Full m) (ha : 0 ≤ a) (haf : a ≤ f) (hfm : f ≤ m) (h1 : 0 ≤ acc) (h2 : acc ≤ m) :
  aA Sg 198 [U m,U a,U f,U acc] (fun r=>r = .tup [U (dA m a f acc 0),B true]):=by
 have h:=vI m a f acc 0 hm ha haf hfm h1 h2 (Int.le_refl _) (Int.le_of_lt hm.pos);refine aD Tryz.func198 [.tmp 8, .tmp 9] ?_;repeat' (first|with_reducible exact bq|refine an (fun K hK => ?_)|refine aa (h) ?_|refine ax ?_|(refine aq hK ?_;try clear hK K))
end
section
attribute [local go_sem] qE ks
theorem qz (mode m cs sl fs c cb ab : Int) (hm : Full m) (hmo : 1 ≤ mode ∧ mode ≤ 12) (hs : Pre cs sl m) (hd : Pre cb ab m) (hf : sl ≤ fs) (hfm : fs ≤ m) (hc : 0 ≤ c) (hcm : c ≤ m) :
  aA Sg 196 [I mode,U m,U cs,U sl,U fs,U c,U cb,U ab] (fun r=>r = .tup [U (dE mode m cs sl fs c cb ab),B true]):=by
 have hok:=oj (mode:=mode) hm hs hd hf hfm hc hcm;have hkl:=oe (mode:=mode) (acc:=m) hm hs hd hf hfm hc hcm (Int.le_refl _);have ht:=kk (mode:=mode) hm hs hd;have hh:=uq _ hok;have hn:=(lI hok).2.2;obtain ⟨s0,sa,am⟩:=hs;obtain ⟨d0,db,bm⟩:=hd;have hle:=hm.le;have hp:=hm.pos;have hb:=yv mode cs sl cb ab hmo ⟨s0,sa,by omega,d0,db,by omega⟩;have hu:=zy m;rw [show decide (m=255∨m=65535)=true from decide_eq_true hm.h] at hu;have g2:decide (sl>fs)=false:=decide_eq_false (by omega);have g3:decide (fs>m)=false:=decide_eq_false (by omega);have g5:decide (ab>m)=false:=decide_eq_false (by omega);have g6:decide (c>m)=false:=decide_eq_false (by omega);have hka:dA m sl fs m ab≤m:=(kA hm (by omega) hf hfm (by omega) (Int.le_refl _) (by omega) bm).2;have hw:IntKind.u16.wrap (dE mode m cs sl fs c cb ab)=dE mode m cs sl fs c cb ab:=gD hn (by omega);obtain ⟨k1,k2,k3,k4,k5,k6,k7,k8,_⟩:=hok;obtain ⟨t0,t1,t2,t3,t4,t5,t6,t7,_⟩:=ht;unfold dE at *
 unfold fe at *
 dsimp only at k1 k2 k3 k4 k5 k6 k7 k8;generalize aR mode cs sl cb ab=T at *
 have e1:0≤(m - fs) * c∧(m - fs) * c≤65535 * 65535:=⟨ao (by omega) (by omega),az (by omega) (by omega) (by omega) (by omega)⟩
 have e2:0≤(fs - sl) * cb∧(fs - sl) * cb≤65535 * 65535:=⟨ao (by omega) (by omega),az (by omega) (by omega) (by omega) (by omega)⟩
 have e3:0≤(m - ab) * cs∧(m - ab) * cs≤65535 * 65535:=⟨ao (by omega) (by omega),az (by omega) (by omega) (by omega) (by omega)⟩
 have hsu:=Hb (m - fs) c (fs - sl) cb (m - ab) cs ⟨by omega,by omega⟩ ⟨hc,by omega⟩ ⟨by omega,by omega⟩ ⟨d0,by omega⟩ ⟨by omega,by omega⟩ ⟨s0,by omega⟩;have w1:=kj ((m - fs) * c+(fs - sl) * cb+(m - ab) * cs) T.d ⟨by omega,by omega⟩ ⟨by omega,by omega⟩;have w2:=rM (((m - fs) * c+(fs - sl) * cb+(m - ab) * cs) * T.d) T.p (ao (by omega) (by omega)) t0 (by omega);rw [Int.add_comm _ T.p] at w2;refine aD Tryz.func196 [.tmp 16, .tmp 17] ?_;repeat' (first|refine ah (And.intro g2 (And.intro g3 (And.intro g5 g6))) ?_|refine ax ?_|refine an (fun K hK => ?_)|refine aa (hb) ?_|refine aw (fun hg=>hu) ?_|(refine aq hK ?_;try clear hK K))
 refine fw (id:=4) (.br 0 (.br 1 (.br 2 (.br 3 (.br 4 (.br 5 (.br 6 (.br 7 (.br 8 (.br 9 (.br 10 (.br 11 (.br 12 (.br 13 (.br 14 (.br 16 (.br 17 (.br 15 (.br 18 (.br 19 (.br 20 (.br 21 (.br 22 (.br 23 (.br 24 .leaf .nil) .nil) .nil) .nil) .nil) .nil) (.br 22 (.br 18 (.br 19 (.br 20 (.br 21 (.br 23 (.br 24 .leaf .nil) .nil) .nil) .nil) .nil) .nil) .nil)) (.br 22 (.br 15 (.br 18 (.br 19 (.br 20 (.br 21 (.br 23 (.br 24 .leaf .nil) .nil) .nil) .nil) .nil) .nil) .nil) .nil)) .nil) .nil) .nil) .nil) .nil) .nil) .nil) .nil) .nil) .nil) .nil) .nil) .nil) .nil) .nil) .nil) .nil) (by decide +kernel) dK (fun K0 hW => ?_);refine (fun (tl:∀ st,Le st (aT [(1, .b (U m)),(18, .b (.c (.ptr 0 0))),(20, .b (.c (.ptr 1 0)))] [(0, .fix ((ks T).map CV.p)),(1, .fix ((qE (T.p+((m - fs) * c+(fs - sl) * cb+(m - ab) * cs) * T.d)).map CV.p))] 2)→K0 st) => ?_) (fun st hl=>hW st _ hl ?_)
 ·clear hW;repeat' (first|exact cg|(refine cH (fun K' hK' => ?_) ?_)|(refine bJ (tl _ ?_);clear tl)|((first|refine aa (hsu) ?_|refine aa (w1) ?_|refine aa (w2) ?_);(try simp (maxSteps:=999999)(disch:=omega) only [go_sem]);and_intros;(all_goals first|(refine hK' _ ?_;clear hK' K')|trivial|omega|exact Nat.le_of_ble_eq_true rfl|exact ai|skip))|(simp (maxSteps:=999999)(disch:=omega) only [go_sem];and_intros;(all_goals first|(refine hK' _ ?_;clear hK' K')|trivial|omega|exact Nat.le_of_ble_eq_true rfl|exact ai|skip)))
  all_goals
   refine au [(1,some 1)] ?_ ?_;and_intros;all_goals try exact aj
 clear hW;repeat' (first|with_reducible exact bq|refine an (fun K hK => ?_)|refine aa (hh) ?_|refine ax ?_|(refine aq hK ?_;try clear hK K))
 all_goals skip
end
theorem mQ (p:Pixel) (m:Int):aA Sg 108 [ag (aS p),U m] (fun r=>r = .b (B (ly p m))):=by
 have ht:True:=trivial;have no:∀ {q:Prop},(¬ q)→(ly p m=true→q)→ly p m=false:=fun h1 h2=>by rw [← Bool.not_eq_true];exact fun h=>h1 (h2 h)
 have ok:ly p m=true↔p.c0≤p.a∧p.c1≤p.a∧p.c2≤p.a∧p.a≤p.f∧p.f≤m:=by unfold ly;rw [decide_eq_true_eq]
 refine aD Tryz.func108 [.tmp 4] ?_;repeat' (refine aC ?_)
 refine aH (X:=Int) (fun k=>aT [(1, .b (U m)),(2, .b (.c (.ptr 0 0))),(8, .b (ag [PU p.c0,PU p.c1,PU p.c2])),(9, .b (I k))] [(0, .fix ((aS p).map CV.p))] 1) (fun k=>0≤k∧k≤3∧(0<k→p.c0≤p.a)∧(1<k→p.c1≤p.a)∧(2<k→p.c2≤p.a)) (fun k=>(3 - k).toNat) 0 ?_ ?_ ?_
 ·exact ⟨by decide,by decide,fun h=>absurd h (by decide),fun h=>absurd h (by decide),fun h=>absurd h (by decide)⟩
 ·refine au [(0,some 0)] ?_ ?_;and_intros;all_goals try exact aj
 ·rintro k ⟨k0,k3,i0,i1,i2⟩;have hv:k=0∨k=1∨k=2∨k=3:=by omega
  rcases hv with rfl|rfl|rfl|rfl
  ·repeat' (first|refine ah ht ?_|refine aC ?_|(refine aK (fun hb => ?_) (fun hb => ?_) <;> try exact aE))
   ·rw [no (q:=p.c0≤p.a) (by omega) (fun h=>(ok.1 h).1)]
   ·rw [ae];refine ak 1 ?_ ⟨by decide,by decide,fun _=>by omega,fun h=>absurd h (by decide),fun h=>absurd h (by decide)⟩ (by decide);refine au [(0,some 0)] ?_ ?_;and_intros;all_goals try exact aj
  ·repeat' (first|refine ah ht ?_|refine aC ?_|(refine aK (fun hb => ?_) (fun hb => ?_) <;> try exact aE))
   ·rw [no (q:=p.c1≤p.a) (by omega) (fun h=>(ok.1 h).2.1)]
   ·rw [ae];refine ak 2 ?_ ⟨by decide,by decide,fun _=>i0 (by decide),fun _=>by omega,fun h=>absurd h (by decide)⟩ (by decide);refine au [(0,some 0)] ?_ ?_;and_intros;all_goals try exact aj
  ·repeat' (first|refine ah ht ?_|refine aC ?_|(refine aK (fun hb => ?_) (fun hb => ?_) <;> try exact aE))
   ·rw [no (q:=p.c2≤p.a) (by omega) (fun h=>(ok.1 h).2.2.1)]
   ·rw [ae];refine ak 3 ?_ ⟨by decide,by decide,fun _=>i0 (by decide),fun _=>i1 (by decide),fun _=>by omega⟩ (by decide);refine au [(0,some 0)] ?_ ?_;and_intros;all_goals try exact aj
  ·have j0:=i0 (by decide);have j1:=i1 (by decide);have j2:=i2 (by decide);repeat' (first|refine ah ht ?_|refine aC ?_)
   refine congrArg (fun v=>SV.b (B v)) ?_;rw [Bool.eq_iff_iff,ok];simp only [Bool.and_eq_true,decide_eq_true_eq];omega
theorem qv (c k own m:Int) (hm:Full m) (hc:0≤c) (hcm:c≤m) (hk:0≤k) (hkm:k≤m) (ho:0≤own) (hom:own≤m):aA Sg 128 [U c,U k,U own,U m] (fun r=>r = .b (U (iI c k own m))):=by
 have hle:=hm.le;have hp:=hm.pos;have e1:0≤m * c∧m * c≤65535 * 65535:=⟨ao (by omega) hc,az hle (by omega) hc (by decide)⟩
 have e2:0≤(m - own) * k∧(m - own) * k≤65535 * 65535:=⟨ao (by omega) hk,az (by omega) (by omega) hk (by decide)⟩
 unfold iI;by_cases h:(m - own) * k<m * c
 ·have g1:decide (m * c≤(m - own) * k)=false:=decide_eq_false (by omega);have hh:=xc (m * c - (m - own) * k) m ⟨by omega,by omega⟩ ⟨by omega,by omega⟩;have hn:=dL (n:=m * c - (m - own) * k) hp (by omega);have hl:=rj (n:=m * c - (m - own) * k) (k:=c) hp (by omega);rw [if_pos h];generalize bV (m * c - (m - own) * k) m=v at *
  refine aD Tryz.func128 [.tmp 8] ?_;repeat' (first|refine ah g1 ?_|refine ax ?_|refine an (fun K hK => ?_)|refine aa (hh) ?_|(refine aq hK ?_;try clear hK K))
  refine congrArg (fun x=>SV.b (U x)) ?_
  first|(split <;> omega)|(rw [gD hn (by omega)];split <;> omega)
 ·have g1:decide (m * c≤(m - own) * k)=true:=decide_eq_true (by omega);rw [if_neg h];refine aD Tryz.func128 [.tmp 8] ?_;repeat' (first|with_reducible exact bq|refine ah g1 ?_|refine aC ?_)
section
def ZO (x:Acc):List PV:=[PU x.c0,PU x.c1,PU x.c2,PU x.a,PU x.own,PU x.f]
attribute [local go_sem] ZO
theorem Jl (i k:Bool) (x:Acc) (b:Pixel):aA Sg 126 [B i,B k,ag (ZO x),ag (aS b)] (fun r=>r = .tup [ag (ZO (oU (eA i k x b))),ag (aS (eA i k x b))]):=by
 have ht:True:=trivial;cases i <;> cases k
 all_goals
  refine aD Tryz.func126 [.cell 8 147, .cell 9 37] ?_;repeat' (first|refine ah ht ?_|((with_reducible refine IG (id:=5) [(23,5),(25,5),(7,5),(8,6),(9,7)] ?_ (fun K hK => ?_));exact dK;refine dz ?_)|refine ax ?_|refine an (fun K hK => ?_)|(refine aq hK ?_;try clear hK K)|(refine Bi hK ?_;try clear hK K))
 all_goals rfl
end
end Go.Proofs.YtcbifofjjpfbcaaGreatDoor
