/- Part of the proof: V8, WF. -/
import Derived.Test.YtcbifofjjpfbcaaGreatDoorM21
set_option linter.unusedSimpArgs false
set_option linter.unusedVariables false
set_option maxHeartbeats 4000000
set_option maxRecDepth 16000
namespace Go.Proofs.YtcbifofjjpfbcaaGreatDoor
open Go Go.SL
open Go.RowKit (wrap64)
section
attribute [local go_sem] cO LL fX Int.toNat_natCast cA
theorem JH {st:St} {f:FuncId} {args:List BV} {g:Bool} {c:Prop} {d:Option Nat} {K:St→Prop} (hg:g=true) (hc:c) (h:en Sg st f args (Sl.of fun r st'=>K (st'.set d r))):Vf (some g) c Sg st f args d (Sl.of K) :=
 .inl ⟨fun _=>⟨hc,h⟩,fun h=>by rw [hg] at h;cases h⟩
theorem Qa (bx : Nat → Option Bx) (nx b k n : Nat) (f : Nat → Nat → PV) (m ms : Int) (t u : Lv)
  (hb:bx b=some (.fix [.p (PU m), .own k (n+2)])) (hk:bx k=some (.arr 206 23 (n+2) f)) (hbn:b<nx) (hkn:k<nx) (hbk:b≠k) (hn:n<64) (hf:jE (f (n+1)) t) (hf2:jE (f n) u)
  (hm:Full m) (ho:1≤t.op.operator∧t.op.operator≤12) (hmo:1≤t.op.mode∧t.op.mode≤12) (hop:0≤t.op.opacity∧t.op.opacity≤m) (hms:0≤ms∧ms≤m) (hv:AccV t.acc t.back m) (hv2:AccV u.acc u.back m) (hko:u.op.knockout=true→t.op.operator=4) (hw:∀ i,nx≤i→bx i=none) :
  ∃ F:Nat→Nat→PV,(jE (F n) (oF m t.op (aM m t.op (bI t.acc t.back m) ms) u)∧∀ i,i<n→∀ j,F i j=f i j) ∧
  lU Sg bx nx 147 [.c (.ptr b 0),U ms] (.tup [ag (aS (aM m t.op (bI t.acc t.back m) ms)),I 0]) (aJ b (.fix [.p (PU m), .own (nx+4) (n+1)]) (aJ (nx+4) (.arr 206 23 (n+1) F) bx)) (nx+9):=by
 have hl:=Sh hf;have hrv:=mN hm hv;have hr:aA Sg 146 [ag [f (n+1) 12,f (n+1) 13,f (n+1) 14,f (n+1) 15,f (n+1) 16,f (n+1) 17],ag [f (n+1) 18,f (n+1) 19,f (n+1) 20,f (n+1) 21,f (n+1) 22],U m] (fun r=>r = .tup [ag (aS (bI t.acc t.back m)),B true]):=by
  obtain ⟨e0,e1,e2,e3,e4,e5,e6,e7,e8,e9,e10,e11,e12,e13,e14,e15,e16,e17,e18,e19,e20,e21,e22⟩:=hl;rw [e12,e13,e14,e15,e16,e17,e18,e19,e20,e21,e22];exact tz t.acc t.back m hm hv
 have hsc:aA Sg 177 [ag [f (n+1) 0,f (n+1) 1,f (n+1) 2,f (n+1) 3,f (n+1) 4,f (n+1) 5,f (n+1) 6,f (n+1) 7,f (n+1) 8,f (n+1) 9,f (n+1) 10,f (n+1) 11],ag (aS (bI t.acc t.back m)),U ms,U m] (fun r=>r = .tup [ag (aS (aM m t.op (bI t.acc t.back m) ms)),B true]):=by
  obtain ⟨e0,e1,e2,e3,e4,e5,e6,e7,e8,e9,e10,e11,_⟩:=hl;rw [e0,e1,e2,e3,e4,e5,e6,e7,e8,e9,e10,e11];exact zx m t.op (bI t.acc t.back m) ms hm hrv hms.1 hms.2 hop.1 hop.2
 have ea:BV.agg [CV.p (f (n+1) 0),CV.p (f (n+1) 1),CV.p (f (n+1) 2),CV.p (f (n+1) 3),CV.p (f (n+1) 4),CV.p (f (n+1) 5),CV.p (f (n+1) 6),CV.p (f (n+1) 7),CV.p (f (n+1) 8),CV.p (f (n+1) 9),CV.p (f (n+1) 10),CV.p (f (n+1) 11)]=ag (fZ t.op):=by
  obtain ⟨e0,e1,e2,e3,e4,e5,e6,e7,e8,e9,e10,e11,_⟩:=hl;rw [e0,e1,e2,e3,e4,e5,e6,e7,e8,e9,e10,e11];rfl
 have hsv:=oI (o:=t.op) hm hrv hms.1 hms.2 hop.1 hop.2;have e:bx=aJ b (.fix [.p (PU m), .own k (n+2)]) (aJ k (.arr 206 23 (n+2) f) bx):=by rw [← dv hk];exact dv hb
 have g:(((n+1:Nat):Int) == 0)=false:=by rw [beq_eq_false_iff_ne];omega
 generalize aM m t.op (bI t.acc t.back m) ms=q at *
 generalize bI t.acc t.back m=res at *
 refine ⟨?F,⟨?hF, ?hG⟩, ?hI⟩
 case hI =>
  refine ku Tryz.func147 rfl (rs:=[.cell 4 37, .tmp 5]) rfl rfl fG (by decide +kernel) (Nat.le_of_ble_eq_true rfl) ?_ (fun kf => ?_)
  ·intro v hv;simp only [List.mem_cons,List.not_mem_nil,or_false] at hv;rcases hv with rfl|rfl
   ·exact hbn
   ·trivial
  rw [e];repeat' (first|refine ah g ?_|refine ax ?_|refine an (fun K hK => ?_)|refine jS (k:=k) (wm m (n+1) f (by omega)) trivial ?_|(refine aq hK ?_;try clear hK K))
  refine lk (id:=3) (.br 0 (.br 1 (.br 2 (.br 3 (.br 4 (.br 5 (.br 6 (.br 7 (.br 8 (.br 9 .leaf .nil) .nil) .nil) .nil) (.br 8 (.br 5 (.br 6 (.br 7 (.br 9 .leaf .nil) .nil) .nil) .nil) .nil)) .nil) .nil) .nil) .nil) .nil) (by decide +kernel) ?_ (fun K0 hW => ?_)
  ·exact dK
  replace hW:=iS hW;repeat' (first|exact cg|(refine cH (fun K' hK' => ?_) ?_)|(refine bJ (hW _ ?_);clear hW)|(refine jS (k:=k) (qD m (n+1) f (by omega)) trivial ?_;(try simp (maxSteps:=999999)(disch:=omega) only [go_sem]);and_intros;(all_goals first|(refine hK' _ ?_;clear hK' K')|trivial|omega|exact Nat.le_of_ble_eq_true rfl|exact ai|skip))|(simp (maxSteps:=999999)(disch:=omega) only [go_sem];and_intros;(all_goals first|(refine hK' _ ?_;clear hK' K')|trivial|omega|exact Nat.le_of_ble_eq_true rfl|exact ai|skip)))
  all_goals
   refine dJ ?_;repeat' (first|(((with_reducible refine bT (id:=4) [] (by decide +kernel) (by decide +kernel) ?_ (fun K hK => ?_));exact dK);(try simp (maxSteps:=999999)(disch:=omega) only [go_sem]);and_intros;(all_goals first|(refine hK _ bG ?_;clear hK K)|exact ai|skip))|(refine aa (hr) ?_;and_intros;all_goals first|(refine hK _ ?_;clear hK K)|try exact ai))
   refine hK _ trivial ?_;clear hK;repeat' (first|refine ah g ?_|(((with_reducible refine bT (id:=7) [] (by decide +kernel) (by decide +kernel) ?_ (fun K hK => ?_));exact dK);(try simp (maxSteps:=999999)(disch:=omega) only [go_sem]);and_intros;(all_goals first|(refine hK _ bG ?_;clear hK K)|exact ai|skip))|refine bU ?_|((first|refine an (fun K hK => ?_)|refine aa (hsc) ?_);and_intros;all_goals first|(refine hK _ ?_;clear hK K)|try exact ai))
   refine hK _ trivial ?_;clear hK;repeat' (first|refine ah g ?_|refine aC ?_)
   refine lk (id:=10) (.br 0 (.br 1 (.br 2 (.br 3 (.br 4 (.br 5 (.br 6 (.br 7 (.br 8 (.br 9 (.br 10 (.br 11 (.br 12 (.br 13 (.br 14 .leaf .nil) .nil) .nil) .nil) .nil) .nil) .nil) .nil) .nil) .nil) .nil) .nil) .nil) .nil) .nil) (by decide +kernel) ?_ (fun K0 hW => ?_)
   ·exact dK
   replace hW:=iS hW;repeat' (first|exact cg|(refine cH (fun K' hK' => ?_) ?_)|(refine bJ (hW _ ?_);clear hW)|(refine jS (k:=k) (qD m (n+1) f (by omega)) trivial ?_;(try simp (maxSteps:=999999)(disch:=omega) only [go_sem]);and_intros;(all_goals first|(refine hK' _ ?_;clear hK' K')|trivial|omega|exact Nat.le_of_ble_eq_true rfl|exact ai|skip))|(simp (maxSteps:=999999)(disch:=omega) only [go_sem];and_intros;(all_goals first|(refine hK' _ ?_;clear hK' K')|trivial|omega|exact Nat.le_of_ble_eq_true rfl|exact ai|skip)))
   all_goals
    refine dJ ?_;repeat' (first|refine ax ?_|refine an (fun K hK => ?_)|(refine aq hK ?_;try clear hK K))
    refine JH rfl rfl ?_;rw [ea];refine wg (nx+5) (nx+4) n f m t.op q u ?_ ?_ ?_ ?_ ?_ ?_ hf2 hm ho hmo hsv hv2 hko ?_ ?_
    ·exact bG
    ·exact bG
    ·exact CJ
    ·exact CJ
    ·omega
    ·omega
    ·intro iw hiw
     (try simp (maxSteps:=999999)(disch:=omega) only [go_sem] at hiw ⊢)
     (repeat (refine Eq.trans (if_neg ?_) ?_;(focus omega)))
     exact hw iw (by omega)
    refine dz ?_;refine hK _ ?_;clear hK;repeat' (first|refine ah g ?_|refine bU ?_|(refine an (fun K hK => ?_);and_intros;all_goals first|(refine hK _ ?_;clear hK K)|try exact ai)|(refine ct ?_;(try clear hB KB);(try clear hK K)))
    refine ⟨rfl,AK (bx:=aJ b (.fix [.p (PU m), .own k (n+2)]) (aJ k (.arr 206 23 (n+2) f) bx)) (nx:=nx) ?_ ?_ ?_ (fun i hi h1 h2 => ?_)⟩
    ·rw [← e];exact hw
    ·exact bG
    ·exact na
    ·exact bG
 ·exact zo hf2
 ·intro i hi j;exact zn (by omega)
end
section
attribute [local go_sem] qE ks
theorem Hw (m:Int):aA Sg 185 [I m] (fun r=>r = .b (B (decide (1≤m∧m≤12)))):=by
 refine aD Tryz.func185 [.tmp 2] ?_;repeat' (refine aC ?_)
 refine eV ?_
 (try simp only [Bool.and_eq_true,Bool.or_eq_true,Bool.not_eq_true',Bool.not_eq_false',decide_eq_true_eq,decide_eq_false_iff_not,ge_iff_le,gt_iff_lt,beq_iff_eq,bne_iff_ne,ne_eq,Bool.or_eq_false_iff,Bool.and_eq_false_imp,Bool.not_true,Bool.not_false])
 try omega
theorem NC (mode s a d b:Int) (hm:1≤mode∧mode≤12) (h:Sm4 s a d b):aA Sg 223 [I mode,cm s,cm a,cm d,cm b] (fun r=>r = .b (ag (ks (aR mode s a d b)))):=by
 have hso:=Lc s a d b h;have hdo:=Jb s a d b h;have hbu:=Nj s a d b h;have hh:=h;obtain ⟨s0,sa,am,d0,db,bm⟩:=h;have sb:0≤s * b∧s * b≤65535 * 65535:=⟨ao (by omega) (by omega),az (by omega) (by omega) (by omega) (by omega)⟩
 have sd:0≤s * d∧s * d≤65535 * 65535:=⟨ao (by omega) (by omega),az (by omega) (by omega) (by omega) (by omega)⟩
 have da:0≤d * a∧d * a≤65535 * 65535:=⟨ao (by omega) (by omega),az (by omega) (by omega) (by omega) (by omega)⟩
 have ab:0≤a * b∧a * b≤65535 * 65535:=⟨ao (by omega) (by omega),az (by omega) (by omega) (by omega) (by omega)⟩
 have hmin:(if d * a<s * b then d * a else s * b)=min (s * b) (d * a):=by split <;> omega
 have hmax:(if d * a>s * b then d * a else s * b)=max (s * b) (d * a):=by split <;> omega
 have qmin:Q64 (if d * a<s * b then d * a else s * b):=⟨by split <;> omega,by split <;> omega⟩
 have qmax:Q64 (if d * a>s * b then d * a else s * b):=⟨by split <;> omega,by split <;> omega⟩
 have hv:mode=1∨mode=2∨mode=3∨mode=4∨mode=5∨mode=6∨mode=7∨mode=8∨mode=9∨mode=10∨mode=11∨mode=12:=by omega
 have ht:True:=trivial;refine aD Tryz.func223 [.cell 10 253] ?_;rcases hv with rfl|rfl|rfl|rfl|rfl|rfl|rfl|rfl|rfl|rfl|rfl|rfl
 ·repeat' (first|refine ah ht ?_|refine ax ?_|refine an (fun K hK => ?_)|refine aa (bO (s * b) 1 ⟨by omega,by omega⟩) ?_|(refine aq hK ?_;try clear hK K))
  rfl
 ·repeat' (first|refine ah ht ?_|refine ax ?_|refine an (fun K hK => ?_)|refine aa (bO (s * d) 1 ⟨by omega,by omega⟩) ?_|(refine aq hK ?_;try clear hK K))
  rfl
 ·have hn:0≤s * b+d * a - s * d:=by have:=az (Int.le_refl s) db d0 s0;omega
  repeat' (first|refine ah ht ?_|refine ax ?_|refine an (fun K hK => ?_)|refine aa (bO (s * b+d * a - s * d) 1 ⟨by omega,by omega⟩) ?_|(refine aq hK ?_;try clear hK K))
  rfl
 ·have hb:=mV d0 db s0 sa;have hb2:b * a≤65535 * 65535:=by rw [Int.mul_comm];omega
  have h1:=DN s a d b (decide (2 * d≤b)) hh (fun q=>by
   rw [decide_eq_false_iff_not] at q;have:=az (show 2 * (b - d)≤b by omega) (show a - s≤a by omega) (by omega) (by omega)
   rw [Int.mul_comm a b];omega)
  rw [show (if decide (2 * d≤b)=true then 2 * s * d else a * b - 2 * (b - d) * (a - s))=kI d b s a by
   unfold kI;simp only [decide_eq_true_eq];split
   ·rw [Int.mul_right_comm]
   ·rw [Int.mul_comm a b,Int.mul_right_comm 2 (b - d)]] at h1
  repeat' (first|refine ah ht ?_|refine ax ?_|refine an (fun K hK => ?_)|refine aa (h1) ?_|refine aa (bO (kI d b s a) 1 ⟨by omega,by omega⟩) ?_|(refine aq hK ?_;try clear hK K))
  rfl
 ·repeat' (first|refine ah ht ?_|refine ax ?_|refine an (fun K hK => ?_)|refine aa (bO (if d * a<s * b then d * a else s * b) 1 qmin) ?_|(refine aq hK ?_;try clear hK K))
  rw [hmin];rfl
 ·repeat' (first|refine ah ht ?_|refine ax ?_|refine an (fun K hK => ?_)|refine aa (bO (if d * a>s * b then d * a else s * b) 1 qmax) ?_|(refine aq hK ?_;try clear hK K))
  rw [hmax];rfl
 ·repeat' (first|refine ah ht ?_|refine ax ?_|refine an (fun K hK => ?_)|refine aa (hdo) ?_|(refine aq hK ?_;try clear hK K))
  rfl
 ·repeat' (first|refine ah ht ?_|refine ax ?_|refine an (fun K hK => ?_)|refine aa (hbu) ?_|(refine aq hK ?_;try clear hK K))
  rfl
 ·have hb:=mV s0 sa d0 db
  have h1:=DN s a d b (decide (2 * s≤a)) hh (fun q=>by
   rw [decide_eq_false_iff_not] at q;have:=az (show b - d≤b by omega) (show 2 * (a - s)≤a by omega) (by omega) (by omega);rw [Int.mul_comm b a] at this
   rw [Int.mul_right_comm,Int.mul_comm];omega)
  rw [show (if decide (2 * s≤a)=true then 2 * s * d else a * b - 2 * (b - d) * (a - s))=kI s a d b by
   unfold kI
   simp only [decide_eq_true_eq]] at h1
  repeat' (first|refine ah ht ?_|refine ax ?_|refine an (fun K hK => ?_)|refine aa (h1) ?_|refine aa (bO (kI s a d b) 1 ⟨by omega,by omega⟩) ?_|(refine aq hK ?_;try clear hK K))
  rfl
 ·repeat' (first|refine ah ht ?_|refine ax ?_|refine an (fun K hK => ?_)|refine aa (hso) ?_|(refine aq hK ?_;try clear hK K))
  rfl
 ·have hmm:(if d * a>s * b then d * a else s * b) - (if d * a<s * b then d * a else s * b)=max (s * b) (d * a) - min (s * b) (d * a):=by rw [hmin,hmax]
  have qd:Q64 ((if d * a>s * b then d * a else s * b) - (if d * a<s * b then d * a else s * b)):=⟨by split <;> split <;> omega,by split <;> split <;> omega⟩
  repeat' (first|refine ah ht ?_|refine ax ?_|refine an (fun K hK => ?_)|refine aa (bO ((if d * a>s * b then d * a else s * b) - (if d * a<s * b then d * a else s * b)) 1 qd) ?_|(refine aq hK ?_;try clear hK K))
  rw [hmm];rfl
 ·have hn:0≤s * b+d * a - 2 * s * d:=by
   have h1:=az (Int.le_refl s) db d0 s0;have h2:=az sa (Int.le_refl d) d0 (by omega);rw [Int.mul_comm a d] at h2;rw [Int.mul_assoc];omega
  have h4:0≤2 * s * d∧2 * s * d≤131070 * 65535:=⟨ao (by omega) d0,az (by omega) (by omega) d0 (by omega)⟩
  repeat' (first|refine ah ht ?_|refine ax ?_|refine an (fun K hK => ?_)|refine aa (bO (s * b+d * a - 2 * s * d) 1 ⟨by omega,by omega⟩) ?_|(refine aq hK ?_;try clear hK K))
  rfl
theorem yv (mode s a d b:Int) (hm:1≤mode∧mode≤12) (h:Sm4 s a d b):aA Sg 209 [I mode,U s,U a,U d,U b] (fun r=>r = .tup [ag (ks (aR mode s a d b)),B true]):=by
 have h1:=Hw mode;rw [decide_eq_true hm] at h1;have h2:=NC mode s a d b hm h;obtain ⟨s0,sa,am,d0,db,bm⟩:=h;have d1:decide (s>a)=false:=decide_eq_false (by omega);have d2:decide (d>b)=false:=decide_eq_false (by omega);generalize aR mode s a d b=X at *
 refine aD Tryz.func209 [.cell 10 253, .tmp 11] ?_;repeat' (first|refine ah (And.intro d1 d2) ?_|refine ax ?_|refine an (fun K hK => ?_)|refine aa (h1) ?_|refine aa (h2) ?_|(refine aq hK ?_;try clear hK K))
 rfl
end
end Go.Proofs.YtcbifofjjpfbcaaGreatDoor
