/- Part of the proof: Y4, WS, WT, WU, TD, VB, DC. -/
import Derived.Test.YtmfblbbemekkoaaGreatDoorK26
import Derived.Test.YtmfblbbemekkoaaGreatDoorK28
set_option linter.unusedSimpArgs false
set_option linter.unusedVariables false
set_option maxHeartbeats 8000000
set_option maxRecDepth 16000
namespace Go.Proofs.YtmfblbbemekkoaaGreatDoor
open Go Go.SL
open Go.RowKit (wrap64)
attribute [local go_sem] Int.toNat_natCast cU cB dI
theorem qm:Sg.ti 121=some (1,false):=by kernel_rfl
theorem Jn:Sg.ti 207=some (1,false):=by kernel_rfl
attribute [local go_sem] qm Jn
theorem eM (a:Acc):aD Sg 113 [ag (dI a)] (fun r=>r = .b (ag (aH (dU a)))):=by
 have ht:True:=trivial
 unfold dU
 refine aC Tryz.func113 [.cell 2 41] ?_
 repeat' (first|(refine ai (fun K hK => ?_);and_intros;all_goals first|(refine hK _ ?_;clear hK K)|try exact aa)|(refine an ?_;(try clear hB KB);(try clear hK K)))
 rfl
theorem lu (a0 a1 a2 a3 a4 a5 a6 a7 a8 a9 a10 a11 a12 a13 a14 a15 a16 a17:PV):aD Sg 63 [ag [a0,a1,a2,a3,a4,a5,a6,a7,a8,a9,a10,a11,a12,a13,a14,a15,a16,a17]] (fun r=>r = .tup []):=by
 have ht:True:=trivial
 refine aC Tryz.func63 [] ?_
 repeat' (refine ai (fun K hK => ?_);and_intros;all_goals first|(refine hK _ ?_;clear hK K)|try exact aa)
 exact ⟨trivial,fun _ h=>(by cases h),rfl⟩
def fM:BV := .c (.p (.val (.func (.func 63) #[] #[])))
attribute [local go_sem] fM
theorem mr (bx : Nat → Option Bx) (nx b5 b2 b3 b1 : Nat) (kd k m : Int) (p : Pixel) (v : Mic) (h5 : bx b5 = some (.fix ((aH p).map CV.p))) (h2 : bx b2 = some (.fix [.p (PU m)])) (h3 : bx b3 = some (.fix [.p (.val (.func (.func 63) #[] #[]))])) (h1 : bx b1 = some (.fix ((cB v).map CV.p)))
  (n5:b5<nx) (n2:b2<nx) (n3:b3<nx) (n1:b1<nx) (d52:b5≠b2) (d53:b5≠b3) (d51:b5≠b1) (d23:b2≠b3) (d21:b2≠b1) (d31:b3≠b1)
  (hm:Full m) (hp:PixV p m) (hk:0≤k) (hkm:k≤m) (hw:∀ i,nx≤i→bx i=none) :
  kR Sg bx nx 151 [I kd,U k, .c (.ptr b5 0), .c (.ptr b2 0), .c (.ptr b3 0), .c (.ptr b1 0)] (.tup []) (aA b5 (.fix ((aH (aX p k m)).map CV.p)) bx) (nx+1):=by
 have hs:=gO p k m hm hp hk hkm
 have e:bx=aA b5 (.fix ((aH p).map CV.p)) (aA b2 (.fix [.p (PU m)]) (aA b3 (.fix [.p (.val (.func (.func 63) #[] #[]))]) (aA b1 (.fix ((cB v).map CV.p)) bx))):=by
  rw [← bt h1,← bt h3,← bt h2];exact bt h5
 have ht:True:=trivial
 generalize aX p k m=q at *
 refine gw Tryz.func151 rfl (rs:=[]) rfl rfl dZ (by decide +kernel) (Nat.le_of_ble_eq_true rfl) ?_ (fun kf => ?_)
 ·intro v hv
  simp only [List.mem_cons,List.not_mem_nil,or_false] at hv
  rcases hv with rfl|rfl|rfl|rfl|rfl|rfl
  ·trivial
  ·trivial
  ·exact n5
  ·exact n2
  ·exact n3
  ·exact n1
 rw [e]
 repeat' ((first|refine ai (fun K hK => ?_)|refine ae (hs) ?_|refine ae (lu _ _ _ _ _ _ _ _ _ _ _ _ _ _ _ _ _ _) ?_);and_intros;all_goals first|(refine hK _ ?_;clear hK K)|try exact aa)
 refine ⟨trivial,rfl,zB (bx:=aA b5 (.fix ((aH p).map CV.p)) (aA b2 (.fix [.p (PU m)]) (aA b3 (.fix [.p (.val (.func (.func 63) #[] #[]))]) (aA b1 (.fix ((cB v).map CV.p)) bx)))) (nx:=nx) ?_ ?_ (fun i hi h1 => ?_), ?_, ?_, ?_⟩
 ·rw [← e];exact hw
 ·(first|(simp (maxSteps:=999999)(disch:=omega) only [go_sem];done)|(simp (maxSteps:=999999)(disch:=omega) only [go_sem];rfl))
 ·simp (maxSteps:=999999)(disch:=omega) only [go_sem]
 ·simp (maxSteps:=999999)(disch:=omega) only [go_sem]
 ·rfl
 ·exact fun v hv=>(by cases hv)
theorem oO (o:Op) (v:Mic) (k m:Int) (hm:Full m) (hp:PixV v.out m) (hk:0≤k) (hkm:k≤m) (ho:0≤o.opacity) (hom:o.opacity≤m):aD Sg 109 [ag (dJ o),ag (cB v),U k,U m,fM] (fun r=>r = .b (ag (aH (az m o v.out k)))):=by
 have ht:True:=trivial
 unfold az
 by_cases h:o.mask=0
 ·rw [if_pos h,hZ hm]
  have g:(o.mask != 0)=false:=bne_eq_false_iff_eq.2 h
  refine aC Tryz.func109 [.cell 10 41] ?_
  repeat' (first|refine aj g ?_|refine ak ?_|((first|refine ai (fun K hK => ?_)|refine ae (lu _ _ _ _ _ _ _ _ _ _ _ _ _ _ _ _ _ _) ?_);and_intros;all_goals first|(refine hK _ ?_;clear hK K)|try exact aa))
  refine dd (mr _ _ 5 2 3 1 3 o.opacity m v.out v ?_ ?_ ?_ ?_ ?_ ?_ ?_ ?_ (by decide) (by decide) (by decide) (by decide) (by decide) (by decide) hm hp ho hom ?_) rfl ?_ ?_ ?_
  ·simp (maxSteps:=999999)(disch:=omega) only [go_sem]
  ·simp (maxSteps:=999999)(disch:=omega) only [go_sem]
  ·simp (maxSteps:=999999)(disch:=omega) only [go_sem]
  ·simp (maxSteps:=999999)(disch:=omega) only [go_sem]
  ·(first|(simp (maxSteps:=999999)(disch:=omega) only [go_sem];done)|(simp (maxSteps:=999999)(disch:=omega) only [go_sem];omega))
  ·(first|(simp (maxSteps:=999999)(disch:=omega) only [go_sem];done)|(simp (maxSteps:=999999)(disch:=omega) only [go_sem];omega))
  ·(first|(simp (maxSteps:=999999)(disch:=omega) only [go_sem];done)|(simp (maxSteps:=999999)(disch:=omega) only [go_sem];omega))
  ·(first|(simp (maxSteps:=999999)(disch:=omega) only [go_sem];done)|(simp (maxSteps:=999999)(disch:=omega) only [go_sem];omega))
  ·intro iw hiw
   (try simp (maxSteps:=999999)(disch:=omega) only [go_sem] at hiw ⊢)
   (repeat (refine Eq.trans (if_neg ?_) ?_;(focus omega)))
   (try rfl)
  ·intro iw hiw
   (try simp (maxSteps:=999999)(disch:=omega) only [go_sem] at hiw ⊢)
   (repeat (refine Eq.trans (if_neg ?_) ?_;(focus omega)))
   (try rfl)
  ·exact Nat.le_succ _
  simp (maxSteps:=999999)(disch:=omega) only [go_sem]
  refine hK _ ?_
  clear hK
  repeat' (first|(refine ai (fun K hK => ?_);and_intros;all_goals first|(refine hK _ ?_;clear hK K)|try exact aa)|(refine an ?_;(try clear hB KB);(try clear hK K)))
  rfl
 ·rw [if_neg h]
  have g:(o.mask != 0)=true:=bne_iff_ne.2 h
  have hp2:=jD hm hp hk hkm
  generalize hq:aX v.out k m=q at hp2 ⊢
  refine aC Tryz.func109 [.cell 10 41] ?_
  repeat' (first|refine aj g ?_|refine ak ?_|((first|refine ai (fun K hK => ?_)|refine ae (lu _ _ _ _ _ _ _ _ _ _ _ _ _ _ _ _ _ _) ?_);and_intros;all_goals first|(refine hK _ ?_;clear hK K)|try exact aa))
  refine dd (mr _ _ 5 2 3 1 2 k m v.out v ?_ ?_ ?_ ?_ ?_ ?_ ?_ ?_ (by decide) (by decide) (by decide) (by decide) (by decide) (by decide) hm hp hk hkm ?_) rfl ?_ ?_ ?_
  ·simp (maxSteps:=999999)(disch:=omega) only [go_sem]
  ·simp (maxSteps:=999999)(disch:=omega) only [go_sem]
  ·simp (maxSteps:=999999)(disch:=omega) only [go_sem]
  ·simp (maxSteps:=999999)(disch:=omega) only [go_sem]
  ·(first|(simp (maxSteps:=999999)(disch:=omega) only [go_sem];done)|(simp (maxSteps:=999999)(disch:=omega) only [go_sem];omega))
  ·(first|(simp (maxSteps:=999999)(disch:=omega) only [go_sem];done)|(simp (maxSteps:=999999)(disch:=omega) only [go_sem];omega))
  ·(first|(simp (maxSteps:=999999)(disch:=omega) only [go_sem];done)|(simp (maxSteps:=999999)(disch:=omega) only [go_sem];omega))
  ·(first|(simp (maxSteps:=999999)(disch:=omega) only [go_sem];done)|(simp (maxSteps:=999999)(disch:=omega) only [go_sem];omega))
  ·intro iw hiw
   (try simp (maxSteps:=999999)(disch:=omega) only [go_sem] at hiw ⊢)
   (repeat (refine Eq.trans (if_neg ?_) ?_;(focus omega)))
   (try rfl)
  ·intro iw hiw
   (try simp (maxSteps:=999999)(disch:=omega) only [go_sem] at hiw ⊢)
   (repeat (refine Eq.trans (if_neg ?_) ?_;(focus omega)))
   (try rfl)
  ·exact Nat.le_succ _
  simp (maxSteps:=999999)(disch:=omega) only [go_sem]
  refine hK _ ?_
  clear hK
  rw [hq]
  repeat' (refine ai (fun K hK => ?_);and_intros;all_goals first|(refine hK _ ?_;clear hK K)|try exact aa)
  refine dd (mr _ _ 5 2 3 1 3 o.opacity m q v ?_ ?_ ?_ ?_ ?_ ?_ ?_ ?_ (by decide) (by decide) (by decide) (by decide) (by decide) (by decide) hm hp2 ho hom ?_) rfl ?_ ?_ ?_
  ·simp (maxSteps:=999999)(disch:=omega) only [go_sem]
  ·simp (maxSteps:=999999)(disch:=omega) only [go_sem]
  ·simp (maxSteps:=999999)(disch:=omega) only [go_sem]
  ·simp (maxSteps:=999999)(disch:=omega) only [go_sem]
  ·(first|(simp (maxSteps:=999999)(disch:=omega) only [go_sem];done)|(simp (maxSteps:=999999)(disch:=omega) only [go_sem];omega))
  ·(first|(simp (maxSteps:=999999)(disch:=omega) only [go_sem];done)|(simp (maxSteps:=999999)(disch:=omega) only [go_sem];omega))
  ·(first|(simp (maxSteps:=999999)(disch:=omega) only [go_sem];done)|(simp (maxSteps:=999999)(disch:=omega) only [go_sem];omega))
  ·(first|(simp (maxSteps:=999999)(disch:=omega) only [go_sem];done)|(simp (maxSteps:=999999)(disch:=omega) only [go_sem];omega))
  ·intro iw hiw
   (try simp (maxSteps:=999999)(disch:=omega) only [go_sem] at hiw ⊢)
   (repeat (refine Eq.trans (if_neg ?_) ?_;(focus omega)))
   (try rfl)
  ·intro iw hiw
   (try simp (maxSteps:=999999)(disch:=omega) only [go_sem] at hiw ⊢)
   (repeat (refine Eq.trans (if_neg ?_) ?_;(focus omega)))
   (try rfl)
  ·exact Nat.le_succ _
  simp (maxSteps:=999999)(disch:=omega) only [go_sem]
  refine hK _ ?_
  clear hK
  repeat' (first|(refine ai (fun K hK => ?_);and_intros;all_goals first|(refine hK _ ?_;clear hK K)|try exact aa)|(refine an ?_;(try clear hB KB);(try clear hK K)))
  rfl
end Go.Proofs.YtmfblbbemekkoaaGreatDoor
set_option maxHeartbeats 8000000
set_option maxRecDepth 16000
namespace Go.Proofs.YtmfblbbemekkoaaGreatDoor
open Go Go.SL
open Go.RowKit (wrap64)
attribute [local go_sem] dI uB cO Int.toNat_natCast cU
attribute [local go_sem] Qz
theorem iD {a c k nx:Nat} {A C:Bx} {bx b:Nat→Option Bx} (hw:∀ i,nx≤i→bx i=none) (h1:b a=some A) (h2:b c=some C) (h3:∀ i,i<nx→i≠a→i≠c→i≠k→b i=bx i):Jo (aA a A (aA c C (dY k bx))) b:=fun i y hi=>by
 unfold aA at hi
 split at hi
 ·rename_i e;rw [e,h1];exact hi
 rename_i e
 split at hi
 ·rename_i e2;rw [e2,h2];exact hi
 rename_i e2
 unfold dY at hi
 split at hi
 ·cases hi
 ·rename_i e3
  rcases Nat.lt_or_ge i nx with q|q
  ·rw [h3 i q e e2 e3];exact hi
  ·rw [hw i q] at hi;cases hi
theorem BB (bx : Nat → Option Bx) (nx b k n N : Nat) (hN : n + 1 ≤ N) (f : Nat → Nat → PV) (m : Int) (o : Op) (t : Lv)
  (hb:bx b=some (.fix [.p (PU m), .own k (n+1)])) (hk:bx k=some (.arr 201 23 N f)) (hbn:b<nx) (hkn:k<nx) (hbk:b≠k) (hn:n<64) (hf:eI (f n) t) (hkd:o.kind=2) (hw:∀ i,nx≤i→bx i=none) :
  ∃ F:Nat→Nat→PV,(eI (F (n+1)) (fW o t)∧∀ i,i<n+1→∀ j,F i j=f i j) ∧
  kR Sg bx nx 105 [.c (.ptr b 0),ag (dJ o)] (.b (I 0)) (aA b (.fix [.p (PU m), .own (nx+5) (n+2)]) (aA (nx+5) (.arr 201 23 (n+2) F) (dY k bx))) (nx+6):=by
 have hst:=BW o.isolated t.op.knockout t.acc t.back
 have hdp:=lj m n f (by omega)
 have htp:=np m n f t (by omega) hf
 have e:bx=aA b (.fix [.p (PU m), .own k (n+1)]) (aA k (.arr 201 23 N f) bx):=by rw [← bt hk];exact bt hb
 have g1:(o.kind != 2)=false:=by rw [bne_eq_false_iff_eq];exact hkd
 have g2:decide ((n:Int)≥64)=false:=decide_eq_false (by omega)
 unfold fW
 generalize fZ o.isolated t.op.knockout t.acc t.back=q at *
 refine ⟨?F,⟨?hF, ?hG⟩, ?hI⟩
 case hI =>
  refine gw Tryz.func105 rfl (rs:=[.tmp 4]) rfl rfl dZ (by decide +kernel) (Nat.le_of_ble_eq_true rfl) ?_ (fun kf => ?_)
  ·intro v hv
   simp only [List.mem_cons,List.not_mem_nil,or_false] at hv
   rcases hv with rfl|rfl
   ·exact hbn
   ·exact fun c hc=>by (obtain ⟨x,_,rfl⟩:=List.mem_map.1 hc;trivial)
  rw [e]
  repeat' (first|refine aj (And.intro g1 g2) ?_|refine ak ?_|((first|refine ai (fun K hK => ?_)|refine ed (k:=k) (e:=201) hN hdp trivial ?_|refine ed (k:=k) (e:=201) hN htp (vH _) ?_|refine ae (hst) ?_);and_intros;all_goals first|(refine hK _ ?_;clear hK K)|try exact aa))
  refine nB (id:=7) (.br 0 (.br 1 (.br 2 (.br 3 (.br 4 (.br 5 (.br 6 (.br 7 (.br 8 (.br 9 (.br 10 (.br 11 (.br 12 (.br 13 .leaf .nil) .nil) .nil) .nil) .nil) .nil) .nil) .nil) .nil) .nil) .nil) .nil) .nil) .nil) (by decide +kernel) ?_ (fun K0 hW => ?_)
  ·(first|(refine And.intro (fun iw hiw => ?_) ?_;(focus ((try simp (maxSteps:=999999)(disch:=omega) only [go_sem] at hiw ⊢);(repeat (refine Eq.trans (if_neg ?_) ?_;(focus omega)));exact hw iw (by omega)));(focus (first|exact Nat.zero_le _|(simp (maxSteps:=999999)(disch:=omega) only [go_sem];done)|(simp (maxSteps:=999999)(disch:=omega) only [go_sem];omega))))|exact eS)
  replace hW:=kD hW
  repeat' (first|exact cz|(refine cZ (fun K' hK' => ?_) ?_)|(refine cj (hW _ ?_);clear hW)|(simp (maxSteps:=999999)(disch:=omega) only [go_sem];and_intros;(all_goals first|(refine hK' _ ?_;clear hK' K')|trivial|omega|exact Nat.le_of_ble_eq_true rfl|exact aa|skip)))
  all_goals
   refine iT ?_
   repeat' (first|(refine ai (fun K hK => ?_);and_intros;all_goals first|(refine hK _ ?_;clear hK K)|try exact aa)|(refine an ?_;(try clear hB KB);(try clear hK K)))
   refine iD (bx:=aA b (.fix [.p (PU m), .own k (n+1)]) (aA k (.arr 201 23 N f) bx)) (nx:=nx) ?_ ?_ ?_ (fun i hi h1 h2 h3 => ?_)
   ·rw [← e];exact hw
   ·simp (maxSteps:=999999)(disch:=omega) only [go_sem]
   ·(first|(simp (maxSteps:=999999)(disch:=omega) only [go_sem];done)|(simp (maxSteps:=999999)(disch:=omega) only [go_sem];rfl))
   ·simp (maxSteps:=999999)(disch:=omega) only [go_sem]
 ·intro j hj
  show ix (n+1) f _ (n+1) j=_
  unfold ix
  rw [if_neg (by omega),Nat.sub_self]
  have hivl:j=0∨j=1∨j=2∨j=3∨j=4∨j=5∨j=6∨j=7∨j=8∨j=9∨j=10∨j=11∨j=12∨j=13∨j=14∨j=15∨j=16∨j=17∨j=18∨j=19∨j=20∨j=21∨j=22:=by omega
  rcases hivl with rfl|rfl|rfl|rfl|rfl|rfl|rfl|rfl|rfl|rfl|rfl|rfl|rfl|rfl|rfl|rfl|rfl|rfl|rfl|rfl|rfl|rfl|rfl <;> rfl
 ·intro i hi j
  show ix (n+1) f _ i j=_
  unfold ix
  rw [if_pos hi]
end Go.Proofs.YtmfblbbemekkoaaGreatDoor
set_option maxHeartbeats 8000000
set_option maxRecDepth 16000
namespace Go.Proofs.YtmfblbbemekkoaaGreatDoor
open Go Go.SL
open Go.RowKit (wrap64)
attribute [local go_sem] dI uB cO Int.toNat_natCast cU
attribute [local go_sem] Qz
theorem ET (bx : Nat → Option Bx) (nx b k n N : Nat) (hN : n + 2 ≤ N) (f : Nat → Nat → PV) (m ms : Int) (t u : Lv)
  (hb:bx b=some (.fix [.p (PU m), .own k (n+2)])) (hk:bx k=some (.arr 201 23 N f)) (hbn:b<nx) (hkn:k<nx) (hbk:b≠k) (hn:n<64) (hf:eI (f (n+1)) t) (hf2:eI (f n) u)
  (hm:Full m) (ho:1≤t.op.operator∧t.op.operator≤12) (hmo:1≤t.op.mode∧t.op.mode≤12) (hop:0≤t.op.opacity∧t.op.opacity≤m) (hms:0≤ms∧ms≤m) (hv:AccV t.acc t.back m) (hv2:AccV u.acc u.back m) (hko:u.op.knockout=true→t.op.operator=4) (hw:∀ i,nx≤i→bx i=none) :
  ∃ F:Nat→Nat→PV,(eI (F n) (bT m t.op (az m t.op (bl t.acc t.back m) ms) u)∧∀ i,i<n→∀ j,F i j=f i j) ∧
  kR Sg bx nx 111 [.c (.ptr b 0),U ms] (.tup [ag (aH (az m t.op (bl t.acc t.back m) ms)),I 0]) (aA b (.fix [.p (PU m), .own k (n+1)]) (aA k (.arr 201 23 N F) bx)) (nx+4):=by
 have hrv:=kz hm hv
 have hr:=ka t.acc t.back m hm hv
 have hdp:=lj m (n+1) f (by omega)
 have htp:=np m (n+1) f t (by omega) hf
 have hsv:=nz (o:=t.op) hm hrv hms.1 hms.2 hop.1 hop.2
 have e:bx=aA b (.fix [.p (PU m), .own k (n+2)]) (aA k (.arr 201 23 N f) bx):=by rw [← bt hk];exact bt hb
 have g:(((n+1:Nat):Int) == 0)=false:=by rw [beq_eq_false_iff_ne];omega
 have g2:decide (ms>m)=false:=decide_eq_false (by omega)
 have g3:decide (t.op.opacity>m)=false:=decide_eq_false (by omega)
 have hsc:=fun (st:St) (K:SV→St→Prop) hb hk hK=>mH (st:=st) (K:=K) b k (n+2) N 201 f m t.op (bl t.acc t.back m) ms hN hb hk hm hrv hms.1 hms.2 hop.1 hop.2 hK
 have hpt:=fun (st:St) (K:SV→St→Prop) hb hk hK=>oU (st:=st) (K:=K) b k (n+2) N n 201 f m t.op (az m t.op (bl t.acc t.back m) ms) u hN (by omega) hb hk (by omega) hf2 hm ho hmo hsv hv2 hko hK
 generalize az m t.op (bl t.acc t.back m) ms=q at *
 generalize bl t.acc t.back m=res at *
 generalize bT m t.op q u=t' at *
 refine ⟨?F,⟨?hF, ?hG⟩, ?hI⟩
 case hI =>
  refine gw Tryz.func111 rfl (rs:=[.cell 4 41, .tmp 5]) rfl rfl dZ (by decide +kernel) (Nat.le_of_ble_eq_true rfl) ?_ (fun kf => ?_)
  ·intro v hv
   simp only [List.mem_cons,List.not_mem_nil,or_false] at hv
   rcases hv with rfl|rfl
   ·exact hbn
   ·trivial
  rw [e]
  repeat' (first|refine aj (And.intro g (And.intro g2 g3)) ?_|refine ak ?_|((first|refine ai (fun K hK => ?_)|refine ed (k:=k) (e:=201) hN hdp trivial ?_|refine ed (k:=k) (e:=201) hN htp (vH _) ?_);and_intros;all_goals first|(refine hK _ ?_;clear hK K)|try exact aa))
  refine nB (id:=9) (.br 0 (.br 1 (.br 2 (.br 3 (.br 4 (.br 5 (.br 6 (.br 7 (.br 8 (.br 9 (.br 10 (.br 11 (.br 12 (.br 13 (.br 14 .leaf .nil) .nil) .nil) .nil) .nil) .nil) .nil) .nil) .nil) .nil) .nil) .nil) .nil) .nil) .nil) (by decide +kernel) ?_ (fun K0 hW => ?_)
  ·(first|(refine And.intro (fun iw hiw => ?_) ?_;(focus ((try simp (maxSteps:=999999)(disch:=omega) only [go_sem] at hiw ⊢);(repeat (refine Eq.trans (if_neg ?_) ?_;(focus omega)));exact hw iw (by omega)));(focus (first|exact Nat.zero_le _|(simp (maxSteps:=999999)(disch:=omega) only [go_sem];done)|(simp (maxSteps:=999999)(disch:=omega) only [go_sem];omega))))|exact eS)
  replace hW:=kD hW
  repeat' (first|exact cz|(refine cZ (fun K' hK' => ?_) ?_)|(refine cj (hW _ ?_);clear hW)|(refine ae (hr) ?_;(try simp (maxSteps:=999999)(disch:=omega) only [go_sem]);and_intros;(all_goals first|(refine hK' _ ?_;clear hK' K')|trivial|omega|exact Nat.le_of_ble_eq_true rfl|exact aa|skip))|(simp (maxSteps:=999999)(disch:=omega) only [go_sem];and_intros;(all_goals first|(refine hK' _ ?_;clear hK' K')|trivial|omega|exact Nat.le_of_ble_eq_true rfl|exact aa|skip)))
  all_goals
   refine iT ?_
   repeat' (first|refine aj g ?_|refine ak ?_|(refine ai (fun K hK => ?_);and_intros;all_goals first|(refine hK _ ?_;clear hK K)|try exact aa))
   refine hsc _ _ ?_ ?_ ?_
   ·simp (maxSteps:=999999)(disch:=omega) only [go_sem]
   ·simp (maxSteps:=999999)(disch:=omega) only [go_sem]
   simp (maxSteps:=999999)(disch:=omega) only [go_sem]
   refine hK _ ?_
   clear hK
   repeat' (first|refine aj g ?_|refine ak ?_|(refine ai (fun K hK => ?_);and_intros;all_goals first|(refine hK _ ?_;clear hK K)|try exact aa))
   refine hpt _ _ ?_ ?_ ?_
   ·simp (maxSteps:=999999)(disch:=omega) only [go_sem]
   ·simp (maxSteps:=999999)(disch:=omega) only [go_sem]
   simp (maxSteps:=999999)(disch:=omega) only [go_sem]
   refine hK _ ?_
   clear hK
   repeat' (first|refine aj g ?_|refine ak ?_|(refine ai (fun K hK => ?_);and_intros;all_goals first|(refine hK _ ?_;clear hK K)|try exact aa)|(refine an ?_;(try clear hB KB);(try clear hK K)))
   refine ⟨rfl,zG (bx:=aA b (.fix [.p (PU m), .own k (n+2)]) (aA k (.arr 201 23 N f) bx)) (nx:=nx) ?_ ?_ ?_ (fun i hi h1 h2 => ?_)⟩
   ·rw [← e];exact hw
   ·simp (maxSteps:=999999)(disch:=omega) only [go_sem]
   ·(first|(simp (maxSteps:=999999)(disch:=omega) only [go_sem];done)|(simp (maxSteps:=999999)(disch:=omega) only [go_sem];rfl))
   ·simp (maxSteps:=999999)(disch:=omega) only [go_sem]
 ·intro j hj
  dsimp only
  rw [if_pos rfl]
  have hivl:j=0∨j=1∨j=2∨j=3∨j=4∨j=5∨j=6∨j=7∨j=8∨j=9∨j=10∨j=11∨j=12∨j=13∨j=14∨j=15∨j=16∨j=17∨j=18∨j=19∨j=20∨j=21∨j=22:=by omega
  rcases hivl with rfl|rfl|rfl|rfl|rfl|rfl|rfl|rfl|rfl|rfl|rfl|rfl|rfl|rfl|rfl|rfl|rfl|rfl|rfl|rfl|rfl|rfl|rfl <;> rfl
 ·intro i hi j
  exact if_neg (by omega)
end Go.Proofs.YtmfblbbemekkoaaGreatDoor
set_option maxHeartbeats 4000000
set_option maxRecDepth 16000
namespace Go.Proofs.YtmfblbbemekkoaaGreatDoor
open Go Go.SL
open Go.RowKit (wrap64)
attribute [local go_sem] dI
def iu (a b:Int):Bool:=(decide (a≥0) == decide (b≥0)) || (decide (IntKind.i64.wrap (a - b)≥0) == decide (a≥0))
theorem wt (a b:Int):aD Sg 89 [I a,I b] (fun r=>r = .tup [I (IntKind.i64.wrap (a - b)),B (iu a b)]):=by
 refine aC Tryz.func89 [.tmp 4, .tmp 5] ?_
 repeat' (first|(refine ai (fun K hK => ?_);and_intros;all_goals first|(refine hK _ ?_;clear hK K)|try exact aa)|(refine an ?_;(try clear hB KB);(try clear hK K)))
 first|rfl|(refine congrArg (fun v=>SV.tup [_,B v]) ?_;unfold iu;simp)
theorem FJ (n:Int):IntKind.i64.wrap n=(n+9223372036854775808) % 18446744073709551616 - 9223372036854775808:=by
 simp only [IntKind.wrap,IntKind.bits,IntKind.signed]
 simp
 split <;> omega
theorem we {a b:Int} (ha:i64 a) (hb:i64 b) (h:iu a b=true):IntKind.i64.wrap (a - b)=a - b:=by
 obtain ⟨a1,a2⟩:=ha
 obtain ⟨b1,b2⟩:=hb
 unfold iu at h
 rw [FJ] at h ⊢
 simp only [Bool.or_eq_true,beq_iff_eq,decide_eq_decide] at h
 omega
theorem xW {a b:Int} (ha:i64 a) (hb:i64 b) (h:iu a b=false):a - b < -9223372036854775808∨9223372036854775808≤a - b:=by
 obtain ⟨a1,a2⟩:=ha
 obtain ⟨b1,b2⟩:=hb
 unfold iu at h
 rw [FJ] at h
 simp only [Bool.or_eq_false_iff,beq_eq_false_iff_ne,ne_eq,decide_eq_decide] at h
 omega
theorem Fm {m:Image} {x y:Int} (h:x<0∨9223372036854775808≤x∨y<0∨9223372036854775808≤y):dK m x y=aG:=by
 unfold dK
 cases hf:aW m with
 | false=>rw [if_pos (.inl rfl)]
 | true =>
  obtain ⟨a,b,c,d⟩:=mq hf
  rw [if_pos (by omega)]
theorem Fl (s : Script) (i x y dx dy : Int) (hs : ScriptLen s) (hx : i64 x) (hy : i64 y) (hdx : i64 dx) (hdy : i64 dy) :
  aD Sg 57 [ag (aM s),I i,I x,I y,I dx,I dy] (fun r=>r = .b (ag (aH (if 0≤i∧i<s.images.length then kX (fS s i) x y dx dy else aG)))):=by
 have hl:=hs.images
 have m1:=wt x dx
 have m2:=wt y dy
 by_cases hi:0≤i∧i<s.images.length
 ·rw [if_pos hi,ng]
  have g1:decide (i<0)=false:=decide_eq_false (by omega)
  have g2:decide (i≥s.images.length)=false:=decide_eq_false (by omega)
  have hm:∀ px py,aD Sg 90 [ag (aY (s.images.getD i.toNat default)),I px,I py] (fun r=>r = .b (ag (aH (dK (s.images.getD i.toNat default) px py)))):=fun px py=>KP _ px py
  cases h1:iu x dx
  ·have e:dK (fS s i) (x - dx) (y - dy)=aG:=Fm (by have:=xW hx hdx h1;omega)
   rw [e]
   rw [h1] at m1
   generalize iu y dy=b2 at *
   refine aC Tryz.func57 [.cell 12 41] ?_
   repeat' (first|refine aj (And.intro g1 g2) ?_|refine ak ?_|((first|refine ai (fun K hK => ?_)|refine ae (m1) ?_|refine ae (m2) ?_);and_intros;all_goals first|(refine hK _ ?_;clear hK K)|try exact aa)|(refine an ?_;(try clear hB KB);(try clear hK K)))
   all_goals rfl
  cases h2:iu y dy
  ·have e:dK (fS s i) (x - dx) (y - dy)=aG:=Fm (by have:=xW hy hdy h2;omega)
   rw [e]
   rw [h1] at m1
   rw [h2] at m2
   refine aC Tryz.func57 [.cell 12 41] ?_
   repeat' (first|refine aj (And.intro g1 g2) ?_|refine ak ?_|((first|refine ai (fun K hK => ?_)|refine ae (m1) ?_|refine ae (m2) ?_);and_intros;all_goals first|(refine hK _ ?_;clear hK K)|try exact aa)|(refine an ?_;(try clear hB KB);(try clear hK K)))
   rfl
  rw [h1,we hx hdx h1] at m1
  rw [h2,we hy hdy h2] at m2
  have hv:=hm (x - dx) (y - dy)
  show aD _ _ _ (fun r=>r = .b (ag (aH (dK (s.images.getD i.toNat default) (x - dx) (y - dy)))))
  generalize dK (s.images.getD i.toNat default) (x - dx) (y - dy)=q at *
  refine aC Tryz.func57 [.cell 12 41] ?_
  repeat' (first|refine aj (And.intro g1 g2) ?_|refine ak ?_|((first|refine ai (fun K hK => ?_)|refine ae (m1) ?_|refine ae (m2) ?_|refine ae (hv) ?_);and_intros;all_goals first|(refine hK _ ?_;clear hK K)|try exact aa)|(refine an ?_;(try clear hB KB);(try clear hK K)))
  rfl
 ·rw [if_neg hi]
  have g:(decide (i<0) || decide (i≥s.images.length))=true:=by
   simp only [Bool.or_eq_true,decide_eq_true_eq]
   omega
  generalize iu x dx=b1 at *
  generalize iu y dy=b2 at *
  refine aC Tryz.func57 [.cell 12 41] ?_
  repeat' (first|refine aj g ?_|refine ak ?_|((first|refine ai (fun K hK => ?_)|refine ae (m1) ?_|refine ae (m2) ?_);and_intros;all_goals first|(refine hK _ ?_;clear hK K)|try exact aa)|(refine an ?_;(try clear hB KB);(try clear hK K)))
  all_goals rfl
theorem fB (s : Script) (o : Op) (x y : Int) (hs : ScriptLen s) (hx : i64 x) (hy : i64 y) (h1 : i64 o.x) (h2 : i64 o.y) (h3 : i64 o.maskX) (h4 : i64 o.maskY) (h5 : i64 o.mask) :
  aD Sg 19 [ag (aM s),ag (dJ o),I x,I y] (fun r=>r = .tup [ag (aH (bI s x y o).1),U (bI s x y o).2]):=by
 have n1:=Fl s o.image x y o.x o.y hs hx hy h1 h2
 have n2:=Fl s (o.mask - 1) x y o.maskX o.maskY hs hx hy h3 h4
 obtain ⟨q1,q2⟩:=h5
 have e1:(bI s x y o).1=if o.kind=1 then (if 0≤o.image∧o.image<s.images.length then kX (fS s o.image) x y o.x o.y else aG) else aG:=by
  unfold bI
  dsimp only
  by_cases k:o.kind=1
  ·rw [if_pos k]
   by_cases c:0≤o.image∧o.image<s.images.length
   ·rw [if_pos ⟨k,c⟩,if_pos c]
   ·rw [if_neg (fun q=>c q.2),if_neg c]
  ·rw [if_neg (fun q=>k q.1),if_neg k]
 have e2:(bI s x y o).2=if 0<o.mask then (if 0≤o.mask - 1∧o.mask - 1<s.images.length then kX (fS s (o.mask - 1)) x y o.maskX o.maskY else aG).a else 0:=by
  unfold bI
  dsimp only
  by_cases k:0<o.mask
  ·rw [if_pos k]
   by_cases c:1≤o.mask∧o.mask≤s.images.length
   ·rw [if_pos c,if_pos (by omega)]
   ·rw [if_neg c,if_neg (by omega)];rfl
  ·rw [if_neg k,if_neg (by omega)]
 rw [e1,e2]
 generalize (if 0≤o.image∧o.image<s.images.length then kX (fS s o.image) x y o.x o.y else aG)=p1 at *
 generalize (if 0≤o.mask - 1∧o.mask - 1<s.images.length then kX (fS s (o.mask - 1)) x y o.maskX o.maskY else aG)=p2 at *
 by_cases k1:o.kind=1
 ·rw [if_pos k1]
  have g1:(o.kind == 1)=true:=beq_iff_eq.2 k1
  by_cases k2:0<o.mask
  ·rw [if_pos k2]
   have g2:decide (o.mask>0)=true:=decide_eq_true k2
   refine aC Tryz.func19 [.cell 8 41, .tmp 9] ?_
   repeat' (first|refine aj (And.intro g1 g2) ?_|refine ak ?_|((first|refine ai (fun K hK => ?_)|refine ae (n1) ?_|refine ae (n2) ?_);and_intros;all_goals first|(refine hK _ ?_;clear hK K)|try exact aa)|(refine an ?_;(try clear hB KB);(try clear hK K)))
   rfl
  ·rw [if_neg k2]
   have g2:decide (o.mask>0)=false:=decide_eq_false k2
   refine aC Tryz.func19 [.cell 8 41, .tmp 9] ?_
   repeat' (first|refine aj (And.intro g1 g2) ?_|refine ak ?_|((first|refine ai (fun K hK => ?_)|refine ae (n1) ?_);and_intros;all_goals first|(refine hK _ ?_;clear hK K)|try exact aa)|(refine an ?_;(try clear hB KB);(try clear hK K)))
   rfl
 ·rw [if_neg k1]
  have g1:(o.kind == 1)=false:=beq_eq_false_iff_ne.2 k1
  by_cases k2:0<o.mask
  ·rw [if_pos k2]
   have g2:decide (o.mask>0)=true:=decide_eq_true k2
   refine aC Tryz.func19 [.cell 8 41, .tmp 9] ?_
   repeat' (first|refine aj (And.intro g1 g2) ?_|refine ak ?_|((first|refine ai (fun K hK => ?_)|refine ae (n2) ?_);and_intros;all_goals first|(refine hK _ ?_;clear hK K)|try exact aa)|(refine an ?_;(try clear hB KB);(try clear hK K)))
   rfl
  ·rw [if_neg k2]
   have g2:decide (o.mask>0)=false:=decide_eq_false k2
   refine aC Tryz.func19 [.cell 8 41, .tmp 9] ?_
   repeat' (first|refine aj (And.intro g1 g2) ?_|refine ak ?_|(refine ai (fun K hK => ?_);and_intros;all_goals first|(refine hK _ ?_;clear hK K)|try exact aa)|(refine an ?_;(try clear hB KB);(try clear hK K)))
   rfl
end Go.Proofs.YtmfblbbemekkoaaGreatDoor
set_option maxHeartbeats 1000000
namespace Go.Proofs.YtmfblbbemekkoaaGreatDoor
section
variable {s:Script} {m x y:Int}
theorem uC (C:Pt s m x y) {z:Op→Pixel × Int} (h:∀ i,i<s.ops.length→(aO s.ops i).kind≠3→bI s x y (aO s.ops i)=z (aO s.ops i)):∀ i,i≤s.ops.length→ga m (bI s x y) s.ops i=ga m z s.ops i
 | 0,_=>by
  have e:∀ w,ga m w s.ops 0=[base]:=fun w=>by
   unfold ga mo
   rw [List.take_zero,List.foldl_nil]
  exact (e _).trans (e _).symm
 | i+1,hi=>by
  have ih:=uC C h i (by omega)
  have hil:i<s.ops.length:=hi
  rw [eN hil,eN hil,← ih]
  have ha:=Hn C i (by omega)
  obtain ⟨t,r,e⟩:=ha.ne
  rw [e] at ha ⊢
  rcases C.V.wf.kinds i hil with k|k|k
  ·rw [jE k,jE k,h i hil (by omega)]
  ·rw [jQ k,jQ k]
  ·cases r with
   | nil =>
    unfold ks
    have h1:¬ (aO s.ops i).kind=1:=by omega
    have h2:¬ (aO s.ops i).kind=2:=by omega
    simp only [if_neg h1,if_neg h2]
   | cons u r =>
    rw [lF k,lF k]
    have ho:=ha.o
    cases hs:bR s.ops i with
    | nil=>exact absurd hs (C.V.wf.pops i hil k)
    | cons g l =>
     rw [hs] at ho
     have e1:t.op=aO s.ops g:=(List.cons.inj ho).1
     have hg:g<i:=rX (ops:=s.ops) (by rw [hs];exact List.mem_cons_self ..)
     have hgk:(aO s.ops g).kind=2:=gX (i:=i) (by rw [hs];exact List.mem_cons_self ..)
     rw [e1,h g (by omega) (by omega)]
end
end Go.Proofs.YtmfblbbemekkoaaGreatDoor
set_option maxHeartbeats 2000000
set_option maxRecDepth 16000
namespace Go.Proofs.YtmfblbbemekkoaaGreatDoor
open Go Go.SL
open Go.RowKit (wrap64)
theorem tz {m:Image} {mx:Int} (h:ImgV m mx) (hs:m.solid=true):PixV m.color mx:=by
 obtain ⟨a,b,_,_⟩:=mq h.f
 have:=h.p 0 0 (Int.le_refl _) (by omega) (Int.le_refl _) (by omega)
 rw [eG,if_pos hs] at this
 exact this
end Go.Proofs.YtmfblbbemekkoaaGreatDoor
set_option maxRecDepth 8000
set_option maxHeartbeats 4000000
namespace Go.Proofs.YtmfblbbemekkoaaGreatDoor
open Go Go.SL
open Go.RowKit (wrap64)
attribute [local go_sem] Int.toNat_natCast
theorem cZ {S:Env} {ops:Array Oper} {L:List Oper} {i:Nat} {t r:Tr} {st:St} {K:St→Prop} (h:∀ K':St→Prop,(∀ s,di S ops L t s K→K' s)→aK S ops [L.getD i default] st K') (hr:di S ops L r st K):di S ops L (.br i t r) st K :=
 ⟨h _ (fun _ h=>h),hr⟩
theorem cj {S:Env} {ops:Array Oper} {L:List Oper} {st:St} {K:St→Prop} (h:K st):di S ops L .leaf st K:=h
theorem cz {S:Env} {ops:Array Oper} {L:List Oper} {st:St} {K:St→Prop}:di S ops L .nil st K:=trivial
def OF (s:Script) (d:Scene):Script := { ax d with bits:=s.bits,canvas:=s.canvas,tileW:=s.tileW,tileH:=s.tileH,order:=s.order,images:=s.images }
def uI (s:Script) (d:Scene):Script:=⟨s.bits,s.canvas,s.tileW,s.tileH,s.order,s.images ++ [s.images.getD 0 default],(ax d).ops⟩
attribute [local go_sem] OF uI
end Go.Proofs.YtmfblbbemekkoaaGreatDoor
