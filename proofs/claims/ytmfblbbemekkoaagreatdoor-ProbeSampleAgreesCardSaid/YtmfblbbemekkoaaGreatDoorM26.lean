/- Part of the proof: V8, V9, V7. -/
import Derived.Test.YtmfblbbemekkoaaGreatDoorM23
set_option linter.unusedSimpArgs false
set_option linter.unusedVariables false
set_option maxHeartbeats 4000000
set_option maxRecDepth 16000
namespace Go.Proofs.YtmfblbbemekkoaaGreatDoor
open Go Go.SL
open Go.RowKit (wrap64)
attribute [local go_sem] cN pE cA Int.toNat_natCast cM
theorem Gp {st:St} {f:FuncId} {args:List BV} {g:Bool} {c:Prop} {d:Option Nat} {K:St→Prop} (hg:g=true) (hc:c) (h:du Sg st f args (Sl.of fun r st'=>K (st'.set d r))):NP (some g) c Sg st f args d (Sl.of K) :=
 .inl ⟨fun _=>⟨hc,h⟩,fun h=>by rw [hg] at h;cases h⟩
theorem Kt (bx : Nat → Option Bx) (nx b k n : Nat) (f : Nat → Nat → PV) (m ms : Int) (t u : Lv)
  (hb:bx b=some (.fix [.p (PU m), .own k (n+2)])) (hk:bx k=some (.arr 162 23 (n+2) f)) (hbn:b<nx) (hkn:k<nx) (hbk:b≠k) (hn:n<64) (hf:cQ (f (n+1)) t) (hf2:cQ (f n) u)
  (hm:Full m) (ho:1≤t.op.operator∧t.op.operator≤12) (hmo:1≤t.op.mode∧t.op.mode≤12) (hop:0≤t.op.opacity∧t.op.opacity≤m) (hms:0≤ms∧ms≤m) (hv:AccV t.acc t.back m) (hv2:AccV u.acc u.back m) (hko:u.op.knockout=true→t.op.operator=4) (hw:∀ i,nx≤i→bx i=none) :
  ∃ F:Nat→Nat→PV,(cQ (F n) (bJ m t.op (ax m t.op (aU t.acc t.back m) ms) u)∧∀ i,i<n→∀ j,F i j=f i j) ∧
  iV Sg bx nx 100 [.c (.ptr b 0),U ms] (.tup [ag (aF (ax m t.op (aU t.acc t.back m) ms)),I 0]) (aB b (.fix [.p (PU m), .own (nx+4) (n+1)]) (aB (nx+4) (.arr 162 23 (n+1) F) bx)) (nx+9):=by
 have hl:=Dr hf
 have hrv:=fW hm hv
 have hr:aC Sg 99 [ag [f (n+1) 12,f (n+1) 13,f (n+1) 14,f (n+1) 15,f (n+1) 16,f (n+1) 17],ag [f (n+1) 18,f (n+1) 19,f (n+1) 20,f (n+1) 21,f (n+1) 22],U m] (fun r=>r = .tup [ag (aF (aU t.acc t.back m)),B true]):=by
  obtain ⟨e0,e1,e2,e3,e4,e5,e6,e7,e8,e9,e10,e11,e12,e13,e14,e15,e16,e17,e18,e19,e20,e21,e22⟩:=hl
  rw [e12,e13,e14,e15,e16,e17,e18,e19,e20,e21,e22]
  exact nB t.acc t.back m hm hv
 have hsc:aC Sg 141 [ag [f (n+1) 0,f (n+1) 1,f (n+1) 2,f (n+1) 3,f (n+1) 4,f (n+1) 5,f (n+1) 6,f (n+1) 7,f (n+1) 8,f (n+1) 9,f (n+1) 10,f (n+1) 11],ag (aF (aU t.acc t.back m)),U ms,U m] (fun r=>r = .tup [ag (aF (ax m t.op (aU t.acc t.back m) ms)),B true]):=by
  obtain ⟨e0,e1,e2,e3,e4,e5,e6,e7,e8,e9,e10,e11,_⟩:=hl
  rw [e0,e1,e2,e3,e4,e5,e6,e7,e8,e9,e10,e11]
  exact wz m t.op (aU t.acc t.back m) ms hm hrv hms.1 hms.2 hop.1 hop.2
 have ea:BV.agg [CV.p (f (n+1) 0),CV.p (f (n+1) 1),CV.p (f (n+1) 2),CV.p (f (n+1) 3),CV.p (f (n+1) 4),CV.p (f (n+1) 5),CV.p (f (n+1) 6),CV.p (f (n+1) 7),CV.p (f (n+1) 8),CV.p (f (n+1) 9),CV.p (f (n+1) 10),CV.p (f (n+1) 11)]=ag (cT t.op):=by
  obtain ⟨e0,e1,e2,e3,e4,e5,e6,e7,e8,e9,e10,e11,_⟩:=hl
  rw [e0,e1,e2,e3,e4,e5,e6,e7,e8,e9,e10,e11]
  rfl
 have hsv:=kN (o:=t.op) hm hrv hms.1 hms.2 hop.1 hop.2
 have e:bx=aB b (.fix [.p (PU m), .own k (n+2)]) (aB k (.arr 162 23 (n+2) f) bx):=by rw [← bg hk];exact bg hb
 have g:(((n+1:Nat):Int) == 0)=false:=by rw [beq_eq_false_iff_ne];omega
 generalize ax m t.op (aU t.acc t.back m) ms=q at *
 generalize aU t.acc t.back m=res at *
 refine ⟨?F,⟨?hF, ?hG⟩, ?hI⟩
 case hI =>
  refine dO Tryz.func100 rfl (rs:=[.cell 4 41, .tmp 5]) rfl rfl dK (by decide +kernel) (Nat.le_of_ble_eq_true rfl) ?_ (fun kf => ?_)
  ·intro v hv
   simp only [List.mem_cons,List.not_mem_nil,or_false] at hv
   rcases hv with rfl|rfl
   ·exact hbn
   ·trivial
  rw [e]
  repeat' (first|refine aj g ?_|refine an ?_|((first|refine ai (fun K hK => ?_)|refine fk (k:=k) (uL m (n+1) f (by omega)) trivial ?_);and_intros;(all_goals first|(refine hK _ ?_;clear hK K)|exact aa|skip)))
  refine fc (id:=3) (.br 0 (.br 1 (.br 2 (.br 3 (.br 4 (.br 5 (.br 6 (.br 7 (.br 8 (.br 9 .leaf .nil) .nil) .nil) .nil) (.br 8 (.br 5 (.br 6 (.br 7 (.br 9 .leaf .nil) .nil) .nil) .nil) .nil)) .nil) .nil) .nil) .nil) .nil) (by decide +kernel) ?_ (fun K0 hW => ?_)
  ·(first|(refine And.intro (fun iw hiw => ?_) ?_;(focus ((try simp (maxSteps:=999999)(disch:=omega) only [go_sem] at hiw ⊢);(repeat (refine Eq.trans (if_neg ?_) ?_;(focus omega)));exact hw iw (by omega)));(focus (first|exact Nat.zero_le _|(simp (maxSteps:=999999)(disch:=omega) only [go_sem];done)|(simp (maxSteps:=999999)(disch:=omega) only [go_sem];omega))))|exact cR)
  replace hW:=ep hW
  repeat' (first|exact ba|(refine bq (fun K' hK' => ?_) ?_)|(refine aV (hW _ ?_);clear hW)|(refine fk (k:=k) (mh m (n+1) f (by omega)) trivial ?_;(try simp (maxSteps:=999999)(disch:=omega) only [go_sem]);and_intros;(all_goals first|(refine hK' _ ?_;clear hK' K')|trivial|omega|exact Nat.le_of_ble_eq_true rfl|exact aa|skip))|(simp (maxSteps:=999999)(disch:=omega) only [go_sem];and_intros;(all_goals first|(refine hK' _ ?_;clear hK' K')|trivial|omega|exact Nat.le_of_ble_eq_true rfl|exact aa|skip)))
  all_goals
   refine dg ?_
   repeat' (first|(((with_reducible refine bM (id:=4) [] (by decide +kernel) (by decide +kernel) ?_ (fun K hK => ?_));(first|(refine And.intro (fun iw hiw => ?_) ?_;(focus ((try simp (maxSteps:=999999)(disch:=omega) only [go_sem] at hiw ⊢);(repeat (refine Eq.trans (if_neg ?_) ?_;(focus omega)));exact hw iw (by omega)));(focus (first|exact Nat.zero_le _|(simp (maxSteps:=999999)(disch:=omega) only [go_sem];done)|(simp (maxSteps:=999999)(disch:=omega) only [go_sem];omega))))|exact cR));(try simp (maxSteps:=999999)(disch:=omega) only [go_sem]);and_intros;(all_goals first|(refine hK _ (by simp (maxSteps:=999999)(disch:=omega) only [go_sem]) ?_;clear hK K)|exact aa|skip))|(refine ae (hr) ?_;and_intros;(all_goals first|(refine hK _ ?_;clear hK K)|exact aa|skip)))
   refine hK _ trivial ?_
   clear hK
   repeat' (first|refine aj g ?_|(((with_reducible refine bM (id:=7) [] (by decide +kernel) (by decide +kernel) ?_ (fun K hK => ?_));(first|(refine And.intro (fun iw hiw => ?_) ?_;(focus ((try simp (maxSteps:=999999)(disch:=omega) only [go_sem] at hiw ⊢);(repeat (refine Eq.trans (if_neg ?_) ?_;(focus omega)));exact hw iw (by omega)));(focus (first|exact Nat.zero_le _|(simp (maxSteps:=999999)(disch:=omega) only [go_sem];done)|(simp (maxSteps:=999999)(disch:=omega) only [go_sem];omega))))|exact cR));(try simp (maxSteps:=999999)(disch:=omega) only [go_sem]);and_intros;(all_goals first|(refine hK _ (by simp (maxSteps:=999999)(disch:=omega) only [go_sem]) ?_;clear hK K)|exact aa|skip))|refine an ?_|((first|refine ai (fun K hK => ?_)|refine ae (hsc) ?_);and_intros;(all_goals first|(refine hK _ ?_;clear hK K)|exact aa|skip)))
   refine hK _ trivial ?_
   clear hK
   repeat' (first|refine aj g ?_|refine an ?_|(refine ai (fun K hK => ?_);and_intros;(all_goals first|(refine hK _ ?_;clear hK K)|exact aa|skip)))
   refine fc (id:=10) (.br 0 (.br 1 (.br 2 (.br 3 (.br 4 (.br 5 (.br 6 (.br 7 (.br 8 (.br 9 (.br 10 (.br 11 (.br 12 (.br 13 (.br 14 .leaf .nil) .nil) .nil) .nil) .nil) .nil) .nil) .nil) .nil) .nil) .nil) .nil) .nil) .nil) .nil) (by decide +kernel) ?_ (fun K0 hW => ?_)
   ·(first|(refine And.intro (fun iw hiw => ?_) ?_;(focus ((try simp (maxSteps:=999999)(disch:=omega) only [go_sem] at hiw ⊢);(repeat (refine Eq.trans (if_neg ?_) ?_;(focus omega)));exact hw iw (by omega)));(focus (first|exact Nat.zero_le _|(simp (maxSteps:=999999)(disch:=omega) only [go_sem];done)|(simp (maxSteps:=999999)(disch:=omega) only [go_sem];omega))))|exact cR)
   replace hW:=ep hW
   repeat' (first|exact ba|(refine bq (fun K' hK' => ?_) ?_)|(refine aV (hW _ ?_);clear hW)|(refine fk (k:=k) (mh m (n+1) f (by omega)) trivial ?_;(try simp (maxSteps:=999999)(disch:=omega) only [go_sem]);and_intros;(all_goals first|(refine hK' _ ?_;clear hK' K')|trivial|omega|exact Nat.le_of_ble_eq_true rfl|exact aa|skip))|(simp (maxSteps:=999999)(disch:=omega) only [go_sem];and_intros;(all_goals first|(refine hK' _ ?_;clear hK' K')|trivial|omega|exact Nat.le_of_ble_eq_true rfl|exact aa|skip)))
   all_goals
    refine dg ?_
    repeat' (first|refine an ?_|(refine ai (fun K hK => ?_);and_intros;(all_goals first|(refine hK _ ?_;clear hK K)|exact aa|skip)))
    refine Gp rfl rfl ?_
    rw [ea]
    refine tx (nx+5) (nx+4) n f m t.op q u ?_ ?_ ?_ ?_ ?_ ?_ hf2 hm ho hmo hsv hv2 hko ?_ ?_
    ·simp (maxSteps:=999999)(disch:=omega) only [go_sem]
    ·simp (maxSteps:=999999)(disch:=omega) only [go_sem]
    ·(first|(simp (maxSteps:=999999)(disch:=omega) only [go_sem];done)|(simp (maxSteps:=999999)(disch:=omega) only [go_sem];omega))
    ·(first|(simp (maxSteps:=999999)(disch:=omega) only [go_sem];done)|(simp (maxSteps:=999999)(disch:=omega) only [go_sem];omega))
    ·omega
    ·omega
    ·intro iw hiw
     (try simp (maxSteps:=999999)(disch:=omega) only [go_sem] at hiw ⊢)
     (repeat (refine Eq.trans (if_neg ?_) ?_;(focus omega)))
     exact hw iw (by omega)
    simp (maxSteps:=999999)(disch:=omega) only [go_sem]
    refine hK _ ?_
    clear hK
    repeat' (first|refine aj g ?_|refine an ?_|(refine ai (fun K hK => ?_);and_intros;(all_goals first|(refine hK _ ?_;clear hK K)|exact aa|skip))|(refine ak ?_;(try clear hB KB);(try clear hK K)))
    refine ⟨rfl,oU (bx:=aB b (.fix [.p (PU m), .own k (n+2)]) (aB k (.arr 162 23 (n+2) f) bx)) (nx:=nx) ?_ ?_ ?_ (fun i hi h1 h2 => ?_)⟩
    ·rw [← e];exact hw
    ·simp (maxSteps:=999999)(disch:=omega) only [go_sem]
    ·(first|(simp (maxSteps:=999999)(disch:=omega) only [go_sem];done)|(simp (maxSteps:=999999)(disch:=omega) only [go_sem];rfl))
    ·simp (maxSteps:=999999)(disch:=omega) only [go_sem]
 ·exact qM hf2
 ·intro i hi j
  exact qo (by omega)
end Go.Proofs.YtmfblbbemekkoaaGreatDoor
set_option maxHeartbeats 4000000
set_option maxRecDepth 16000
namespace Go.Proofs.YtmfblbbemekkoaaGreatDoor
open Go Go.SL
open Go.RowKit (wrap64)
attribute [local go_sem] cN Int.toNat_natCast cM
theorem sy {a id nx:Nat} {A:Bx} {bx b:Nat→Option Bx} (hw:∀ i,nx≤i→bx i=none) (h1:b a=some A) (h3:∀ i,i<nx→i≠a→i≠id→b i=bx i):LN (aB a A (cY id bx)) b:=fun i y hi=>by
 unfold aB at hi
 split at hi
 ·rename_i e;rw [e,h1];exact hi
 rename_i e
 unfold cY at hi
 split at hi
 ·cases hi
 ·rename_i e2
  rcases Nat.lt_or_ge i nx with q|q
  ·rw [h3 i q e e2];exact hi
  ·rw [hw i q] at hi;cases hi
theorem xn (bx : Nat → Option Bx) (nx id n : Nat) (g : Nat → Nat → PV) (i m ms : Int) (o : Op) (p : Pixel) (hid : bx id = some (.arr 120 18 n g)) (hlt : id < nx) (hn : n ≤ 100000)
  (hm:Full m) (hmk:o.mask=0) (hop:0≤o.opacity∧o.opacity≤m) (hp:PixV p m) (hw:∀ i,nx≤i→bx i=none) :
  ∃ G:Nat→Nat→PV,iV Sg bx nx 92 [.c (.own id n),I i,ag (cT o),ag (aF p),U ms,U m] (.tup [.c (.own (nx+5) (n+1)),ag (aF (ax m o p ms))])
   (aB (nx+5) (.arr 120 18 (n+1) G) (cY id bx)) (nx+6):=by
 have h1:=iN p o.opacity m hm hp hop.1 hop.2
 have e:bx=aB id (.arr 120 18 n g) bx:=bg hid
 have e2:ax m o p ms=aL p o.opacity m:=by
  unfold ax
  rw [if_pos hmk,gr hm]
 rw [e2]
 have gg:(o.mask != 0)=false:=by rw [bne_eq_false_iff_eq];exact hmk
 generalize aL p o.opacity m=q at *
 refine ⟨?G, ?hI⟩
 case hI =>
  refine dO Tryz.func92 rfl (rs:=[.tmp 12, .cell 13 41]) rfl rfl dK (by decide +kernel) (Nat.le_of_ble_eq_true rfl) ?_ (fun kf => ?_)
  ·intro v hv
   simp only [List.mem_cons,List.not_mem_nil,or_false] at hv
   rcases hv with rfl|rfl|rfl|rfl|rfl|rfl
   ·exact hlt
   ·trivial
   ·exact fun c hc=>by (obtain ⟨x,_,rfl⟩:=List.mem_map.1 hc;trivial)
   ·exact fun c hc=>by (obtain ⟨x,_,rfl⟩:=List.mem_map.1 hc;trivial)
   ·trivial
   ·trivial
  rw [e]
  repeat' (first|refine aj gg ?_|refine an ?_|((first|refine ai (fun K hK => ?_)|refine ae (h1) ?_);and_intros;(all_goals first|(refine hK _ ?_;clear hK K)|exact aa|skip)))
  refine fc (id:=6) (.br 0 (.br 1 (.br 2 (.br 3 (.br 4 (.br 5 (.br 6 (.br 7 (.br 8 (.br 9 (.br 10 (.br 11 .leaf .nil) .nil) .nil) (.br 9 (.br 8 (.br 10 (.br 11 .leaf .nil) .nil) .nil) .nil)) (.br 9 (.br 7 (.br 8 (.br 10 (.br 11 .leaf .nil) .nil) .nil) .nil) .nil)) .nil) .nil) .nil) .nil) .nil) .nil) .nil) (by decide +kernel) ?_ (fun K0 hW => ?_)
  ·(first|(refine And.intro (fun iw hiw => ?_) ?_;(focus ((try simp (maxSteps:=999999)(disch:=omega) only [go_sem] at hiw ⊢);(repeat (refine Eq.trans (if_neg ?_) ?_;(focus omega)));exact hw iw (by omega)));(focus (first|exact Nat.zero_le _|(simp (maxSteps:=999999)(disch:=omega) only [go_sem];done)|(simp (maxSteps:=999999)(disch:=omega) only [go_sem];omega))))|exact cR)
  replace hW:=ep hW
  repeat' (first|exact ba|(refine bq (fun K' hK' => ?_) ?_)|(refine aV (hW _ ?_);clear hW)|(simp (maxSteps:=999999)(disch:=omega) only [go_sem];and_intros;(all_goals first|(refine hK' _ ?_;clear hK' K')|trivial|omega|exact Nat.le_of_ble_eq_true rfl|exact aa|skip)))
  all_goals
   refine dg ?_
   repeat' (refine ak ?_;(try clear hB KB);(try clear hK K))
   refine ⟨rfl,sy (bx:=aB id (.arr 120 18 n g) bx) (nx:=nx) ?_ ?_ (fun i hi h1 h2 => ?_), ?_⟩
   ·rw [← e];exact hw
   ·(first|(simp (maxSteps:=999999)(disch:=omega) only [go_sem];done)|(simp (maxSteps:=999999)(disch:=omega) only [go_sem];rfl))
   ·simp (maxSteps:=999999)(disch:=omega) only [go_sem]
   ·omega
theorem yk (bx : Nat → Option Bx) (nx id n : Nat) (g : Nat → Nat → PV) (i m ms : Int) (o : Op) (p : Pixel) (hid : bx id = some (.arr 120 18 n g)) (hlt : id < nx) (hn : n ≤ 100000)
  (hm:Full m) (hmk:o.mask≠0) (hop:0≤o.opacity∧o.opacity≤m) (hp:PixV p m) (hms:0≤ms∧ms≤m) (hw:∀ i,nx≤i→bx i=none) :
  ∃ G:Nat→Nat→PV,iV Sg bx nx 92 [.c (.own id n),I i,ag (cT o),ag (aF p),U ms,U m] (.tup [.c (.own (nx+8) (n+2)),ag (aF (ax m o p ms))])
   (aB (nx+8) (.arr 120 18 (n+2) G) (cY id bx)) (nx+9):=by
 have h1:=iN p ms m hm hp hms.1 hms.2
 have h2:=iN (aL p ms m) o.opacity m hm (gP hm hp hms.1 hms.2) hop.1 hop.2
 have e:bx=aB id (.arr 120 18 n g) bx:=bg hid
 have e2:ax m o p ms=aL (aL p ms m) o.opacity m:=by
  unfold ax
  rw [if_neg hmk]
 rw [e2]
 have gg:(o.mask != 0)=true:=by rw [bne_iff_ne];exact hmk
 generalize aL (aL p ms m) o.opacity m=q at *
 generalize aL p ms m=q1 at *
 refine ⟨?G, ?hI⟩
 case hI =>
  refine dO Tryz.func92 rfl (rs:=[.tmp 12, .cell 13 41]) rfl rfl dK (by decide +kernel) (Nat.le_of_ble_eq_true rfl) ?_ (fun kf => ?_)
  ·intro v hv
   simp only [List.mem_cons,List.not_mem_nil,or_false] at hv
   rcases hv with rfl|rfl|rfl|rfl|rfl|rfl
   ·exact hlt
   ·trivial
   ·exact fun c hc=>by (obtain ⟨x,_,rfl⟩:=List.mem_map.1 hc;trivial)
   ·exact fun c hc=>by (obtain ⟨x,_,rfl⟩:=List.mem_map.1 hc;trivial)
   ·trivial
   ·trivial
  rw [e]
  repeat' (first|refine aj gg ?_|refine an ?_|((first|refine ai (fun K hK => ?_)|refine ae (h1) ?_|refine ae (h2) ?_);and_intros;(all_goals first|(refine hK _ ?_;clear hK K)|exact aa|skip)))
  refine fc (id:=6) (.br 0 (.br 1 (.br 2 (.br 3 (.br 4 (.br 5 (.br 6 (.br 7 (.br 8 (.br 9 (.br 10 (.br 11 .leaf .nil) .nil) .nil) (.br 9 (.br 8 (.br 10 (.br 11 .leaf .nil) .nil) .nil) .nil)) (.br 9 (.br 7 (.br 8 (.br 10 (.br 11 .leaf .nil) .nil) .nil) .nil) .nil)) .nil) .nil) .nil) .nil) .nil) .nil) .nil) (by decide +kernel) ?_ (fun K0 hW => ?_)
  ·(first|(refine And.intro (fun iw hiw => ?_) ?_;(focus ((try simp (maxSteps:=999999)(disch:=omega) only [go_sem] at hiw ⊢);(repeat (refine Eq.trans (if_neg ?_) ?_;(focus omega)));exact hw iw (by omega)));(focus (first|exact Nat.zero_le _|(simp (maxSteps:=999999)(disch:=omega) only [go_sem];done)|(simp (maxSteps:=999999)(disch:=omega) only [go_sem];omega))))|exact cR)
  replace hW:=ep hW
  repeat' (first|exact ba|(refine bq (fun K' hK' => ?_) ?_)|(refine aV (hW _ ?_);clear hW)|(simp (maxSteps:=999999)(disch:=omega) only [go_sem];and_intros;(all_goals first|(refine hK' _ ?_;clear hK' K')|trivial|omega|exact Nat.le_of_ble_eq_true rfl|exact aa|skip)))
  all_goals
   refine dg ?_
   repeat' (refine ak ?_;(try clear hB KB);(try clear hK K))
   refine ⟨rfl,sy (bx:=aB id (.arr 120 18 n g) bx) (nx:=nx) ?_ ?_ (fun i hi h1 h2 => ?_), ?_⟩
   ·rw [← e];exact hw
   ·(first|(simp (maxSteps:=999999)(disch:=omega) only [go_sem];done)|(simp (maxSteps:=999999)(disch:=omega) only [go_sem];rfl))
   ·simp (maxSteps:=999999)(disch:=omega) only [go_sem]
   ·omega
end Go.Proofs.YtmfblbbemekkoaaGreatDoor
set_option maxHeartbeats 4000000
set_option maxRecDepth 16000
namespace Go.Proofs.YtmfblbbemekkoaaGreatDoor
open Go Go.SL
open Go.RowKit (wrap64)
attribute [local go_sem] cN pE cA Int.toNat_natCast cM
theorem Gb (bx : Nat → Option Bx) (nx b k n : Nat) (f : Nat → Nat → PV) (m : Int) (o : Op) (t : Lv)
  (hb:bx b=some (.fix [.p (PU m), .own k (n+1)])) (hk:bx k=some (.arr 162 23 (n+1) f)) (hbn:b<nx) (hkn:k<nx) (hbk:b≠k) (hn:n<64) (hf:cQ (f n) t) (hkd:o.kind=2) (hw:∀ i,nx≤i→bx i=none) :
  ∃ F:Nat→Nat→PV,(cQ (F (n+1)) (fi o t)∧∀ i,i<n+1→∀ j,F i j=f i j) ∧
  iV Sg bx nx 96 [.c (.ptr b 0),ag (cT o)] (.b (I 0)) (aB b (.fix [.p (PU m), .own (nx+6) (n+2)]) (aB (nx+6) (.arr 162 23 (n+2) F) bx)) (nx+7):=by
 have hl:=Dr hf
 have hst:aC Sg 143 [B o.isolated, .c (.p (f n 11)),ag [f n 12,f n 13,f n 14,f n 15,f n 16,f n 17],ag [f n 18,f n 19,f n 20,f n 21,f n 22]] (fun r=>r = .tup [ag (cN (zN (fu o.isolated t.op.knockout t.acc t.back))),ag (aF (fu o.isolated t.op.knockout t.acc t.back))]):=by
  obtain ⟨e0,e1,e2,e3,e4,e5,e6,e7,e8,e9,e10,e11,e12,e13,e14,e15,e16,e17,e18,e19,e20,e21,e22⟩:=hl
  rw [e11,e12,e13,e14,e15,e16,e17,e18,e19,e20,e21,e22]
  exact Fq o.isolated t.op.knockout t.acc t.back
 have e:bx=aB b (.fix [.p (PU m), .own k (n+1)]) (aB k (.arr 162 23 (n+1) f) bx):=by rw [← bg hk];exact bg hb
 have g1:(o.kind != 2)=false:=by rw [bne_eq_false_iff_eq];exact hkd
 have g2:decide ((n:Int)≥64)=false:=decide_eq_false (by omega)
 unfold fi
 generalize fu o.isolated t.op.knockout t.acc t.back=q at *
 refine ⟨?F,⟨?hF, ?hG⟩, ?hI⟩
 case hI =>
  refine dO Tryz.func96 rfl (rs:=[.tmp 4]) rfl rfl dK (by decide +kernel) (Nat.le_of_ble_eq_true rfl) ?_ (fun kf => ?_)
  ·intro v hv
   simp only [List.mem_cons,List.not_mem_nil,or_false] at hv
   rcases hv with rfl|rfl
   ·exact hbn
   ·exact fun c hc=>by (obtain ⟨x,_,rfl⟩:=List.mem_map.1 hc;trivial)
  rw [e]
  repeat' (first|refine aj (And.intro g1 g2) ?_|refine an ?_|((first|refine ai (fun K hK => ?_)|refine fk (k:=k) (uL m n f (by omega)) trivial ?_);and_intros;(all_goals first|(refine hK _ ?_;clear hK K)|exact aa|skip)))
  refine fc (id:=5) (.br 0 (.br 1 (.br 2 (.br 3 (.br 4 (.br 5 (.br 6 (.br 7 (.br 8 (.br 9 .leaf .nil) .nil) .nil) .nil) (.br 8 (.br 5 (.br 6 (.br 7 (.br 9 .leaf .nil) .nil) .nil) .nil) .nil)) .nil) .nil) .nil) .nil) .nil) (by decide +kernel) ?_ (fun K0 hW => ?_)
  ·(first|(refine And.intro (fun iw hiw => ?_) ?_;(focus ((try simp (maxSteps:=999999)(disch:=omega) only [go_sem] at hiw ⊢);(repeat (refine Eq.trans (if_neg ?_) ?_;(focus omega)));exact hw iw (by omega)));(focus (first|exact Nat.zero_le _|(simp (maxSteps:=999999)(disch:=omega) only [go_sem];done)|(simp (maxSteps:=999999)(disch:=omega) only [go_sem];omega))))|exact cR)
  replace hW:=ep hW
  repeat' (first|exact ba|(refine bq (fun K' hK' => ?_) ?_)|(refine aV (hW _ ?_);clear hW)|(refine fk (k:=k) (mh m n f (by omega)) trivial ?_;(try simp (maxSteps:=999999)(disch:=omega) only [go_sem]);and_intros;(all_goals first|(refine hK' _ ?_;clear hK' K')|trivial|omega|exact Nat.le_of_ble_eq_true rfl|exact aa|skip))|(simp (maxSteps:=999999)(disch:=omega) only [go_sem];and_intros;(all_goals first|(refine hK' _ ?_;clear hK' K')|trivial|omega|exact Nat.le_of_ble_eq_true rfl|exact aa|skip)))
  all_goals
   refine dg ?_
   repeat' ((first|refine ai (fun K hK => ?_)|refine ae (hst) ?_);and_intros;(all_goals first|(refine hK _ ?_;clear hK K)|exact aa|skip))
   refine fc (id:=7) (.br 0 (.br 1 (.br 2 (.br 3 (.br 4 (.br 6 (.br 7 (.br 8 (.br 9 (.br 5 (.br 10 (.br 11 (.br 12 (.br 13 (.br 14 .leaf .nil) .nil) .nil) .nil) .nil) (.br 10 (.br 5 (.br 11 (.br 12 (.br 13 (.br 14 .leaf .nil) .nil) .nil) .nil) .nil) .nil)) .nil) .nil) .nil) .nil) .nil) .nil) .nil) .nil) .nil) (by decide +kernel) ?_ (fun K0 hW => ?_)
   ·(first|(refine And.intro (fun iw hiw => ?_) ?_;(focus ((try simp (maxSteps:=999999)(disch:=omega) only [go_sem] at hiw ⊢);(repeat (refine Eq.trans (if_neg ?_) ?_;(focus omega)));exact hw iw (by omega)));(focus (first|exact Nat.zero_le _|(simp (maxSteps:=999999)(disch:=omega) only [go_sem];done)|(simp (maxSteps:=999999)(disch:=omega) only [go_sem];omega))))|exact cR)
   replace hW:=ep hW
   repeat' (first|exact ba|(refine bq (fun K' hK' => ?_) ?_)|(refine aV (hW _ ?_);clear hW)|(simp (maxSteps:=999999)(disch:=omega) only [go_sem];and_intros;(all_goals first|(refine hK' _ ?_;clear hK' K')|trivial|omega|exact Nat.le_of_ble_eq_true rfl|exact aa|skip)))
   all_goals
    refine dg ?_
    repeat' (first|(refine ai (fun K hK => ?_);and_intros;(all_goals first|(refine hK _ ?_;clear hK K)|exact aa|skip))|(refine ak ?_;(try clear hB KB);(try clear hK K)))
    refine oU (bx:=aB b (.fix [.p (PU m), .own k (n+1)]) (aB k (.arr 162 23 (n+1) f) bx)) (nx:=nx) ?_ ?_ ?_ (fun i hi h1 h2 => ?_)
    ·rw [← e];exact hw
    ·simp (maxSteps:=999999)(disch:=omega) only [go_sem]
    ·(first|(simp (maxSteps:=999999)(disch:=omega) only [go_sem];done)|(simp (maxSteps:=999999)(disch:=omega) only [go_sem];rfl))
    ·simp (maxSteps:=999999)(disch:=omega) only [go_sem]
 ·intro j hj
  show fX (n+1) f _ (n+1) j=_
  unfold fX
  rw [if_neg (by omega),Nat.sub_self]
  have hivl:j=0∨j=1∨j=2∨j=3∨j=4∨j=5∨j=6∨j=7∨j=8∨j=9∨j=10∨j=11∨j=12∨j=13∨j=14∨j=15∨j=16∨j=17∨j=18∨j=19∨j=20∨j=21∨j=22:=by omega
  rcases hivl with rfl|rfl|rfl|rfl|rfl|rfl|rfl|rfl|rfl|rfl|rfl|rfl|rfl|rfl|rfl|rfl|rfl|rfl|rfl|rfl|rfl|rfl|rfl <;> rfl
 ·intro i hi j
  show fX (n+1) f _ i j=_
  unfold fX
  rw [if_pos hi]
end Go.Proofs.YtmfblbbemekkoaaGreatDoor
