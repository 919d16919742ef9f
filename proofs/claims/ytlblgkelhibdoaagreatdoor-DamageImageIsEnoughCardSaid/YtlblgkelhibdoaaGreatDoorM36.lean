/- Part of the proof: V4, V5, V6. -/
import Derived.Test.YtlblgkelhibdoaaGreatDoorM35
set_option linter.unusedSimpArgs false
set_option linter.unusedVariables false
set_option maxHeartbeats 2000000
set_option maxRecDepth 16000
namespace Go.Proofs.YtlblgkelhibdoaaGreatDoor
open Go Go.SL
open Go.RowKit (wrap64)
attribute [local go_sem] accE
def lvE (t : Lv) : List PV := [PI t.op.kind, PI t.op.image, PI t.op.x, PI t.op.y, PI t.op.mask, PI t.op.maskX, PI t.op.maskY, PU t.op.opacity, PI t.op.operator, PI t.op.mode, PB t.op.isolated, PB t.op.knockout,
 PU t.acc.c0, PU t.acc.c1, PU t.acc.c2, PU t.acc.a, PU t.acc.own, PU t.acc.f, PU t.back.c0, PU t.back.c1, PU t.back.c2, PU t.back.a, PU t.back.f]
def lvAt (g : Nat → PV) (t : Lv) : Prop := ∀ j, j < 23 → g j = (lvE t).getD j .any
theorem lv0 {g : Nat → PV} {t : Lv} (h : lvAt g t) : g 0 = PI t.op.kind ∧ g 1 = PI t.op.image ∧ g 2 = PI t.op.x ∧ g 3 = PI t.op.y ∧ g 4 = PI t.op.mask ∧ g 5 = PI t.op.maskX ∧ g 6 = PI t.op.maskY ∧ g 7 = PU t.op.opacity ∧ g 8 = PI t.op.operator ∧ g 9 = PI t.op.mode ∧
  g 10 = PB t.op.isolated ∧ g 11 = PB t.op.knockout ∧ g 12 = PU t.acc.c0 ∧ g 13 = PU t.acc.c1 ∧ g 14 = PU t.acc.c2 ∧ g 15 = PU t.acc.a ∧ g 16 = PU t.acc.own ∧ g 17 = PU t.acc.f ∧ g 18 = PU t.back.c0 ∧ g 19 = PU t.back.c1 ∧ g 20 = PU t.back.c2 ∧ g 21 = PU t.back.a ∧ g 22 = PU t.back.f :=
 ⟨h 0 (by decide), h 1 (by decide), h 2 (by decide), h 3 (by decide), h 4 (by decide), h 5 (by decide), h 6 (by decide), h 7 (by decide), h 8 (by decide), h 9 (by decide), h 10 (by decide), h 11 (by decide), h 12 (by decide), h 13 (by decide), h 14 (by decide), h 15 (by decide), h 16 (by decide),
  h 17 (by decide), h 18 (by decide), h 19 (by decide), h 20 (by decide), h 21 (by decide), h 22 (by decide)⟩
def rowC (n : Nat) (t : Lv) (f : Nat → Nat → PV) (i j : Nat) : PV := if i = n then (lvE t).getD j .any else f i j
theorem rowC_self {n j : Nat} {t : Lv} {f : Nat → Nat → PV} : rowC n t f n j = (lvE t).getD j .any := if_pos rfl
def mcP (m : Int) (n : Nat) (f : Nat → Nat → PV) : BV := .c (.ipt 2 (fun j => [PU m, .lst 23 n f].getD j .any) 0)
theorem succ_pred {n : Nat} : (((n + 1 : Nat) : Int) - 1) = (n : Int) := by omega
attribute [local go_sem] mcP succ_pred Int.toNat_natCast rowC_self lvE
theorem top_sp (m : Int) (n : Nat) (f : Nat → Nat → PV) (hl : n ≤ 1000) : Pure Sg 86 [mcP m (n + 1) f] (fun x => x = .b (I n)) := by
 have ht : True := trivial
 refine fn_a Tryz.func86 [.tmp 2] ?_
 repeat' (first | with_reducible exact tr_a | (refine st_a (fun K hK => ?_); and_intros; (all_goals first | (refine hK _ ?_; clear hK K) | exact auto_cl | skip)) | (refine ret_a ?_; (try clear hB KB); (try clear hK K)))
theorem depth_sp (m : Int) (n : Nat) (f : Nat → Nat → PV) (hl : n ≤ 1000) : Pure Sg 89 [mcP m (n + 1) f] (fun x => x = .b (I n)) := by
 have ht : True := trivial
 refine fn_a Tryz.func89 [.tmp 2] ?_
 repeat' (first | with_reducible exact tr_a | (refine st_a (fun K hK => ?_); and_intros; (all_goals first | (refine hK _ ?_; clear hK K) | exact auto_cl | skip)) | (refine ret_a ?_; (try clear hB KB); (try clear hK K)))
theorem acc_sp (m : Int) (n : Nat) (f : Nat → Nat → PV) (t : Lv) (hl : n ≤ 1000) (hf : lvAt (f n) t) : Pure Sg 82 [mcP m (n + 1) f] (fun x => x = .b (ag (accE t.acc))) := by
 have ht : True := trivial
 have h1 := top_sp m n f hl
 obtain ⟨_, _, _, _, _, _, _, _, _, _, _, _, e12, e13, e14, e15, e16, e17, _⟩ := lv0 hf
 refine fn_a Tryz.func82 [.cell 2 154] ?_
 repeat' (first | ((first | refine st_a (fun K hK => ?_) | refine call_c (h1) ?_); and_intros; (all_goals first | (refine hK _ ?_; clear hK K) | exact auto_cl | skip)) | (refine ret_a ?_; (try clear hB KB); (try clear hK K)))
 simp only [e12, e13, e14, e15, e16, e17]
 rfl
theorem back_sp (m : Int) (n : Nat) (f : Nat → Nat → PV) (t : Lv) (hl : n ≤ 1000) (hf : lvAt (f n) t) : Pure Sg 85 [mcP m (n + 1) f] (fun x => x = .b (ag (pixE t.back))) := by
 have ht : True := trivial
 have h1 := top_sp m n f hl
 obtain ⟨_, _, _, _, _, _, _, _, _, _, _, _, _, _, _, _, _, _, e18, e19, e20, e21, e22⟩ := lv0 hf
 refine fn_a Tryz.func85 [.cell 2 52] ?_
 repeat' (first | ((first | refine st_a (fun K hK => ?_) | refine call_c (h1) ?_); and_intros; (all_goals first | (refine hK _ ?_; clear hK K) | exact auto_cl | skip)) | (refine ret_a ?_; (try clear hB KB); (try clear hK K)))
 simp only [e18, e19, e20, e21, e22]
 rfl
theorem mresult_sp (m : Int) (f : Nat → Nat → PV) (t : Lv) (hf : lvAt (f 0) t) (hm : Full m) (hv : AccV t.acc t.back m) : Pure Sg 45 [mcP m 1 f] (fun x => x = .tup [ag (pixE (resultA t.acc t.back m)), I 0]) := by
 have ht : True := trivial
 have h1 := depth_sp m 0 f (by decide)
 obtain ⟨_, _, _, _, _, _, _, _, _, _, _, _, e12, e13, e14, e15, e16, e17, e18, e19, e20, e21, e22⟩ := lv0 hf
 have h2 : Pure Sg 87 [ag [f 0 12, f 0 13, f 0 14, f 0 15, f 0 16, f 0 17], ag [f 0 18, f 0 19, f 0 20, f 0 21, f 0 22], U m] (fun r => r = .tup [ag (pixE (resultA t.acc t.back m)), B true]) := by
  rw [e12, e13, e14, e15, e16, e17, e18, e19, e20, e21, e22]
  exact result_sp t.acc t.back m hm hv
 generalize resultA t.acc t.back m = q at *
 have g : decide (((0 : Nat) : Int) > 0) = false := by decide
 refine fn_a Tryz.func45 [.cell 2 52, .tmp 3] ?_
 repeat' (first | refine dec_a g ?_ | (((with_reducible refine cw_stepDK (id := 3) [] (by decide +kernel) (by decide +kernel) ?_ (fun K hK => ?_)); (first | (refine And.intro (fun iw hiw => ?_) ?_; (focus ((try simp (maxSteps := 1000000) (disch := omega) only [go_sem] at hiw ⊢); (repeat (refine Eq.trans (if_neg ?_) ?_; (focus omega))); exact hw iw (by omega))); (focus (first | exact Nat.zero_le _ | (simp (maxSteps := 1000000) (disch := omega) only [go_sem]; done) | (simp (maxSteps := 1000000) (disch := omega) only [go_sem]; omega)))) | exact wf_a)); (try simp (maxSteps := 1000000) (disch := omega) only [go_sem]); and_intros; (all_goals first | (refine hK _ (by simp (maxSteps := 1000000) (disch := omega) only [go_sem]) ?_; clear hK K) | exact auto_cl | skip)) | refine un_a ?_ | ((first | refine st_a (fun K hK => ?_) | refine call_c (h1) ?_ | refine call_c (h2) ?_); and_intros; (all_goals first | (refine hK _ ?_; clear hK K) | exact auto_cl | skip)))
 refine hK _ trivial ?_
 clear hK
 repeat' (first | (refine st_a (fun K hK => ?_); and_intros; (all_goals first | (refine hK _ ?_; clear hK K) | exact auto_cl | skip)) | (refine ret_a ?_; (try clear hB KB); (try clear hK K)))
 rfl
theorem pix_flat (p : Pixel) : (SV.b (ag (pixE p))).flat := fun c hc => by
 obtain ⟨x, hx, rfl⟩ := List.mem_map.1 hc
 simp only [pixE, List.mem_cons, List.not_mem_nil, or_false] at hx
 rcases hx with rfl | rfl | rfl | rfl | rfl <;> trivial
theorem acc_flat (a : Acc) : (SV.b (ag (accE a))).flat := fun c hc => by
 obtain ⟨x, hx, rfl⟩ := List.mem_map.1 hc
 simp only [accE, List.mem_cons, List.not_mem_nil, or_false] at hx
 rcases hx with rfl | rfl | rfl | rfl | rfl | rfl <;> trivial
theorem lend_mc {bx : Nat → Option Bx} {b k n e : Nat} {m : Int} {g : Nat → Nat → PV} (hb : bx b = some (.fix [.p (PU m), .own k n])) (hk : bx k = some (.arr e 23 n g)) : lendAB bx (.c (.ptr b 0)) = mcP m n g := by
 have h0 : lendC bx (.own k n) = .p (.lst 23 n g) := by
  simp only [lendC, hk, Nat.le_refl, if_true]
 have hf : (fun j => (lendC bx (([CV.p (PU m), .own k n] : List CV).getD (0 + j) .any)).toP) = fun j => [PU m, .lst 23 n g].getD j .any := by
  funext j
  match j with
  | 0 => rfl
  | 1 => show (lendC bx (.own k n)).toP = _; rw [h0]; rfl
  | j + 2 => rw [show 0 + (j + 2) = j + 2 by omega]; rfl
 simp only [lendAB, lendAC, hb]
 unfold mcP
 rw [if_pos (Nat.zero_le _)]
 exact congrArg (fun g => BV.c (.ipt 2 g 0)) hf
theorem call_m {st : St} {f : FuncId} {K : SV → St → Prop} {X : SV} {b k n : Nat} {m : Int} {g : Nat → Nat → PV} {q : Prop} (h : Pure Sg f [mcP m n g] (fun r => r = X)) (hf : X.flat) (hk : q)
  (h1 : st.bx b = some (.fix [.p (PU m), .own k n]) := by (first | (simp (maxSteps := 1000000) (disch := omega) only [go_sem]; done) | rfl | fail)) (h2 : st.bx k = some (.arr 160 23 n g) := by (first | (simp (maxSteps := 1000000) (disch := omega) only [go_sem]; done) | rfl | fail)) (hp : Sg.rcv (f + 1000000) = false := by rfl)
  (w : q → K X st := by (first | (intro h; first | (simp (maxSteps := 1000000) (disch := omega) only [go_sem]; exact h) | exact h) | fail)) : CallS Sg st f [.c (.ptr b 0)] (Sl.of K) := by
 refine .lend [mcP m n g] X h ?_ ?_ hf (w hk) hp
 ·rw [List.map_cons, List.map_nil, lend_mc h1 h2]; exact argsLe_refl _
 ·intro x hx
  rw [List.mem_singleton.1 hx]
  trivial
end Go.Proofs.YtlblgkelhibdoaaGreatDoor
set_option maxHeartbeats 4000000
set_option maxRecDepth 16000
namespace Go.Proofs.YtlblgkelhibdoaaGreatDoor
open Go Go.SL
open Go.RowKit (wrap64)
attribute [local go_sem] accE lvE succ_pred Int.toNat_natCast ite_nat_ne
theorem sub_one {a nx : Nat} {A : Bx} {bx b : Nat → Option Bx} (hw : ∀ i, nx ≤ i → bx i = none) (h1 : b a = some A) (h3 : ∀ i, i < nx → i ≠ a → b i = bx i) : Sub (bxIns a A bx) b := fun i y hi => by
 unfold bxIns at hi
 split at hi
 ·rename_i e; rw [e, h1]; exact hi
 ·rename_i e
  rcases Nat.lt_or_ge i nx with q | q
  ·rw [h3 i q e]; exact hi
  ·rw [hw i q] at hi; cases hi
theorem sub_two {a c nx : Nat} {A C : Bx} {bx b : Nat → Option Bx} (hw : ∀ i, nx ≤ i → bx i = none) (h1 : b a = some A) (h2 : b c = some C) (h3 : ∀ i, i < nx → i ≠ a → i ≠ c → b i = bx i) : Sub (bxIns a A (bxIns c C bx)) b := fun i y hi => by
 unfold bxIns at hi
 split at hi
 ·rename_i e; rw [e, h1]; exact hi
 rename_i e
 split at hi
 ·rename_i e2; rw [e2, h2]; exact hi
 ·rename_i e2
  rcases Nat.lt_or_ge i nx with q | q
  ·rw [h3 i q e e2]; exact hi
  ·rw [hw i q] at hi; cases hi
theorem new_inl (bx : Nat → Option Bx) (nx : Nat) (m : Int) (hm : Full m) (hw : ∀ i, nx ≤ i → bx i = none) : ∃ F : Nat → Nat → PV, lvAt (F 0) base ∧ InlP Sg bx nx 78 [U m] (.tup [.c (.ptr (nx + 1) 0), I 0])
  (bxIns (nx + 1) (.fix [.p (PU m), .own nx 1]) (bxIns nx (.arr 160 23 1 F) bx)) (nx + 2) := by
 have hfu := full_sp m
 rw [fullB hm] at hfu
 have ht : True := trivial
 refine ⟨?F, ?hF, ?hI⟩
 case hI =>
  refine inl_of2 Tryz.func78 rfl (rs := [.tmp 2, .tmp 3]) rfl rfl mixed (by decide +kernel) (Nat.le_of_ble_eq_true rfl) ?_ (fun kf => ?_)
  ·intro v hv
   rw [List.mem_singleton.1 hv]; trivial
  repeat' (first | refine dec_a ht ?_ | refine un_a ?_ | ((first | refine st_a (fun K hK => ?_) | refine call_c (hfu) ?_); and_intros; (all_goals first | (refine hK _ ?_; clear hK K) | exact auto_cl | skip)) | (refine ret_a ?_; (try clear hB KB); (try clear hK K)))
  refine ⟨sub_two hw ?_ ?_ (fun i hi h1 h2 => ?_), by omega⟩
  ·simp (maxSteps := 1000000) (disch := omega) only [go_sem]
  ·simp (maxSteps := 1000000) (disch := omega) only [go_sem]
   rfl
  ·simp (maxSteps := 1000000) (disch := omega) only [go_sem]
 intro j hj
 have hivl : j = 0 ∨ j = 1 ∨ j = 2 ∨ j = 3 ∨ j = 4 ∨ j = 5 ∨ j = 6 ∨ j = 7 ∨ j = 8 ∨ j = 9 ∨ j = 10 ∨ j = 11 ∨ j = 12 ∨ j = 13 ∨ j = 14 ∨ j = 15 ∨ j = 16 ∨ j = 17 ∨ j = 18 ∨ j = 19 ∨ j = 20 ∨ j = 21 ∨ j = 22 := by omega
 rcases hivl with rfl | rfl | rfl | rfl | rfl | rfl | rfl | rfl | rfl | rfl | rfl | rfl | rfl | rfl | rfl | rfl | rfl | rfl | rfl | rfl | rfl | rfl | rfl <;> rfl
def paintF (n : Nat) (f : Nat → Nat → PV) (q : Acc) : Nat → Nat → PV := fun i j => if i = n then (if 12 ≤ j ∧ j < 18 then (([CV.p (PU q.c0), CV.p (PU q.c1), CV.p (PU q.c2), CV.p (PU q.a), CV.p (PU q.own), CV.p (PU q.f)] : List CV).getD (j - 12) .any).toP else f n j) else f i j
theorem paintF_at {n : Nat} {f : Nat → Nat → PV} {q : Acc} {t : Lv} (hf : lvAt (f n) t) : lvAt (paintF n f q n) { t with acc := q } := by
 intro j hj
 have hl := hf j hj
 unfold paintF
 rw [if_pos rfl]
 have hivl : j = 0 ∨ j = 1 ∨ j = 2 ∨ j = 3 ∨ j = 4 ∨ j = 5 ∨ j = 6 ∨ j = 7 ∨ j = 8 ∨ j = 9 ∨ j = 10 ∨ j = 11 ∨ j = 12 ∨ j = 13 ∨ j = 14 ∨ j = 15 ∨ j = 16 ∨ j = 17 ∨ j = 18 ∨ j = 19 ∨ j = 20 ∨ j = 21 ∨ j = 22 := by omega
 rcases hivl with rfl | rfl | rfl | rfl | rfl | rfl | rfl | rfl | rfl | rfl | rfl | rfl | rfl | rfl | rfl | rfl | rfl | rfl | rfl | rfl | rfl | rfl | rfl <;> first | rfl | exact hl
theorem paintF_ne {n i j : Nat} {f : Nat → Nat → PV} {q : Acc} (h : i ≠ n) : paintF n f q i j = f i j := if_neg h
theorem paint_inl (bx : Nat → Option Bx) (nx b k n : Nat) (f : Nat → Nat → PV) (m : Int) (o : Op) (p : Pixel) (t : Lv)
  (hb : bx b = some (.fix [.p (PU m), .own k (n + 1)])) (hk : bx k = some (.arr 160 23 (n + 1) f)) (hbn : b < nx) (hkn : k < nx) (hbk : b ≠ k) (hn : n ≤ 1000) (hf : lvAt (f n) t)
  (hm : Full m) (ho : 1 ≤ o.operator ∧ o.operator ≤ 12) (hmo : 1 ≤ o.mode ∧ o.mode ≤ 12) (hp : PixV p m) (hv : AccV t.acc t.back m) (hko : t.op.knockout = true → o.operator = 4) (hw : ∀ i, nx ≤ i → bx i = none) :
  InlP Sg bx nx 134 [.c (.ptr b 0), ag (opE o), ag (pixE p)] (.b (B true)) (bxIns k (.arr 160 23 (n + 1) (paintF n f (stepM t.op.knockout o.operator o.mode m p t.acc t.back))) bx) (nx + 3) := by
 have hl := lv0 hf
 have hst : Pure Sg 158 [.c (.p (f n 11)), I o.operator, I o.mode, U m, ag (pixE p), ag [f n 12, f n 13, f n 14, f n 15, f n 16, f n 17], ag [f n 18, f n 19, f n 20, f n 21, f n 22]] (fun r => r = .tup [ag (accE (stepM t.op.knockout o.operator o.mode m p t.acc t.back)), B true]) := by
  obtain ⟨e0, e1, e2, e3, e4, e5, e6, e7, e8, e9, e10, e11, e12, e13, e14, e15, e16, e17, e18, e19, e20, e21, e22⟩ := hl
  rw [e11, e12, e13, e14, e15, e16, e17, e18, e19, e20, e21, e22]
  exact step_sp t.op.knockout o.operator o.mode m p t.acc t.back hm ho hmo hp hv hko
 have e : bx = bxIns b (.fix [.p (PU m), .own k (n + 1)]) (bxIns k (.arr 160 23 (n + 1) f) bx) := by rw [← bx_front hk]; exact bx_front hb
 have ht : True := trivial
 generalize stepM t.op.knockout o.operator o.mode m p t.acc t.back = q at *
 refine inl_of2 Tryz.func134 rfl (rs := [.tmp 6]) rfl rfl mixed (by decide +kernel) (Nat.le_of_ble_eq_true rfl) ?_ (fun kf => ?_)
 ·intro v hv
  simp only [List.mem_cons, List.not_mem_nil, or_false] at hv
  rcases hv with rfl | rfl | rfl
  ·exact hbn
  ·exact fun c hc => by (obtain ⟨x, _, rfl⟩ := List.mem_map.1 hc; trivial)
  ·exact fun c hc => by (obtain ⟨x, _, rfl⟩ := List.mem_map.1 hc; trivial)
 rw [e]
 repeat' (first | (((with_reducible refine cw_stepDK (id := 2) [] (by decide +kernel) (by decide +kernel) ?_ (fun K hK => ?_)); (first | (refine And.intro (fun iw hiw => ?_) ?_; (focus ((try simp (maxSteps := 1000000) (disch := omega) only [go_sem] at hiw ⊢); (repeat (refine Eq.trans (if_neg ?_) ?_; (focus omega))); exact hw iw (by omega))); (focus (first | exact Nat.zero_le _ | (simp (maxSteps := 1000000) (disch := omega) only [go_sem]; done) | (simp (maxSteps := 1000000) (disch := omega) only [go_sem]; omega)))) | exact wf_a)); (try simp (maxSteps := 1000000) (disch := omega) only [go_sem]); and_intros; (all_goals first | (refine hK _ (by simp (maxSteps := 1000000) (disch := omega) only [go_sem]) ?_; clear hK K) | exact auto_cl | skip)) | ((first | refine st_a (fun K hK => ?_) | refine call_m (k := k) (top_sp m n f hn) trivial ?_ | refine call_c (hst) ?_); and_intros; (all_goals first | (refine hK _ ?_; clear hK K) | exact auto_cl | skip)))
 refine hK _ trivial ?_
 clear hK
 repeat' (first | refine dec_a ht ?_ | (((with_reducible refine cw_stepDK (id := 4) [] (by decide +kernel) (by decide +kernel) ?_ (fun K hK => ?_)); (first | (refine And.intro (fun iw hiw => ?_) ?_; (focus ((try simp (maxSteps := 1000000) (disch := omega) only [go_sem] at hiw ⊢); (repeat (refine Eq.trans (if_neg ?_) ?_; (focus omega))); exact hw iw (by omega))); (focus (first | exact Nat.zero_le _ | (simp (maxSteps := 1000000) (disch := omega) only [go_sem]; done) | (simp (maxSteps := 1000000) (disch := omega) only [go_sem]; omega)))) | exact wf_a)); (try simp (maxSteps := 1000000) (disch := omega) only [go_sem]); and_intros; (all_goals first | (refine hK _ (by simp (maxSteps := 1000000) (disch := omega) only [go_sem]) ?_; clear hK K) | exact auto_cl | skip)) | refine un_a ?_ | (refine st_a (fun K hK => ?_); and_intros; (all_goals first | (refine hK _ ?_; clear hK K) | exact auto_cl | skip)) | (refine ret_a ?_; (try clear hB KB); (try clear hK K)))
 refine sub_one (bx := bxIns b (.fix [.p (PU m), .own k (n + 1)]) (bxIns k (.arr 160 23 (n + 1) f) bx)) (nx := nx) ?_ ?_ (fun i hi h1 => ?_)
 ·rw [← e]; exact hw
 ·simp (maxSteps := 1000000) (disch := omega) only [go_sem]
  rfl
 ·simp (maxSteps := 1000000) (disch := omega) only [go_sem]
end Go.Proofs.YtlblgkelhibdoaaGreatDoor
set_option maxHeartbeats 4000000
set_option maxRecDepth 16000
namespace Go.Proofs.YtlblgkelhibdoaaGreatDoor
open Go Go.SL
open Go.RowKit (wrap64)
attribute [local go_sem] accE lvE succ_pred Int.toNat_natCast ite_nat_ne
theorem call_paint {st : St} {K : SV → St → Prop} (b k n : Nat) (f : Nat → Nat → PV) (m : Int) (o : Op) (p : Pixel) (t : Lv)
  (hb : st.bx b = some (.fix [.p (PU m), .own k (n + 1)])) (hk : st.bx k = some (.arr 160 23 (n + 1) f)) (hbn : b < st.nx) (hkn : k < st.nx) (hbk : b ≠ k) (hn : n ≤ 1000) (hf : lvAt (f n) t)
  (hm : Full m) (ho : 1 ≤ o.operator ∧ o.operator ≤ 12) (hmo : 1 ≤ o.mode ∧ o.mode ≤ 12) (hp : PixV p m) (hv : AccV t.acc t.back m) (hko : t.op.knockout = true → o.operator = 4) (hw : ∀ i, st.nx ≤ i → st.bx i = none)
  (hK : K (.b (B true)) (st.turn (bxIns k (.arr 160 23 (n + 1) (paintF n f (stepM t.op.knockout o.operator o.mode m p t.acc t.back))) st.bx) (st.nx + 3))) :
  CallS Sg st 134 [.c (.ptr b 0), ag (opE o), ag (pixE p)] (Sl.of K) := by
 refine call_inl (paint_inl st.bx st.nx b k n f m o p t hb hk hbn hkn hbk hn hf hm ho hmo hp hv hko hw) rfl (fun i hi => ?_) (by omega) hK
 unfold bxIns
 rw [if_neg (by omega)]
 exact hw i (by omega)
theorem draw_inl (bx : Nat → Option Bx) (nx b k n : Nat) (f : Nat → Nat → PV) (m : Int) (o : Op) (p : Pixel) (ms : Int) (t : Lv)
  (hb : bx b = some (.fix [.p (PU m), .own k (n + 1)])) (hk : bx k = some (.arr 160 23 (n + 1) f)) (hbn : b < nx) (hkn : k < nx) (hbk : b ≠ k) (hn : n ≤ 1000) (hf : lvAt (f n) t)
  (hm : Full m) (hkd : o.kind = 1) (ho : 1 ≤ o.operator ∧ o.operator ≤ 12) (hmo : 1 ≤ o.mode ∧ o.mode ≤ 12) (hop : 0 ≤ o.opacity ∧ o.opacity ≤ m) (hp : PixV p m) (hms : 0 ≤ ms ∧ ms ≤ m) (hv : AccV t.acc t.back m) (hko : t.op.knockout = true → o.operator = 4) (hw : ∀ i, nx ≤ i → bx i = none) :
  InlP Sg bx nx 83 [.c (.ptr b 0), ag (opE o), ag (pixE p), U ms] (.tup [ag (pixE (scaledM m o p ms)), I 0]) (bxIns k (.arr 160 23 (n + 1) (paintF n f (stepM t.op.knockout o.operator o.mode m (scaledM m o p ms) t.acc t.back))) bx) (nx + 7) := by
 have hsc := scaled_sp m o p ms hm hp hms.1 hms.2 hop.1 hop.2
 have hsv := scaled_v (o := o) hm hp hms.1 hms.2 hop.1 hop.2
 have e : bx = bxIns b (.fix [.p (PU m), .own k (n + 1)]) (bxIns k (.arr 160 23 (n + 1) f) bx) := by rw [← bx_front hk]; exact bx_front hb
 have g : (o.kind != 1) = false := by rw [bne_eq_false_iff_eq]; exact hkd
 generalize scaledM m o p ms = q at *
 refine inl_of2 Tryz.func83 rfl (rs := [.cell 8 52, .tmp 9]) rfl rfl mixed (by decide +kernel) (Nat.le_of_ble_eq_true rfl) ?_ (fun kf => ?_)
 ·intro v hv
  simp only [List.mem_cons, List.not_mem_nil, or_false] at hv
  rcases hv with rfl | rfl | rfl | rfl
  ·exact hbn
  ·exact fun c hc => by (obtain ⟨x, _, rfl⟩ := List.mem_map.1 hc; trivial)
  ·exact fun c hc => by (obtain ⟨x, _, rfl⟩ := List.mem_map.1 hc; trivial)
  ·trivial
 rw [e]
 repeat' (first | (((with_reducible refine cw_stepDK (id := 1) [] (by decide +kernel) (by decide +kernel) ?_ (fun K hK => ?_)); (first | (refine And.intro (fun iw hiw => ?_) ?_; (focus ((try simp (maxSteps := 1000000) (disch := omega) only [go_sem] at hiw ⊢); (repeat (refine Eq.trans (if_neg ?_) ?_; (focus omega))); exact hw iw (by omega))); (focus (first | exact Nat.zero_le _ | (simp (maxSteps := 1000000) (disch := omega) only [go_sem]; done) | (simp (maxSteps := 1000000) (disch := omega) only [go_sem]; omega)))) | exact wf_a)); (try simp (maxSteps := 1000000) (disch := omega) only [go_sem]); and_intros; (all_goals first | (refine hK _ (by simp (maxSteps := 1000000) (disch := omega) only [go_sem]) ?_; clear hK K) | exact auto_cl | skip)) | ((first | refine st_a (fun K hK => ?_) | refine call_c (hsc) ?_); and_intros; (all_goals first | (refine hK _ ?_; clear hK K) | exact auto_cl | skip)))
 refine hK _ trivial ?_
 clear hK
 repeat' (first | refine dec_a g ?_ | refine un_a ?_ | (refine st_a (fun K hK => ?_); and_intros; (all_goals first | (refine hK _ ?_; clear hK K) | exact auto_cl | skip)))
 refine call_paint b k n f m o q t ?_ ?_ ?_ ?_ hbk hn hf hm ho hmo hsv hv hko ?_ ?_
 ·simp (maxSteps := 1000000) (disch := omega) only [go_sem]
 ·simp (maxSteps := 1000000) (disch := omega) only [go_sem]
 ·simp (maxSteps := 1000000) (disch := omega) only [go_sem]
 ·simp (maxSteps := 1000000) (disch := omega) only [go_sem]
 ·intro iw hiw
  (try simp (maxSteps := 1000000) (disch := omega) only [go_sem] at hiw ⊢)
  (repeat (refine Eq.trans (if_neg ?_) ?_; (focus omega)))
  exact hw iw (by omega)
 simp (maxSteps := 1000000) (disch := omega) only [go_sem]
 refine hK _ ?_
 clear hK
 repeat' (first | refine dec_a g ?_ | refine un_a ?_ | (refine st_a (fun K hK => ?_); and_intros; (all_goals first | (refine hK _ ?_; clear hK K) | exact auto_cl | skip)) | (refine ret_a ?_; (try clear hB KB); (try clear hK K)))
 refine ⟨rfl, sub_one (bx := bxIns b (.fix [.p (PU m), .own k (n + 1)]) (bxIns k (.arr 160 23 (n + 1) f) bx)) (nx := nx) ?_ ?_ (fun i hi h1 => ?_)⟩
 ·rw [← e]; exact hw
 ·simp (maxSteps := 1000000) (disch := omega) only [go_sem]
 ·simp (maxSteps := 1000000) (disch := omega) only [go_sem]
end Go.Proofs.YtlblgkelhibdoaaGreatDoor
