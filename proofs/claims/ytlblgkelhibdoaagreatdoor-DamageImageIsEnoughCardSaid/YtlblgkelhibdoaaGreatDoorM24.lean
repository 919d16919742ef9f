/- Part of the proof: EQ, T9, TA, TB, D6, V1. -/
import Derived.Test.YtlblgkelhibdoaaGreatDoorM23
set_option linter.unusedSimpArgs false
set_option linter.unusedVariables false
set_option maxRecDepth 8000
set_option maxHeartbeats 2000000
namespace Go.Proofs.YtlblgkelhibdoaaGreatDoor
open Go Go.SL
section
variable {a b : List Op} (hk : ∀ j, (opAt a j).kind = (opAt b j).kind)
include hk
theorem stk_kinds : ∀ i, stk a i = stk b i
 | 0 => rfl
 | i + 1 => by rw [stk, stk, stk_kinds i, hk i]
end
end Go.Proofs.YtlblgkelhibdoaaGreatDoor
set_option maxHeartbeats 1000000
namespace Go.Proofs.YtlblgkelhibdoaaGreatDoor
structure Pt (s : Script) (m x y : Int) : Prop where
 V : VOps s
 hm : Full m
 mx : maxOf s.bits = m
 im : ImgsV s
 op : ∀ o ∈ s.ops, 0 ≤ o.opacity
 c : emptyR s.canvas = false
 xy : inR s.canvas x y
def valueM (s : Script) (x y : Int) : Pixel := valL (maxOf s.bits) (runL (maxOf s.bits) (smpM s x y) s.ops [base])
theorem opAt_mem {ops : List Op} {i : Nat} (hi : i < ops.length) : opAt ops i ∈ ops := by
 rw [opAt, List.getD_eq_getElem?_getD, List.getElem?_eq_getElem hi]; exact List.getElem_mem _
section
variable {s : Script} {m x y : Int}
theorem Pt.z (C : Pt s m x y) : SmpV m (smpM s x y) := smp_v C.hm C.mx C.im
structure At (s : Script) (m : Int) (i : Nat) (st : List Lv) : Prop where
 v : StV m st
 o : st.map Lv.op = (stk s.ops i).map (opAt s.ops) ++ [baseOp]
theorem at_i (C : Pt s m x y) (i : Nat) (hi : i ≤ s.ops.length) : At s m i (stAt m (smpM s x y) s.ops i) := by
 obtain ⟨h1, h2⟩ := stAt_v C.hm C.z C.V C.mx C.op i hi
 exact ⟨h1, h2⟩
theorem at_run (C : Pt s m x y) {i j : Nat} {st : List Lv} (h : At s m i st) (hij : i ≤ j) (hj : j ≤ s.ops.length) : At s m j (runL m (smpM s x y) (seg s.ops i j) st) := by
 obtain ⟨h1, h2⟩ := run_v C.hm C.z C.V C.mx C.op h.v h.o (j - i) (by omega)
 rw [show i + (j - i) = j by omega] at h1 h2
 exact ⟨h1, h2⟩
theorem At.ne {i : Nat} {st : List Lv} (h : At s m i st) : ∃ t r, st = t :: r := by
 cases st with
 | nil => exact h.v.elim
 | cons t r => exact ⟨t, r, rfl⟩
theorem At.fit (C : Pt s m x y) {i : Nat} {t : Lv} {r : List Lv} (h : At s m i (t :: r)) (hi : i < s.ops.length) (hk : (opAt s.ops i).kind ≠ 3) : OpFit m t.op (opAt s.ops i) := by
 have hn := next_of C.V C.mx C.op hi h.o
 refine hn.1 ?_
 rcases C.V.wf.kinds i hi with q | q | q
 ·exact .inl q
 ·exact .inr q
 ·exact absurd q hk
theorem At.frame {i : Nat} {t : Lv} {r : List Lv} (h : At s m i (t :: r)) (hk : (opAt s.ops i).kind ≠ 3) : t.op.isolated = isoM s i ∧ t.op.knockout = koM s i := by
 have ho := h.o
 unfold isoM koM
 rw [grpM, if_neg hk]
 cases hs : stk s.ops i with
 | nil =>
  rw [hs] at ho
  rw [topAt_nil hs, (List.cons.inj ho).1]
  exact ⟨rfl, rfl⟩
 | cons p q =>
  rw [hs] at ho
  rw [topAt_cons hs, (List.cons.inj ho).1, decide_eq_false (show ¬ ((p : Int) < 0) by omega), Int.toNat_natCast]
  exact ⟨rfl, rfl⟩
theorem At.repl {i : Nat} {t t' : Lv} {r : List Lv} (h : At s m i (t :: r)) (h1 : LvV m t') (h2 : t'.op = t.op) : At s m i (t' :: r) :=
 ⟨h.v.repl h1 h2, by rw [← h.o, List.map_cons, List.map_cons, h2]⟩
theorem At.same {i j : Nat} {st : List Lv} (h : At s m i st) (hs : stk s.ops j = stk s.ops i) : At s m j st := ⟨h.v, by rw [hs]; exact h.o⟩
def srcE (s : Script) (m x y : Int) (i : Nat) (ko : Bool) (a : Acc) (b : Pixel) : Pixel :=
 if (opAt s.ops i).kind = 1 then (smpM s x y (opAt s.ops i)).1 else grpP m (smpM s x y) (seg s.ops (i + 1) (endsM s.ops i)) (opAt s.ops i).knockout (beginA (opAt s.ops i).isolated ko a b)
theorem elem_acc (C : Pt s m x y) {i : Nat} (hi : i < s.ops.length) (hk : (opAt s.ops i).kind ≠ 3) {ko : Bool} {a : Acc} {b : Pixel} :
  accL m (smpM s x y) (seg s.ops i (endsM s.ops i + 1)) ko a b = stepM ko (opAt s.ops i).operator (opAt s.ops i).mode m (scaledM m (opAt s.ops i) (srcE s m x y i ko a b) (smpM s x y (opAt s.ops i)).2) a b := by
 have W := C.V.wf
 unfold srcE
 rcases W.kinds i hi with h | h | h
 ·rw [ends_draw W hi h, seg_one hi, acc_draw h, if_pos h]
 ·rw [seg_grp W hi h, acc_grp h (elm_in W hi h) (grp_end W hi h).1, if_neg (by omega)]
 ·exact absurd h hk
theorem run_elem (C : Pt s m x y) {i : Nat} (hi : i < s.ops.length) (hk : (opAt s.ops i).kind ≠ 3) (t : Lv) (r : List Lv) :
  runL m (smpM s x y) (seg s.ops i (endsM s.ops i + 1)) (t :: r) = { t with acc := accL m (smpM s x y) (seg s.ops i (endsM s.ops i + 1)) t.op.knockout t.acc t.back } :: r := run_elm (elm_at C.V.wf hi hk) t r
end
end Go.Proofs.YtlblgkelhibdoaaGreatDoor
set_option maxHeartbeats 1000000
namespace Go.Proofs.YtlblgkelhibdoaaGreatDoor
section
variable {s : Script} {m x y : Int}
theorem scaled_zero {o : Op} {k : Int} (hm : Full m) : scaledM m o zPix k = zPix := by
 unfold scaledM
 rw [scale_of_zero hm, scale_of_zero hm]
theorem scaled_void {o : Op} {p : Pixel} (hm : Full m) (h : o.mask ≠ 0) : scaledM m o p 0 = zPix := by
 unfold scaledM
 rw [if_neg h, scale_zero hm, scale_of_zero hm]
theorem scaled_op0 {o : Op} {p : Pixel} {k : Int} (hm : Full m) (h : o.opacity = 0) : scaledM m o p k = zPix := by
 unfold scaledM
 rw [h, scale_zero hm]
theorem fld_bd (C : Pt s m x y) {i : Nat} (hi : i < s.ops.length) (hk : (opAt s.ops i).kind ≠ 3) :
  ((opAt s.ops i).kind = 1 → 0 ≤ (opAt s.ops i).image ∧ (opAt s.ops i).image < s.images.length) ∧ 0 ≤ (opAt s.ops i).mask ∧ (opAt s.ops i).mask ≤ s.images.length ∧
   (-1048576 ≤ (opAt s.ops i).x ∧ (opAt s.ops i).x ≤ 1048576) ∧ (-1048576 ≤ (opAt s.ops i).y ∧ (opAt s.ops i).y ≤ 1048576) ∧ (-1048576 ≤ (opAt s.ops i).maskX ∧ (opAt s.ops i).maskX ≤ 1048576) ∧ (-1048576 ≤ (opAt s.ops i).maskY ∧ (opAt s.ops i).maskY ≤ 1048576) := by
 obtain ⟨_, _, _, g⟩ := opErr_zero.1 (C.V.ok i hi)
 obtain ⟨g1, g2, _⟩ := g hk
 simp only [withinM, List.all_cons, List.all_nil, Bool.and_true, Bool.and_eq_true, decide_eq_true_eq] at g2
 omega
theorem mask_at (C : Pt s m x y) {i : Nat} (hi : i < s.ops.length) (hk : (opAt s.ops i).kind ≠ 3) (h0 : (opAt s.ops i).mask ≠ 0) :
  ((emptyR (maskRectM s (opAt s.ops i)) = false ∧ inR (maskRectM s (opAt s.ops i)) x y) → (imgM s ((opAt s.ops i).mask - 1)).solid = true → (smpM s x y (opAt s.ops i)).2 = (imgM s ((opAt s.ops i).mask - 1)).color.a) ∧
   (¬ (emptyR (maskRectM s (opAt s.ops i)) = false ∧ inR (maskRectM s (opAt s.ops i)) x y) → (smpM s x y (opAt s.ops i)).2 = 0) := by
 obtain ⟨_, b1, b2, _, _, b5, b6⟩ := fld_bd C hi hk
 have hI := C.im ((opAt s.ops i).mask - 1) (by omega) (by omega)
 have e : maskRectM s (opAt s.ops i) = placedM s ((opAt s.ops i).mask - 1) (opAt s.ops i).maskX (opAt s.ops i).maskY := if_neg h0
 have hp := placed_in (i := (opAt s.ops i).mask - 1) C.c C.xy (by omega) (by omega) hI.f b5 b6
 have e2 : (smpM s x y (opAt s.ops i)).2 = (nearM (imgM s ((opAt s.ops i).mask - 1)) x y (opAt s.ops i).maskX (opAt s.ops i).maskY).a := if_pos (by omega)
 rw [e, e2, hp]
 refine ⟨fun h hs => ?_, fun h => ?_⟩
 ·rw [near_in hI.f h, pixelM, if_pos hs]
 ·rw [near_out h]; rfl
theorem image_at (C : Pt s m x y) {i : Nat} (hi : i < s.ops.length) (hk : (opAt s.ops i).kind = 1) :
  ((emptyR (imageRectM s (opAt s.ops i)) = false ∧ inR (imageRectM s (opAt s.ops i)) x y) → (imgM s (opAt s.ops i).image).solid = true → (smpM s x y (opAt s.ops i)).1 = (imgM s (opAt s.ops i).image).color) ∧
   (¬ (emptyR (imageRectM s (opAt s.ops i)) = false ∧ inR (imageRectM s (opAt s.ops i)) x y) → (smpM s x y (opAt s.ops i)).1 = zPix) := by
 obtain ⟨b0, _, _, b3, b4, _⟩ := fld_bd C hi (by omega)
 have b0 := b0 hk
 have hI := C.im (opAt s.ops i).image b0.1 b0.2
 have e : imageRectM s (opAt s.ops i) = placedM s (opAt s.ops i).image (opAt s.ops i).x (opAt s.ops i).y := if_pos hk
 have hp := placed_in (i := (opAt s.ops i).image) C.c C.xy b0.1 b0.2 hI.f b3 b4
 have e2 : (smpM s x y (opAt s.ops i)).1 = nearM (imgM s (opAt s.ops i).image) x y (opAt s.ops i).x (opAt s.ops i).y := if_pos ⟨hk, b0⟩
 rw [e, e2, hp]
 refine ⟨fun h hs => ?_, fun h => ?_⟩
 ·rw [near_in hI.f h, pixelM, if_pos hs]
 ·exact near_out h
theorem grp_nil {z : Op → Pixel × Int} {ko : Bool} {B : Pixel} : grpP m z [] ko B = zPix := by
 have e : ∀ c, resC1 c c 0 m = 0 := fun c => by
  unfold resC1
  rw [if_neg (by rw [Int.sub_zero]; exact Int.lt_irrefl _)]
 show resultA (accOf B) B m = zPix
 show (⟨resC1 B.c0 B.c0 0 m, resC1 B.c1 B.c1 0 m, resC1 B.c2 B.c2 0 m, 0, 0⟩ : Pixel) = zPix
 rw [e, e, e]; rfl
theorem elem_neutral (C : Pt s m x y) {i : Nat} (hi : i < s.ops.length) (hk : (opAt s.ops i).kind ≠ 3) (hn : neutralM (opAt s.ops i).operator = true) {t : Lv} {r : List Lv} (h : At s m i (t :: r))
  (hz : scaledM m (opAt s.ops i) (srcE s m x y i t.op.knockout t.acc t.back) (smpM s x y (opAt s.ops i)).2 = zPix) : accL m (smpM s x y) (seg s.ops i (endsM s.ops i + 1)) t.op.knockout t.acc t.back = t.acc := by
 rw [elem_acc C hi hk, hz]
 refine step_neutral C.hm h.v.head.v hn fun hko => ?_
 rcases (h.fit C hi hk).ctx with q | q
 ·exact q
 ·rw [hko] at q; cases q.2
end
end Go.Proofs.YtlblgkelhibdoaaGreatDoor
set_option maxHeartbeats 1000000
namespace Go.Proofs.YtlblgkelhibdoaaGreatDoor
section
variable {s : Script} {m x y : Int}
theorem at_in (C : Pt s m x y) {i : Nat} (hi : i < s.ops.length) (hk : (opAt s.ops i).kind = 2) {t : Lv} {r : List Lv} (h : At s m i (t :: r)) : At s m (i + 1) (beginL (opAt s.ops i) t :: t :: r) := by
 have h2 := at_run C h (show i ≤ i + 1 by omega) (by omega)
 rw [seg_one hi, run_cons, stepL_push hk] at h2
 exact h2
end
end Go.Proofs.YtlblgkelhibdoaaGreatDoor
set_option maxHeartbeats 2000000
set_option maxRecDepth 16000
namespace Go.Proofs.YtlblgkelhibdoaaGreatDoor
open Go Go.SL
open Go.RowKit (wrap64)
def rectsF (n : Nat) (f : Nat → Rect) : PV := .lst 4 n (fun a j => (rectE (f a)).getD j .any)
def rF (l junk : List Rect) (a : Nat) : Rect := (l.reverse ++ junk).getD a zeroR
theorem rF_top {p : Rect} {t junk : List Rect} : rF (p :: t) junk t.length = p := by
 rw [rF, List.reverse_cons, List.append_assoc, List.getD_eq_getElem?_getD, List.getElem?_append_right (by simp)]
 simp
theorem rF_pop {p : Rect} {t junk : List Rect} : rF (p :: t) junk = rF t (p :: junk) := by
 funext a; rw [rF, rF, List.reverse_cons, List.append_assoc]; rfl
theorem rF_top2 {q p : Rect} {t junk : List Rect} : rF (q :: p :: t) junk t.length = p := by rw [rF_pop, rF_top]
theorem rF_top3 {q p : Rect} {t junk : List Rect} : rF (q :: p :: t) junk (t.length + 1) = q := rF_top (t := p :: t)
attribute [local go_sem] pred_cast2 Int.toNat_natCast stF_top rF_top rF_top2 rF_top3
theorem okAll_of {s : Script} (V : VOps s) : ∀ i, i ≤ s.ops.length → okAll s.bits s.images.length (s.ops.drop (s.ops.length - i)) (openAfter (s.ops.take (s.ops.length - i)) [])
 | 0, _ => by rw [Nat.sub_zero, List.drop_length]; trivial
 | i + 1, hi => by
  have hl : s.ops.length - (i + 1) < s.ops.length := by omega
  have e : opAt s.ops (s.ops.length - (i + 1)) = s.ops[s.ops.length - (i + 1)] := by rw [opAt, List.getD_eq_getElem?_getD, List.getElem?_eq_getElem hl]; rfl
  have ih := okAll_of V i (by omega)
  rw [List.drop_eq_getElem_cons hl]
  refine ⟨?_, ?_⟩
  ·rw [open_take _ (by omega), ← e]; exact V.ok _ hl
  ·have e2 : s.ops.length - (i + 1) + 1 = s.ops.length - i := by omega
   rw [e2]
   rw [← e2, List.take_add_one, List.getElem?_eq_getElem hl, openAfter_append, e2] at ih
   exact ih
theorem vops0 {s : Script} (V : VOps s) : opsM s = (0, 0) := by
 rw [opsM, if_pos V.frame]
 refine opsGo_ok ?_ ?_
 ·have := okAll_of V _ (Nat.le_refl _)
  rw [Nat.sub_self] at this
  exact this
 ·have := open_take (ops := s.ops) s.ops.length (Nat.le_refl _)
  rw [List.take_length, V.wf.fin] at this
  exact this
end Go.Proofs.YtlblgkelhibdoaaGreatDoor
set_option maxHeartbeats 2000000
set_option maxRecDepth 16000
namespace Go.Proofs.YtlblgkelhibdoaaGreatDoor
open Go Go.SL
open Go.RowKit (wrap64)
theorem validPlane_sp (p : Plane) : Pure Sg 118 [ag (planeE p)] (fun r => r = .b (B (planeOk p))) := by
 have hf := r13fits_spec p.w p.h
 unfold planeOk
 by_cases h : fitsM p.w p.h = true ∧ p.w ≤ p.stride ∧ p.stride ≤ 16777216
 ·obtain ⟨h1, h2, h3⟩ := h
  obtain ⟨b1, b2, b3, b4, b5, b6⟩ := fits_bound h1
  have e1 : 0 ≤ (p.h - 1) * p.stride ∧ (p.h - 1) * p.stride ≤ 16777216 * 16777216 := ⟨mul_nn (by omega) (by omega), mul_lr (by omega) (by omega) (by omega) (by omega)⟩
  have g2 : decide (p.stride ≥ p.w) = true := decide_eq_true h2
  have g3 : decide (p.stride ≤ 16777216) = true := decide_eq_true h3
  rw [h1] at hf ⊢
  refine fn_a Tryz.func118 [.tmp 2] ?_
  repeat' (first | ((first | refine st_a (fun K hK => ?_) | refine call_c (hf) ?_); and_intros; (all_goals first | (refine hK _ ?_; clear hK K) | exact auto_cl | skip)) | (refine ret_a ?_; (try clear hB KB); (try clear hK K)))
  rfl
 ·refine fn_a Tryz.func118 [.tmp 2] ?_
  repeat' (first | ((first | refine st_a (fun K hK => ?_) | refine call_c (hf) ?_); and_intros; (all_goals first | (refine hK _ ?_; clear hK K) | exact auto_cl | skip)) | (refine ret_a ?_; (try clear hB KB); (try clear hK K)))
  have hz : (fitsM p.w p.h && decide (p.stride ≥ p.w) && decide (p.stride ≤ 16777216)) = false := by
   rw [← Bool.not_eq_true, Bool.and_eq_true, Bool.and_eq_true, decide_eq_true_eq, decide_eq_true_eq]
   exact fun q => h ⟨q.1.1, q.1.2, q.2⟩
  rw [hz]
  rfl
theorem place_ok {m : Image} {p : Plane} {x y : Int} (hs : m.solid = false) (h : planeFit m p = true) (hx : 0 ≤ x) (hxm : x < m.w) (hy : 0 ≤ y) (hym : y < m.h) :
  (0 ≤ y * p.stride ∧ y * p.stride ≤ 16777216 * 16777216) ∧ 0 ≤ y * p.stride + x ∧ y * p.stride + x < p.s.length ∧ x ≤ 16777216 := by
 unfold planeFit planeOk at h
 rw [hs, if_neg (by decide)] at h
 simp only [Bool.and_eq_true, decide_eq_true_eq] at h
 obtain ⟨⟨⟨⟨⟨hf, h1⟩, h2⟩, h3⟩, h4⟩, h5⟩ := h
 obtain ⟨b1, b2, b3, b4, b5, b6⟩ := fits_bound hf
 have e1 : 0 ≤ y * p.stride ∧ y * p.stride ≤ 16777216 * 16777216 := ⟨mul_nn hy (by omega), mul_lr (by omega) h2 (by omega) (by omega)⟩
 have e2 : y * p.stride ≤ (p.h - 1) * p.stride := mul_lr (by omega) (Int.le_refl _) (by omega) (by omega)
 exact ⟨e1, by omega, by omega, by omega⟩
theorem pixel_sp (m : Image) (x y : Int) (hf : formedM m = true) (hx : 0 ≤ x) (hxm : x < m.w) (hy : 0 ≤ y) (hym : y < m.h) : Pure Sg 120 [ag (imageE m), I x, I y] (fun r => r = .b (ag (pixE (pixelM m x y)))) := by
 unfold pixelM
 by_cases hs : m.solid = true
 ·rw [if_pos hs]
  refine fn_a Tryz.func120 [.cell 6 52] ?_
  repeat' (first | refine dec_a hs ?_ | refine un_a ?_ | (refine st_a (fun K hK => ?_); and_intros; (all_goals first | (refine hK _ ?_; clear hK K) | exact auto_cl | skip)) | (refine ret_a ?_; (try clear hB KB); (try clear hK K)))
  rfl
 ·rw [if_neg hs]
  have hs' : m.solid = false := by simpa using hs
  unfold formedM at hf
  simp only [Bool.and_eq_true] at hf
  obtain ⟨_, ⟨⟨⟨⟨⟨f0, f1⟩, f2⟩, f3⟩, f4⟩, _⟩⟩ := hf
  obtain ⟨a0, b0, c0, d0⟩ := place_ok hs' f0 hx hxm hy hym
  obtain ⟨a1, b1, c1, _⟩ := place_ok hs' f1 hx hxm hy hym
  obtain ⟨a2, b2, c2, _⟩ := place_ok hs' f2 hx hxm hy hym
  obtain ⟨a3, b3, c3, _⟩ := place_ok hs' f3 hx hxm hy hym
  obtain ⟨a4, b4, c4, _⟩ := place_ok hs' f4 hx hxm hy hym
  refine fn_a Tryz.func120 [.cell 6 52] ?_
  repeat' (first | (apply cw_ifF; (case hc => exact ev_a); (case ht => (simp only [Int.toNat_natCast, Int.reduceBEq, Int.reduceBNe, Int.reduceLT, Int.reduceLE, decide_true, decide_false, dcs, hs']; done))) | refine un_a ?_ | (refine st_a (fun K hK => ?_); and_intros; (all_goals first | (refine hK _ ?_; clear hK K) | exact auto_cl | skip)))
  refine cw_loop (X := Int) (fun k => mkSt [(1, .b (I x)), (2, .b (I y)), (3, .b (.c (.ptr 0 0))), (6, .b (.c (.ptr 1 0))), (7, .b (.c (.ptr 2 0))), (8, .b (I k))]
   [(0, .fix ((imageE m).map CV.p)), (1, .fix ((pixE zPix).map CV.p)), (2, .fix [.p (PI (if 0 < k then y * m.p0.stride + x else 0)), .p (PI (if 1 < k then y * m.p1.stride + x else 0)), .p (PI (if 2 < k then y * m.p2.stride + x else 0)), .p (PI (if 3 < k then y * m.p3.stride + x else 0)), .p (PI (if 4 < k then y * m.p4.stride + x else 0))])] 3) (fun k => 0 ≤ k ∧ k ≤ 5) (fun k => (5 - k).toNat) 0 ?_ ?_ ?_
  ·omega
  ·refine le_a [(1, some 1), (2, some 2)] ?_ ?_
   and_intros
   all_goals first | exact le_cl | skip
  ·intro k hk
   have hkv : k = 0 ∨ k = 1 ∨ k = 2 ∨ k = 3 ∨ k = 4 ∨ k = 5 := by omega
   rcases hkv with rfl | rfl | rfl | rfl | rfl | rfl
   ·repeat' (first | (apply cw_ifT; (case hc => exact ev_a); (case ht => (simp only [Int.toNat_natCast, Int.reduceBEq, Int.reduceBNe, Int.reduceLT, Int.reduceLE, decide_true, decide_false, dcs, hs']; done))) | refine un_a ?_ | (refine st_a (fun K hK => ?_); and_intros; (all_goals first | (refine hK _ ?_; clear hK K) | exact auto_cl | skip)))
    rw [thenQ_normal]
    refine wk_loop 1 ?_ (by omega) (by decide)
    refine le_a [(1, some 1), (2, some 2)] ?_ ?_
    and_intros
    all_goals first | exact le_cl | skip
   ·repeat' (first | (apply cw_ifT; (case hc => exact ev_a); (case ht => (simp only [Int.toNat_natCast, Int.reduceBEq, Int.reduceBNe, Int.reduceLT, Int.reduceLE, decide_true, decide_false, dcs, hs']; done))) | refine un_a ?_ | (refine st_a (fun K hK => ?_); and_intros; (all_goals first | (refine hK _ ?_; clear hK K) | exact auto_cl | skip)))
    rw [thenQ_normal]
    refine wk_loop 2 ?_ (by omega) (by decide)
    refine le_a [(1, some 1), (2, some 2)] ?_ ?_
    and_intros
    all_goals first | exact le_cl | skip
   ·repeat' (first | (apply cw_ifT; (case hc => exact ev_a); (case ht => (simp only [Int.toNat_natCast, Int.reduceBEq, Int.reduceBNe, Int.reduceLT, Int.reduceLE, decide_true, decide_false, dcs, hs']; done))) | refine un_a ?_ | (refine st_a (fun K hK => ?_); and_intros; (all_goals first | (refine hK _ ?_; clear hK K) | exact auto_cl | skip)))
    rw [thenQ_normal]
    refine wk_loop 3 ?_ (by omega) (by decide)
    refine le_a [(1, some 1), (2, some 2)] ?_ ?_
    and_intros
    all_goals first | exact le_cl | skip
   ·repeat' (first | (apply cw_ifT; (case hc => exact ev_a); (case ht => (simp only [Int.toNat_natCast, Int.reduceBEq, Int.reduceBNe, Int.reduceLT, Int.reduceLE, decide_true, decide_false, dcs, hs']; done))) | refine un_a ?_ | (refine st_a (fun K hK => ?_); and_intros; (all_goals first | (refine hK _ ?_; clear hK K) | exact auto_cl | skip)))
    rw [thenQ_normal]
    refine wk_loop 4 ?_ (by omega) (by decide)
    refine le_a [(1, some 1), (2, some 2)] ?_ ?_
    and_intros
    all_goals first | exact le_cl | skip
   ·repeat' (first | (apply cw_ifT; (case hc => exact ev_a); (case ht => (simp only [Int.toNat_natCast, Int.reduceBEq, Int.reduceBNe, Int.reduceLT, Int.reduceLE, decide_true, decide_false, dcs, hs']; done))) | refine un_a ?_ | (refine st_a (fun K hK => ?_); and_intros; (all_goals first | (refine hK _ ?_; clear hK K) | exact auto_cl | skip)))
    rw [thenQ_normal]
    refine wk_loop 5 ?_ (by omega) (by decide)
    refine le_a [(1, some 1), (2, some 2)] ?_ ?_
    and_intros
    all_goals first | exact le_cl | skip
   ·repeat' (first | (apply cw_ifF; (case hc => exact ev_a); (case ht => (simp only [Int.toNat_natCast, Int.reduceBEq, Int.reduceBNe, Int.reduceLT, Int.reduceLE, decide_true, decide_false, dcs, hs']; done))) | refine un_a ?_ | (refine st_a (fun K hK => ?_); and_intros; (all_goals first | (refine hK _ ?_; clear hK K) | exact auto_cl | skip)) | (refine ret_a ?_; (try clear hB KB); (try clear hK K)))
    rfl
theorem imageAt_sp (m : Image) (x y : Int) (hF : Pure Sg 119 [ag (imageE m)] (fun r => r = .b (B (formedM m)))) : Pure Sg 156 [ag (imageE m), I x, I y] (fun r => r = .b (ag (pixE (imgAt m x y)))) := by
 unfold imgAt
 by_cases h : formedM m = false ∨ x < 0 ∨ m.w ≤ x ∨ y < 0 ∨ m.h ≤ y
 ·rw [if_pos h]
  have g : (!formedM m || decide (x < 0) || decide (x ≥ m.w) || decide (y < 0) || decide (y ≥ m.h)) = true := by
   simp only [Bool.or_eq_true, Bool.not_eq_true', decide_eq_true_eq]
   rcases h with h | h | h | h | h
   ·exact .inl (.inl (.inl (.inl h)))
   ·exact .inl (.inl (.inl (.inr h)))
   ·exact .inl (.inl (.inr h))
   ·exact .inl (.inr h)
   ·exact .inr h
  refine fn_a Tryz.func156 [.cell 6 52] ?_
  repeat' (first | refine dec_a g ?_ | refine un_a ?_ | ((first | refine st_a (fun K hK => ?_) | refine call_c (hF) ?_); and_intros; (all_goals first | (refine hK _ ?_; clear hK K) | exact auto_cl | skip)) | (refine ret_a ?_; (try clear hB KB); (try clear hK K)))
  rfl
 ·rw [if_neg h]
  have hf : formedM m = true := by
   rw [← Bool.not_eq_false]; exact fun q => h (.inl q)
  have hp := pixel_sp m x y hf (by omega) (by omega) (by omega) (by omega)
  rw [hf] at hF
  have g1 : decide (x < 0) = false := decide_eq_false (by omega)
  have g2 : decide (x ≥ m.w) = false := decide_eq_false (by omega)
  have g3 : decide (y < 0) = false := decide_eq_false (by omega)
  have g4 : decide (y ≥ m.h) = false := decide_eq_false (by omega)
  generalize pixelM m x y = p at *
  refine fn_a Tryz.func156 [.cell 6 52] ?_
  repeat' (first | refine dec_a (And.intro g1 (And.intro g2 (And.intro g3 g4))) ?_ | refine un_a ?_ | ((first | refine st_a (fun K hK => ?_) | refine call_c (hF) ?_ | refine call_c (hp) ?_); and_intros; (all_goals first | (refine hK _ ?_; clear hK K) | exact auto_cl | skip)) | (refine ret_a ?_; (try clear hB KB); (try clear hK K)))
  rfl
end Go.Proofs.YtlblgkelhibdoaaGreatDoor
