/- Part of the proof: what the other parts leave out. -/
import Derived.Test.YtlblgkelhibdoaaGreatDoorM0
import Derived.Test.YtlblgkelhibdoaaGreatDoorM1
import Derived.Test.YtlblgkelhibdoaaGreatDoorM2
import Derived.Test.YtlblgkelhibdoaaGreatDoorM3
import Derived.Test.YtlblgkelhibdoaaGreatDoorM4
import Derived.Test.YtlblgkelhibdoaaGreatDoorM5
import Derived.Test.YtlblgkelhibdoaaGreatDoorM6
import Derived.Test.YtlblgkelhibdoaaGreatDoorM7
import Derived.Test.YtlblgkelhibdoaaGreatDoorM9
import Derived.Test.YtlblgkelhibdoaaGreatDoorM10
import Derived.Test.YtlblgkelhibdoaaGreatDoorM11
import Derived.Test.YtlblgkelhibdoaaGreatDoorM12
import Derived.Test.YtlblgkelhibdoaaGreatDoorM13
import Derived.Test.YtlblgkelhibdoaaGreatDoorM14
import Derived.Test.YtlblgkelhibdoaaGreatDoorM18
import Derived.Test.YtlblgkelhibdoaaGreatDoorM19
import Derived.Test.YtlblgkelhibdoaaGreatDoorM20
import Derived.Test.YtlblgkelhibdoaaGreatDoorM21
import Derived.Test.YtlblgkelhibdoaaGreatDoorM22
import Derived.Test.YtlblgkelhibdoaaGreatDoorM23
import Derived.Test.YtlblgkelhibdoaaGreatDoorM24
import Derived.Test.YtlblgkelhibdoaaGreatDoorM25
import Derived.Test.YtlblgkelhibdoaaGreatDoorM26
import Derived.Test.YtlblgkelhibdoaaGreatDoorM27
import Derived.Test.YtlblgkelhibdoaaGreatDoorM28
import Derived.Test.YtlblgkelhibdoaaGreatDoorM29
import Derived.Test.YtlblgkelhibdoaaGreatDoorM30
import Derived.Test.YtlblgkelhibdoaaGreatDoorM31
import Derived.Test.YtlblgkelhibdoaaGreatDoorM32
import Derived.Test.YtlblgkelhibdoaaGreatDoorM33
import Derived.Test.YtlblgkelhibdoaaGreatDoorM34
import Derived.Test.YtlblgkelhibdoaaGreatDoorM35
import Derived.Test.YtlblgkelhibdoaaGreatDoorM36
import Derived.Test.YtlblgkelhibdoaaGreatDoorM37
import Derived.Test.YtlblgkelhibdoaaGreatDoorM38
import Derived.Test.YtlblgkelhibdoaaGreatDoorM39
import Derived.Test.YtlblgkelhibdoaaGreatDoorM40
import Derived.Test.YtlblgkelhibdoaaGreatDoorM41
import Derived.Test.YtlblgkelhibdoaaGreatDoorM43
set_option linter.unusedSimpArgs false
set_option linter.unusedVariables false
set_option maxHeartbeats 1000000
set_option maxRecDepth 16000
namespace Go.Proofs.YtlblgkelhibdoaaGreatDoor
open Go Go.SL
open Go.RowKit (wrap64)
theorem r13area_spec (r : Rect) : Pure Sg 36 [ag (rectE r)] (fun x => x = .b (I (areaR r))) := by
 refine fn_a Tryz.func36 [.tmp 2] ?_
 repeat' (first | ((first | refine st_a (fun K hK => ?_) | refine call_c (r13clean_spec _) ?_); and_intros; (all_goals first | (refine hK _ ?_; clear hK K) | exact auto_cl | skip)) | (refine ret_a ?_; (try clear hB KB); (try clear hK K)))
 rw [area_wrap]
end Go.Proofs.YtlblgkelhibdoaaGreatDoor
namespace Go.SL
open Go Go.ChangeShapes Go.WideShapes Go.ChangeAt Go.RowKit
section
variable {P : Program} {H : Type} {enc : TypeId × Value → H}
theorem trodAll_six {w : World} {base : Nat} {spare : Nat → Bool} {held : Bool} {t0 t1 t2 t3 t4 t5 : TypeId} {args : Array Value} {ds : List (DataW H)} {ps : List MemPlace} (h : DataW.TrodAll enc P w base spare held [t0, t1, t2, t3, t4, t5] args.toList ds ps) :
  ∃ v0 v1 v2 v3 v4 v5 d0 d1 d2 d3 d4 d5 p0 p1 p2 p3 p4 p5, args = #[v0, v1, v2, v3, v4, v5] ∧ ds = [d0, d1, d2, d3, d4, d5] ∧ ps = p0 ++ p1 ++ p2 ++ p3 ++ p4 ++ p5 ∧ DataW.Trod enc P w base spare held t0 v0 d0 p0 ∧ DataW.Trod enc P w base spare held t1 v1 d1 p1 ∧
   DataW.Trod enc P w base spare held t2 v2 d2 p2 ∧ DataW.Trod enc P w base spare held t3 v3 d3 p3 ∧ DataW.Trod enc P w base spare held t4 v4 d4 p4 ∧ DataW.Trod enc P w base spare held t5 v5 d5 p5 := by
 obtain ⟨v0, vs, d0, ds', p0, q, hargs, rfl, rfl, h0, hrest⟩ := trodAll_cons h
 obtain ⟨v1, vs1, d1, ds1, p1, q1, rfl, rfl, rfl, h1, hrest1⟩ := trodAll_cons hrest
 obtain ⟨v2, vs2, d2, ds2, p2, q2, rfl, rfl, rfl, h2, hrest2⟩ := trodAll_cons hrest1
 obtain ⟨v3, vs3, d3, ds3, p3, q3, rfl, rfl, rfl, h3, hrest3⟩ := trodAll_cons hrest2
 obtain ⟨v4, vs4, d4, ds4, p4, q4, rfl, rfl, rfl, h4, hrest4⟩ := trodAll_cons hrest3
 obtain ⟨v5, vs5, d5, ds5, p5, q5, rfl, rfl, rfl, h5, hrest5⟩ := trodAll_cons hrest4
 obtain ⟨rfl, rfl, rfl⟩ := trodAll_nil hrest5
 exact ⟨v0, v1, v2, v3, v4, v5, d0, d1, d2, d3, d4, d5, p0, p1, p2, p3, p4, p5, by cases args; simp_all, rfl, by simp, h0, h1, h2, h3, h4, h5⟩
end
end Go.SL
set_option maxHeartbeats 1000000
namespace Go.Proofs.YtlblgkelhibdoaaGreatDoor
theorem mem_dimageL {s : Script} {i : Int} {Q : Rect} : ∀ {n k : Nat}, k < n → ∀ r ∈ putsM s i Q (opAt s.ops k), r ∈ dimageL s i Q n
 | 0, k, h, _, _ => absurd h (Nat.not_lt_zero _)
 | n + 1, k, h, r, hr => by
  rw [dimageL]
  by_cases e : k = n
  ·subst e; exact List.mem_append_right _ hr
  ·exact List.mem_append_left _ (mem_dimageL (by omega) r hr)
theorem dimageL_inside {s : Script} {i : Int} {Q : Rect} : ∀ n, ∀ r ∈ dimageL s i Q n, inside s.canvas r
 | 0, r, h => by cases h
 | n + 1, r, h => by
  rw [dimageL] at h
  rcases List.mem_append.1 h with h | h
  ·exact dimageL_inside n r h
  ·unfold putsM at h
   rcases List.mem_append.1 h with h | h
   ·split at h
    ·rw [List.mem_singleton.1 h]; exact inside_isect inside_self
    ·cases h
   ·split at h
    ·rw [List.mem_singleton.1 h]; exact inside_isect inside_self
    ·cases h
theorem dimage_inside {s : Script} {i : Int} {R : Rect} : inside s.canvas (dimageM s i R).1 := by
 unfold dimageM
 split
 ·exact inside_zero
 split
 ·exact inside_zero
 ·exact hull_inside (dimageL_inside _)
theorem put_out {s : Script} {Q : Rect} {x y dx dy : Int} (hc : emptyR s.canvas = false) (hxy : inR s.canvas x y) (hQ : -16777216 ≤ Q.x0 ∧ -16777216 ≤ Q.y0 ∧ Q.x1 ≤ 16777216 ∧ Q.y1 ≤ 16777216)
  (hdx : -1048576 ≤ dx ∧ dx ≤ 1048576) (hdy : -1048576 ≤ dy ∧ dy ≤ 1048576) (h : ¬ inB (putR s Q dx dy) x y) : ¬ inB Q (x - dx) (y - dy) := fun ⟨h1, h2⟩ => by
 rcases isect_out h with q | q
 ·refine q ?_
  have h3 := empty_iff.1 h1
  have e : emptyR ⟨Q.x0 + dx, Q.y0 + dy, Q.x1 + dx, Q.y1 + dy⟩ = false := by
   rw [empty_iff]; dsimp only; omega
  have e2 : moveR Q dx dy = ⟨Q.x0 + dx, Q.y0 + dy, Q.x1 + dx, Q.y1 + dy⟩ := by
   unfold moveR cleanR
   rw [if_neg (by rw [h1]; simp; omega), e, if_neg (by decide)]
  rw [e2]
  refine ⟨e, ?_⟩
  unfold inR at *
  dsimp only
  omega
 ·exact q ⟨hc, hxy⟩
section
variable {s : Script} {m x y : Int}
theorem stAt_same (C : Pt s m x y) {z : Op → Pixel × Int} (h : ∀ i, i < s.ops.length → (opAt s.ops i).kind ≠ 3 → smpM s x y (opAt s.ops i) = z (opAt s.ops i)) : ∀ i, i ≤ s.ops.length → stAt m (smpM s x y) s.ops i = stAt m z s.ops i
 | 0, _ => by
  have e : ∀ w, stAt m w s.ops 0 = [base] := fun w => by
   unfold stAt runL
   rw [List.take_zero, List.foldl_nil]
  exact (e _).trans (e _).symm
 | i + 1, hi => by
  have ih := stAt_same C h i (by omega)
  have hil : i < s.ops.length := hi
  rw [stAt_succ hil, stAt_succ hil, ← ih]
  have ha := at_i C i (by omega)
  obtain ⟨t, r, e⟩ := ha.ne
  rw [e] at ha ⊢
  rcases C.V.wf.kinds i hil with k | k | k
  ·rw [stepL_draw k, stepL_draw k, h i hil (by omega)]
  ·rw [stepL_push k, stepL_push k]
  ·cases r with
   | nil =>
    unfold stepL
    have h1 : ¬ (opAt s.ops i).kind = 1 := by omega
    have h2 : ¬ (opAt s.ops i).kind = 2 := by omega
    simp only [if_neg h1, if_neg h2]
   | cons u r =>
    rw [stepL_pop k, stepL_pop k]
    have ho := ha.o
    cases hs : stk s.ops i with
    | nil => exact absurd hs (C.V.wf.pops i hil k)
    | cons g l =>
     rw [hs] at ho
     have e1 : t.op = opAt s.ops g := (List.cons.inj ho).1
     have hg : g < i := stk_lt (ops := s.ops) (by rw [hs]; exact List.mem_cons_self ..)
     have hgk : (opAt s.ops g).kind = 2 := stk_kind (i := i) (by rw [hs]; exact List.mem_cons_self ..)
     rw [e1, h g (by omega) (by omega)]
def withImg (s : Script) (k : Nat) (img : Image) : Script := { s with images := s.images.set k img }
theorem chg_value (C : Pt s m x y) {k : Nat} {img : Image} {R : Rect} (hk : k < s.images.length) (hw : (imgM s k).w ≤ 16777216) (hh : (imgM s k).h ≤ 16777216)
  (hpx : ∀ px py, ¬ inB (isect R ⟨0, 0, (imgM s k).w, (imgM s k).h⟩) px py → imgAt img px py = imgAt (imgM s k) px py) (h0 : (opsM s).1 = 0) (hq : ¬ inB (dimageM s k R).1 x y) :
  valueM s x y = valueM (withImg s k img) x y := by
 rw [dimageM, if_neg (by simp [h0]), if_neg (by omega)] at hq
 have hout := hull_out hq
 rw [Int.toNat_natCast] at hout
 have hQb : ∀ a : Rect, -16777216 ≤ (isect a ⟨0, 0, (imgM s k).w, (imgM s k).h⟩).x0 ∧ -16777216 ≤ (isect a ⟨0, 0, (imgM s k).w, (imgM s k).h⟩).y0 ∧ (isect a ⟨0, 0, (imgM s k).w, (imgM s k).h⟩).x1 ≤ 16777216 ∧ (isect a ⟨0, 0, (imgM s k).w, (imgM s k).h⟩).y1 ≤ 16777216 := fun a => by
  unfold isect
  split
  ·exact ⟨by show (-16777216 : Int) ≤ 0; omega, by show (-16777216 : Int) ≤ 0; omega, by show (0 : Int) ≤ 16777216; omega, by show (0 : Int) ≤ 16777216; omega⟩
  unfold cleanR
  split
  ·exact ⟨by show (-16777216 : Int) ≤ 0; omega, by show (-16777216 : Int) ≤ 0; omega, by show (0 : Int) ≤ 16777216; omega, by show (0 : Int) ≤ 16777216; omega⟩
  ·dsimp only; omega
 have eq : (⟨0, 0, (s.images.getD k default).w, (s.images.getD k default).h⟩ : Rect) = ⟨0, 0, (imgM s k).w, (imgM s k).h⟩ := by
  unfold imgM; rw [Int.toNat_natCast]
 rw [eq] at hout
 have hQ := hQb R
 generalize isect R ⟨0, 0, (imgM s k).w, (imgM s k).h⟩ = Q at *
 have near : ∀ dx dy, (-1048576 ≤ dx ∧ dx ≤ 1048576) → (-1048576 ≤ dy ∧ dy ≤ 1048576) → ¬ inB (putR s Q dx dy) x y → nearM (imgM s k) x y dx dy = nearM img x y dx dy := fun dx dy h1 h2 h3 => by
  unfold nearM
  split
  ·rfl
  ·exact (hpx _ _ (put_out C.c C.xy hQ h1 h2 h3)).symm
 have other : ∀ i : Int, 0 ≤ i → i ≠ k → imgM (withImg s k img) i = imgM s i := fun i h1 h2 => by
  unfold imgM withImg
  dsimp only
  rw [List.getD_eq_getElem?_getD, List.getD_eq_getElem?_getD, List.getElem?_set_ne (by omega)]
 have same : imgM (withImg s k img) k = img := by
  unfold imgM withImg
  dsimp only
  rw [Int.toNat_natCast, List.getD_eq_getElem?_getD, List.getElem?_set_self hk]; rfl
 have len : (withImg s k img).images.length = s.images.length := List.length_set
 have key : ∀ i, i < s.ops.length → (opAt s.ops i).kind ≠ 3 → smpM s x y (opAt s.ops i) = smpM (withImg s k img) x y (opAt s.ops i) := fun i hi hk3 => by
  obtain ⟨b0, b1, b2, b3, b4, b5, b6⟩ := fld_bd C hi hk3
  have hm := mem_dimageL (s := s) (i := k) (Q := Q) hi
  unfold smpM
  rw [len]
  refine Prod.ext ?_ ?_
  ·dsimp only
   by_cases c : (opAt s.ops i).kind = 1 ∧ 0 ≤ (opAt s.ops i).image ∧ (opAt s.ops i).image < s.images.length
   ·rw [if_pos c, if_pos c]
    by_cases e : (opAt s.ops i).image = k
    ·rw [e, same]
     refine near _ _ b3 b4 (hout _ (hm _ ?_))
     unfold putsM
     rw [if_pos ⟨c.1, e⟩]; simp
    ·rw [other _ c.2.1 e]
   ·rw [if_neg c, if_neg c]
  ·dsimp only
   by_cases c : 1 ≤ (opAt s.ops i).mask ∧ (opAt s.ops i).mask ≤ s.images.length
   ·rw [if_pos c, if_pos c]
    by_cases e : (opAt s.ops i).mask = k + 1
    ·have e2 : (opAt s.ops i).mask - 1 = k := by omega
     rw [e2, same]
     refine congrArg Pixel.a (near _ _ b5 b6 (hout _ (hm _ ?_)))
     unfold putsM
     rw [if_pos e]; simp
    ·rw [other _ (by omega) (by omega)]
   ·rw [if_neg c, if_neg c]
 have e := stAt_same C key s.ops.length (Nat.le_refl _)
 unfold stAt at e
 rw [List.take_length] at e
 unfold valueM
 rw [C.mx]
 have mx2 : maxOf (withImg s k img).bits = m := C.mx
 rw [mx2, e]; rfl
end
end Go.Proofs.YtlblgkelhibdoaaGreatDoor
set_option maxHeartbeats 4000000
set_option maxRecDepth 16000
namespace Go.Proofs.YtlblgkelhibdoaaGreatDoor
open Go Go.SL
open Go.RowKit (wrap64)
attribute [local go_sem] Int.toNat_natCast
def pxF (m : Image) (a : Nat) : Pixel := pixelM m ((a % m.w.toNat : Nat) : Int) ((a / m.w.toNat : Nat) : Int)
def pxL (m : Image) (n : Nat) : List Pixel := (List.range n).map (pxF m)
theorem pxL_len {m : Image} {n : Nat} : (pxL m n).length = n := by simp [pxL]
theorem pxL_next {m : Image} {n : Nat} : pxL m (n + 1) = pxL m n ++ [pxF m n] := by simp [pxL, List.range_succ]
theorem pxL_at {m : Image} {n a : Nat} (h : a < n) : (pxL m n).getD a default = pxF m a := by simp [pxL, h]
theorem pxF_at {m : Image} {W a k : Nat} (hW : m.w.toNat = W) (hk : k < W) : pxF m (a * W + k) = pixelM m k a := by
 unfold pxF
 rw [hW, Nat.mul_comm a W, Nat.mul_add_mod, Nat.mod_eq_of_lt hk, Nat.mul_add_div (by omega), Nat.div_eq_of_lt hk, Nat.add_zero]
theorem row_col {a b c d W : Nat} (hb : b < W) (hd : d < W) (h : a * W + b = c * W + d) : a = c ∧ b = d := by
 have h1 : (a * W + b) / W = a := by rw [Nat.mul_comm, Nat.mul_add_div (by omega), Nat.div_eq_of_lt hb, Nat.add_zero]
 have h2 : (c * W + d) / W = c := by rw [Nat.mul_comm, Nat.mul_add_div (by omega), Nat.div_eq_of_lt hd, Nat.add_zero]
 have h3 : a = c := by rw [← h1, h, h2]
 subst h3
 exact ⟨rfl, by omega⟩
def idxR (W x0 y0 rw i : Nat) : Nat := (y0 + i / rw) * W + x0 + i % rw
def setL (W x0 y0 rw : Nat) (l o : List Pixel) : Nat → List Pixel
 | 0 => o
 | i + 1 => (setL W x0 y0 rw l o i).set (idxR W x0 y0 rw i) (l.getD i default)
section
variable {W x0 y0 rw : Nat} {l o : List Pixel}
theorem setL_len : ∀ i, (setL W x0 y0 rw l o i).length = o.length
 | 0 => rfl
 | i + 1 => by rw [setL, List.length_set, setL_len i]
theorem setL_off {a : Nat} : ∀ i, (∀ k, k < i → idxR W x0 y0 rw k ≠ a) → (setL W x0 y0 rw l o i).getD a default = o.getD a default
 | 0, _ => rfl
 | i + 1, h => by
  rw [setL, List.getD_eq_getElem?_getD, List.getElem?_set_ne (h i (Nat.lt_succ_self i)), ← List.getD_eq_getElem?_getD]
  exact setL_off i fun k hk => h k (Nat.lt_succ_of_lt hk)
theorem setL_all {P : Pixel → Prop} (ho : ∀ p ∈ o, P p) (hl : ∀ i, i < l.length → P (l.getD i default)) : ∀ i, i ≤ l.length → ∀ p ∈ setL W x0 y0 rw l o i, P p
 | 0, _ => ho
 | i + 1, h => fun p hp => by
  rcases List.mem_or_eq_of_mem_set hp with q | q
  ·exact setL_all ho hl i (by omega) p q
  ·rw [q]; exact hl i (by omega)
end
def chgImg (m : Image) (r : Rect) (l : List Pixel) : Image := imageOf m.w m.h (setL m.w.toNat r.x0.toNat r.y0.toNat (r.x1 - r.x0).toNat l (pxL m (m.h.toNat * m.w.toNat)) l.length)
structure Part (m : Image) (r : Rect) : Prop where
 x0 : 0 ≤ r.x0
 x : r.x0 < r.x1
 x1 : r.x1 ≤ m.w
 y0 : 0 ≤ r.y0
 y : r.y0 < r.y1
 y1 : r.y1 ≤ m.h
section
variable {m : Image} {r : Rect} {l : List Pixel}
theorem formed_bd (hf : formedM m = true) : fitsM m.w m.h = true ∧ 1 ≤ m.w ∧ 1 ≤ m.h ∧ m.w ≤ 16777216 ∧ m.h ≤ 16777216 ∧ ((m.h.toNat * m.w.toNat : Nat) : Int) = m.w * m.h ∧ m.h.toNat * m.w.toNat ≤ 16777216 := by
 have : fitsM m.w m.h = true := by
  unfold formedM at hf
  rw [Bool.and_eq_true] at hf; exact hf.1
 obtain ⟨a, b, c, d, e, f⟩ := fits_bound this
 have h1 : ((m.h.toNat * m.w.toNat : Nat) : Int) = m.w * m.h := by
  rw [Int.natCast_mul, Int.toNat_of_nonneg (by omega), Int.toNat_of_nonneg (by omega), Int.mul_comm]
 exact ⟨this, a, b, e, f, h1, by omega⟩
theorem cimg_len (hf : formedM m = true) : ((setL m.w.toNat r.x0.toNat r.y0.toNat (r.x1 - r.x0).toNat l (pxL m (m.h.toNat * m.w.toNat)) l.length).length : Int) = m.w * m.h := by
 rw [setL_len, pxL_len]; exact (formed_bd hf).2.2.2.2.2.1
theorem cimg_v {mx : Int} (hm : ImgV m mx) (hl : ∀ i, i < l.length → PixV (l.getD i default) mx) : ImgV (chgImg m r l) mx := by
 obtain ⟨hfit, b1, b2, b3, b4, b5, b6⟩ := formed_bd hm.f
 refine imgv_of hfit (cimg_len hm.f) (setL_all (fun p hp => ?_) hl _ (Nat.le_refl _))
 obtain ⟨a, ha, rfl⟩ := List.mem_map.1 hp
 rw [List.mem_range] at ha
 have hW : 0 < m.w.toNat := by omega
 have h1 := Nat.mod_lt a hW
 have h2 : a / m.w.toNat < m.h.toNat := (Nat.div_lt_iff_lt_mul hW).2 ha
 exact hm.p _ _ (Int.natCast_nonneg _) (by omega) (Int.natCast_nonneg _) (by omega)
theorem cimg_at (hf : formedM m = true) (hr : Part m r) (hl : (l.length : Int) = (r.x1 - r.x0) * (r.y1 - r.y0)) (px py : Int) (hpx : ¬ inB (isect r ⟨0, 0, m.w, m.h⟩) px py) : imgAt (chgImg m r l) px py = imgAt m px py := by
 obtain ⟨hfit, b1, b2, b3, b4, b5, b6⟩ := formed_bd hf
 have hL := cimg_len (r := r) (l := l) hf
 obtain ⟨r1, r2, r3, r4, r5, r6⟩ := hr
 unfold imgAt
 rw [show formedM (chgImg m r l) = true from formed_of hfit hL, hf, show (chgImg m r l).w = m.w from rfl, show (chgImg m r l).h = m.h from rfl]
 by_cases c : true = false ∨ px < 0 ∨ m.w ≤ px ∨ py < 0 ∨ m.h ≤ py
 ·rw [if_pos c, if_pos c]
 rw [if_neg c, if_neg c]
 obtain ⟨X, hX⟩ : ∃ X : Nat, px = X := ⟨px.toNat, by omega⟩
 obtain ⟨Y, hY⟩ : ∃ Y : Nat, py = Y := ⟨py.toNat, by omega⟩
 obtain ⟨hi, e⟩ := pix_of hL (x := px) (y := py) (by omega) (by omega) (by omega) (by omega)
 have ei : (py * m.w + px).toNat = Y * m.w.toNat + X := by
  rw [hX, hY, show m.w = ((m.w.toNat : Nat) : Int) by omega, ← Int.natCast_mul, ← Int.natCast_add, Int.toNat_natCast, Int.toNat_natCast]
 rw [setL_len, pxL_len, ei] at hi
 rw [show pixelM (chgImg m r l) px py = _ from e, ei, setL_off, pxL_at hi, pxF_at rfl (by omega), hX, hY]
 intro k hk he
 apply hpx
 have hw0 : 0 < (r.x1 - r.x0).toNat := by omega
 have h1 := Nat.mod_lt k hw0
 have h2 : k / (r.x1 - r.x0).toNat < (r.y1 - r.y0).toNat := by
  rw [Nat.div_lt_iff_lt_mul hw0]
  have : (((r.y1 - r.y0).toNat * (r.x1 - r.x0).toNat : Nat) : Int) = (r.x1 - r.x0) * (r.y1 - r.y0) := by
   rw [Int.natCast_mul, Int.toNat_of_nonneg (by omega), Int.toNat_of_nonneg (by omega), Int.mul_comm]
  omega
 have h0 := Int.natCast_nonneg (k / (r.x1 - r.x0).toNat)
 have h00 := Int.natCast_nonneg (k % (r.x1 - r.x0).toNat)
 unfold idxR at he
 rw [Nat.add_assoc] at he
 obtain ⟨e1, e2⟩ := row_col (by omega) (by omega) he
 have er : emptyR r = false := by rw [empty_iff]; omega
 have eq : emptyR (⟨0, 0, m.w, m.h⟩ : Rect) = false := by rw [empty_iff]; dsimp only; omega
 exact (isect_in er eq).2 ⟨by unfold inR; omega, by unfold inR; dsimp only; omega⟩
end
theorem rpixels_own (m : Image) (hf : formedM m = true) : PureOwn Sg 68 [ag (imageE m)] 52 5 (m.h.toNat * m.w.toNat) (fnOf pixE (pxL m (m.h.toNat * m.w.toNat))) := by
 have ht : True := trivial
 obtain ⟨hfit, b1, b2, b3, b4, b5, hb⟩ := formed_bd hf
 have hF := formedAll_sp m
 rw [hf] at hF
 obtain ⟨W, hW⟩ : ∃ W : Nat, m.w = W := ⟨m.w.toNat, by omega⟩
 obtain ⟨H, hH⟩ : ∃ H : Nat, m.h = H := ⟨m.h.toNat, by omega⟩
 have hp : ∀ a k, a < H → k < W → Pure Sg 120 [ag (imageE m), I (k : Nat), I (a : Nat)] (fun r => r = .b (ag (pixE (pxF m (a * W + k))))) := fun a k ha hk => by
  rw [pxF_at (by omega) hk]
  exact pixel_sp m k a hf (by omega) (by omega) (by omega) (by omega)
 rw [show m.w.toNat = W by omega, show m.h.toNat = H by omega] at hb ⊢
 have hle : ∀ a, a ≤ H → a * W ≤ 16777216 := fun a ha => Nat.le_trans (Nat.mul_le_mul ha (Nat.le_refl W)) hb
 refine own_of Tryz.func68 rfl (rs := [.tmp 2]) rfl rfl mixed (by decide +kernel) (Nat.le_of_ble_eq_true rfl) (argsLt_mem (by simp (maxSteps := 1000000) (disch := omega) only [go_sem])) ?_
 repeat' (first | with_reducible exact tr_a | refine dec_a ht ?_ | refine un_a ?_ | ((first | refine st_a (fun K hK => ?_) | refine rg_a ?_ | refine call_c (hF) ?_ | refine gcall_c (fun hg => hF) ?_); and_intros; (all_goals first | (refine hK _ ?_; clear hK K) | exact auto_cl | skip)) | ((first | apply cw_ite | apply cw_iteN); (case hf => rfl); (case hc => exact ev_a); (all_goals first | (intro hb; (try simp only [hbs] at hb)) | skip)) | exact atN_intro | (refine if_a (fun hb => ?_) (fun hb => ?_); all_goals try exact bad_a) | refine cw_blocks (fun KB hB => ?_) | (refine hB _ ?_; clear hB KB) | refine exit_by (S := Sg) (by assumption) ?_ | (refine ret_a ?_; (try clear hB KB); (try clear hK K)))
 refine cw_loop (X := Nat) (fun a => mkSt [(1, .b (.c (.ptr 0 0))), (3, .b (.c (.own 1 (a * W)))), (4, .b (I a))] [(0, .fix ((imageE m).map CV.p)), (1, .arr 52 5 (a * W) (fnOf pixE (pxL m (a * W))))] 2) (fun a => a ≤ H) (fun a => H - a) 0 ?_ ?_ ?_
 ·exact Nat.zero_le _
 ·refine le_a [(1, none)] ?_ ?_
  and_intros
  all_goals first | exact le_cl | skip
 intro a haH
 rcases Nat.lt_or_ge a H with ha | ha
 ·have g1 : decide ((a : Int) < m.h) = true := decide_eq_true (by omega)
  repeat' (first | with_reducible exact tr_a | refine dec_a g1 ?_ | refine un_a ?_ | ((first | refine st_a (fun K hK => ?_) | refine rg_a ?_); and_intros; (all_goals first | (refine hK _ ?_; clear hK K) | exact auto_cl | skip)) | ((first | apply cw_ite | apply cw_iteN); (case hf => rfl); (case hc => exact ev_a); (all_goals first | (intro hb; (try simp only [hbs] at hb)) | skip)) | exact atN_intro | (refine if_a (fun hb => ?_) (fun hb => ?_); all_goals try exact bad_a) | refine cw_blocks (fun KB hB => ?_) | (refine hB _ ?_; clear hB KB) | refine exit_by (S := Sg) (by assumption) ?_ | (refine ret_a ?_; (try clear hB KB); (try clear hK K)))
  refine cw_loop (X := Nat) (fun k => mkSt [(1, .b (.c (.ptr 0 0))), (3, .b (.c (.own 1 (a * W + k)))), (4, .b (I a)), (5, .b (I k))] [(0, .fix ((imageE m).map CV.p)), (1, .arr 52 5 (a * W + k) (fnOf pixE (pxL m (a * W + k))))] 2) (fun k => k ≤ W) (fun k => W - k) 0 ?_ ?_ ?_
  ·exact Nat.zero_le _
  ·refine le_a [(1, some 1)] ?_ ?_
   and_intros
   all_goals first | exact le_cl | skip
  intro k hkW
  have hb1 := hle (a + 1) (by omega)
  rw [Nat.succ_mul] at hb1
  rcases Nat.lt_or_ge k W with hk | hk
  ·have g2 : decide ((k : Int) < m.w) = true := decide_eq_true (by omega)
   have hv := hp a k ha hk
   generalize hq : pxF m (a * W + k) = q at *
   repeat' (first | with_reducible exact tr_a | refine dec_a g2 ?_ | refine un_a ?_ | ((first | refine st_a (fun K hK => ?_) | refine rg_a ?_ | refine call_c (hv) ?_ | refine gcall_c (fun hg => hv) ?_); and_intros; (all_goals first | (refine hK _ ?_; clear hK K) | exact auto_cl | skip)) | ((first | apply cw_ite | apply cw_iteN); (case hf => rfl); (case hc => exact ev_a); (all_goals first | (intro hb; (try simp only [hbs] at hb)) | skip)) | exact atN_intro | (refine if_a (fun hb => ?_) (fun hb => ?_); all_goals try exact bad_a) | refine cw_blocks (fun KB hB => ?_) | (refine hB _ ?_; clear hB KB) | refine exit_by (S := Sg) (by assumption) ?_ | (refine ret_a ?_; (try clear hB KB); (try clear hK K)))
   rw [thenQ_normal]
   refine wk_loop (k + 1) ?_ (by omega) (by omega)
   have key := fun g hg => arr_push (enc := pixE) (xs := pxL m (a * W + k)) (x := q) (s := 5) (g := g) hg
   simp only [pxL_len] at key
   have e : pxL m (a * W + (k + 1)) = pxL m (a * W + k) ++ [q] := by rw [← hq]; exact pxL_next
   refine le_a [(1, some 3)] ?_ ?_
   and_intros
   all_goals first | exact le_cl | skip
   ·refine .inr fun i hi j hj => ?_
    rw [e]
    refine key _ (fun j hj => ?_) i hi j hj
    have : j = 0 ∨ j = 1 ∨ j = 2 ∨ j = 3 ∨ j = 4 := by omega
    rcases this with rfl | rfl | rfl | rfl | rfl <;> rfl
  ·have g2 : decide ((k : Int) < m.w) = false := decide_eq_false (by omega)
   repeat' (first | with_reducible exact tr_a | refine dec_a g2 ?_ | refine un_a ?_ | ((first | refine st_a (fun K hK => ?_) | refine rg_a ?_); and_intros; (all_goals first | (refine hK _ ?_; clear hK K) | exact auto_cl | skip)) | ((first | apply cw_ite | apply cw_iteN); (case hf => rfl); (case hc => exact ev_a); (all_goals first | (intro hb; (try simp only [hbs] at hb)) | skip)) | exact atN_intro | (refine if_a (fun hb => ?_) (fun hb => ?_); all_goals try exact bad_a) | refine cw_blocks (fun KB hB => ?_) | (refine hB _ ?_; clear hB KB) | refine exit_by (S := Sg) (by assumption) ?_ | (refine ret_a ?_; (try clear hB KB); (try clear hK K)))
   rw [thenQ_normal]
   refine wk_loop (a + 1) ?_ (by omega) (by omega)
   have hkW2 : k = W := by omega
   have e2 : a * W + k = (a + 1) * W := by rw [hkW2, Nat.succ_mul]
   rw [e2]
   refine le_a [(1, some 1)] ?_ ?_
   and_intros
   all_goals first | exact le_cl | skip
 ·have g1 : decide ((a : Int) < m.h) = false := decide_eq_false (by omega)
  have : a = H := by omega
  subst this
  repeat' (first | with_reducible exact tr_a | refine dec_a g1 ?_ | refine un_a ?_ | ((first | refine st_a (fun K hK => ?_) | refine rg_a ?_); and_intros; (all_goals first | (refine hK _ ?_; clear hK K) | exact auto_cl | skip)) | ((first | apply cw_ite | apply cw_iteN); (case hf => rfl); (case hc => exact ev_a); (all_goals first | (intro hb; (try simp only [hbs] at hb)) | skip)) | exact atN_intro | (refine if_a (fun hb => ?_) (fun hb => ?_); all_goals try exact bad_a) | refine cw_blocks (fun KB hB => ?_) | (refine hB _ ?_; clear hB KB) | refine exit_by (S := Sg) (by assumption) ?_ | (refine ret_a ?_; (try clear hB KB); (try clear hK K)))
  refine ⟨_, rfl, fun i hi j hj => ?_⟩
  have hivl : j = 0 ∨ j = 1 ∨ j = 2 ∨ j = 3 ∨ j = 4 := by omega
  rcases hivl with rfl | rfl | rfl | rfl | rfl <;> exact ⟨_, rfl, rfl⟩
end Go.Proofs.YtlblgkelhibdoaaGreatDoor
set_option maxHeartbeats 4000000
set_option maxRecDepth 16000
namespace Go.Proofs.YtlblgkelhibdoaaGreatDoor
open Go Go.SL
open Go.RowKit (wrap64)
attribute [local go_sem] Int.toNat_natCast
theorem part_empty {m : Image} {r : Rect} (hf : formedM m = true) (h : Part m r) : emptyR r = false ∧ coversR ⟨0, 0, m.w, m.h⟩ r = true ∧ areaR r = (r.x1 - r.x0) * (r.y1 - r.y0) := by
 obtain ⟨hfit, b1, b2, b3, b4, b5, b6⟩ := formed_bd hf
 obtain ⟨r1, r2, r3, r4, r5, r6⟩ := h
 have e : emptyR r = false := by rw [empty_iff]; omega
 have e2 : emptyR (⟨0, 0, m.w, m.h⟩ : Rect) = false := by rw [empty_iff]; dsimp only; omega
 refine ⟨e, ?_, by rw [areaR, e, if_neg (by decide)]⟩
 rw [coversR, e, e2]
 simp only [Bool.false_or, Bool.not_false, Bool.true_and, Bool.and_eq_true, decide_eq_true_eq]
 omega
theorem idx_lt {W H x0 y0 rw rh i : Nat} (h1 : x0 + rw ≤ W) (h2 : y0 + rh ≤ H) (hi : i < rh * rw) (hw : 0 < rw) : i / rw < rh ∧ i % rw < rw ∧ idxR W x0 y0 rw i < H * W := by
 have a := Nat.mod_lt i hw
 have b : i / rw < rh := (Nat.div_lt_iff_lt_mul hw).2 hi
 refine ⟨b, a, ?_⟩
 have c : (y0 + i / rw + 1) * W ≤ H * W := Nat.mul_le_mul (by omega) (Nat.le_refl W)
 rw [Nat.succ_mul] at c
 unfold idxR
 omega
theorem idx_wrap {y x W q p n : Nat} (hq : q ≤ 16777216) (hy : y ≤ 16777216) (hx : x ≤ 16777216) (hp : p ≤ 16777216) (h : (y + q) * W + x + p < n) (hn : n ≤ 16777216) :
  IntKind.i64.wrap (IntKind.i64.wrap (IntKind.i64.wrap (IntKind.i64.wrap ((y : Int) + IntKind.i64.wrap (q : Int)) * (W : Int)) + (x : Int)) + (p : Int)) = (((y + q) * W + x + p : Nat) : Int) := by
 rw [w64' (n := (q : Int)) (by omega) (by omega), ← Int.natCast_add, w64' (n := ((y + q : Nat) : Int)) (by omega) (by omega), ← Int.natCast_mul, w64' (n := (((y + q) * W : Nat) : Int)) (by omega) (by omega), ← Int.natCast_add,
  w64' (n := (((y + q) * W + x : Nat) : Int)) (by omega) (by omega), ← Int.natCast_add, w64' (n := (((y + q) * W + x + p : Nat) : Int)) (by omega) (by omega)]
theorem replace_sp (m : Image) (r : Rect) (l : List Pixel) (hf : formedM m = true) (hr : Part m r) (hl : (l.length : Int) = (r.x1 - r.x0) * (r.y1 - r.y0)) :
  Pure Sg 34 [ag (imageE m), ag (rectE r), .c (.p (pixL l))] (fun q => q = .tup [ag (imageE (chgImg m r l)), I 0]) := by
 have ht : True := trivial
 obtain ⟨hfit, b1, b2, b3, b4, b5, hb⟩ := formed_bd hf
 obtain ⟨e1, e2, e3⟩ := part_empty hf hr
 have s1 := r13fits_spec m.w m.h
 have s2 := formed_sp m
 have hff := hf
 rw [show formedM m = (fitsM m.w m.h && formedP m) from rfl, Bool.and_eq_true] at hff
 have s3 := r13empty_spec r
 have s4 := rcoversR_spec ⟨0, 0, m.w, m.h⟩ r
 have s5 := r13area_spec r
 have s6 := rpixels_own m hf
 rw [hff.1] at s1
 rw [hff.2] at s2
 rw [e1] at s3
 rw [e2] at s4
 rw [e3, ← hl] at s5
 have hL := cimg_len (r := r) (l := l) hf
 have s7 := imageOf_spec m.w m.h (setL m.w.toNat r.x0.toNat r.y0.toNat (r.x1 - r.x0).toNat l (pxL m (m.h.toNat * m.w.toNat)) l.length) (by rw [setL_len, pxL_len]; omega)
 have hok : imageOk m.w m.h (setL m.w.toNat r.x0.toNat r.y0.toNat (r.x1 - r.x0).toNat l (pxL m (m.h.toNat * m.w.toNat)) l.length).length = true := by
  rw [imageOk, hfit, decide_eq_true hL]; rfl
 have hck : chgImg m r l = imageOfM m.w m.h (setL m.w.toNat r.x0.toNat r.y0.toNat (r.x1 - r.x0).toNat l (pxL m (m.h.toNat * m.w.toNat)) l.length) := by
  rw [imageOfM, if_pos hok]; rfl
 rw [hok, ← hck] at s7
 generalize chgImg m r l = img at *
 obtain ⟨r1, r2, r3, r4, r5, r6⟩ := hr
 obtain ⟨rx, hrx⟩ : ∃ v : Nat, r.x0 = v := ⟨r.x0.toNat, by omega⟩
 obtain ⟨ry, hry⟩ : ∃ v : Nat, r.y0 = v := ⟨r.y0.toNat, by omega⟩
 obtain ⟨W, hW⟩ : ∃ v : Nat, m.w = v := ⟨m.w.toNat, by omega⟩
 obtain ⟨H, hH⟩ : ∃ v : Nat, m.h = v := ⟨m.h.toNat, by omega⟩
 obtain ⟨w, hw⟩ : ∃ v : Nat, r.x1 - r.x0 = v := ⟨(r.x1 - r.x0).toNat, by omega⟩
 obtain ⟨h, hh⟩ : ∃ v : Nat, r.y1 - r.y0 = v := ⟨(r.y1 - r.y0).toNat, by omega⟩
 have hl2 : l.length = h * w := by
  have : (l.length : Int) = ((h * w : Nat) : Int) := by rw [hl, hw, hh, Int.natCast_mul, Int.mul_comm]
  omega
 rw [hrx] at hw
 simp only [hrx, hry, hW, hH, hw, Int.toNat_natCast] at s6 s7 hb
 have hlb : h * w ≤ H * W := Nat.mul_le_mul (by omega) (by omega)
 have hn : (pxL m (H * W)).length = H * W := pxL_len
 have hsl : ∀ i, (setL W rx ry w l (pxL m (H * W)) i).length = H * W := fun i => by rw [setL_len, pxL_len]
 generalize pxL m (H * W) = o at *
 refine fn_a Tryz.func34 [.cell 6 71, .tmp 7] ?_
 have g0 : ((l.length : Int) != l.length) = false := bne_self_eq_false _
 repeat' (first | with_reducible exact tr_a | refine dec_a g0 ?_ | refine un_a ?_ | ((first | refine st_a (fun K hK => ?_) | refine rg_a ?_ | refine call_c (s1) ?_ | refine gcall_c (fun hg => s1) ?_ | refine call_c (s2) ?_ | refine gcall_c (fun hg => s2) ?_ | refine call_c (s3) ?_ | refine gcall_c (fun hg => s3) ?_ | refine call_c (s4) ?_ | refine gcall_c (fun hg => s4) ?_ | refine call_c (s5) ?_ | refine gcall_c (fun hg => s5) ?_ | refine call_o (s6) ?_); and_intros; (all_goals first | (refine hK _ ?_; clear hK K) | exact auto_cl | skip)) | ((first | apply cw_ite | apply cw_iteN); (case hf => rfl); (case hc => exact ev_a); (all_goals first | (intro hb; (try simp only [hbs] at hb)) | skip)) | exact atN_intro | (refine if_a (fun hb => ?_) (fun hb => ?_); all_goals try exact bad_a) | refine cw_blocks (fun KB hB => ?_) | (refine hB _ ?_; clear hB KB) | refine exit_by (S := Sg) (by assumption) ?_ | (refine ret_a ?_; (try clear hB KB); (try clear hK K)))
 refine cw_loop (X := Nat) (fun i => mkSt [(2, .b (.c (.p (pixL l)))), (3, .b (.c (.ptr 0 0))), (4, .b (.c (.ptr 1 0))), (6, .b (.c (.ptr 2 0))), (8, .b (.c (.own 3 (H * W)))), (9, .b (I i))]
  [(0, .fix ((imageE m).map CV.p)), (1, .fix ((rectE r).map CV.p)), (2, .fix (List.replicate 28 (.p .any))), (3, .arr 52 5 (H * W) (fnOf pixE (setL W rx ry w l o i)))] 4) (fun i => i ≤ l.length) (fun i => l.length - i) 0 ?_ ?_ ?_
 ·exact Nat.zero_le _
 ·refine le_a [(1, some 1), (2, some 2), (3, some 3)] ?_ ?_
  and_intros
  all_goals first | exact le_cl | skip
 intro i hi
 rcases Nat.lt_or_ge i l.length with hil | hge
 ·have g1 : decide ((i : Int) < l.length) = true := decide_eq_true (by omega)
  obtain ⟨c1, c2, c3⟩ := idx_lt (W := W) (H := H) (x0 := rx) (y0 := ry) (rw := w) (rh := h) (i := i) (by omega) (by omega) (by omega) (by omega)
  have hix : IntKind.i64.wrap (IntKind.i64.wrap (IntKind.i64.wrap (IntKind.i64.wrap (r.y0 + IntKind.i64.wrap ((i : Int) / (r.x1 - r.x0))) * m.w) + r.x0) + (i : Int) % (r.x1 - r.x0)) = ((idxR W rx ry w i : Nat) : Int) := by
   rw [hrx, hry, hW, hw, ← Int.natCast_ediv, ← Int.natCast_emod]
   exact idx_wrap (by omega) (by omega) (by omega) (by omega) c3 hb
  repeat' (first | with_reducible exact tr_a | refine dec_a g1 ?_ | ((first | ((with_reducible refine cw_stepDK (id := 12) [(58, 1), (64, 1), (67, 1), (76, 3), (78, 2)] (by decide +kernel) (by decide +kernel) ?_ (fun K hK => ?_)); (first | (refine And.intro (fun iw hiw => ?_) ?_; (focus ((try simp (maxSteps := 1000000) (disch := omega) only [go_sem] at hiw ⊢); (repeat (refine Eq.trans (if_neg ?_) ?_; (focus omega))); exact hw iw (by omega))); (focus (first | exact Nat.zero_le _ | (simp (maxSteps := 1000000) (disch := omega) only [go_sem]; done) | (simp (maxSteps := 1000000) (disch := omega) only [go_sem]; omega)))) | exact wf_a)) | ((with_reducible refine cw_lastDK (id := 12) [(58, 1), (64, 1), (67, 1), (76, 3), (78, 2)] (by decide +kernel) (by decide +kernel) ?_ (fun K hK => ?_)); (first | (refine And.intro (fun iw hiw => ?_) ?_; (focus ((try simp (maxSteps := 1000000) (disch := omega) only [go_sem] at hiw ⊢); (repeat (refine Eq.trans (if_neg ?_) ?_; (focus omega))); exact hw iw (by omega))); (focus (first | exact Nat.zero_le _ | (simp (maxSteps := 1000000) (disch := omega) only [go_sem]; done) | (simp (maxSteps := 1000000) (disch := omega) only [go_sem]; omega)))) | exact wf_a))); (try simp (maxSteps := 1000000) (disch := omega) only [go_sem]); and_intros; (all_goals first | (refine hK _ (by simp (maxSteps := 1000000) (disch := omega) only [go_sem]) ?_; clear hK K) | exact auto_cl | skip)) | refine un_a ?_ | ((first | refine st_a (fun K hK => ?_) | refine rg_a ?_); and_intros; (all_goals first | (refine hK _ ?_; clear hK K) | exact auto_cl | skip)) | ((first | apply cw_ite | apply cw_iteN); (case hf => rfl); (case hc => exact ev_a); (all_goals first | (intro hb; (try simp only [hbs] at hb)) | skip)) | exact atN_intro | (refine if_a (fun hb => ?_) (fun hb => ?_); all_goals try exact bad_a) | refine cw_blocks (fun KB hB => ?_) | (refine hB _ ?_; clear hB KB) | refine exit_by (S := Sg) (by assumption) ?_ | (refine ret_a ?_; (try clear hB KB); (try clear hK K)))
  rw [thenQ_normal]
  refine wk_loop (i + 1) ?_ (by omega) (by omega)
  refine le_a [(1, some 1), (2, some 2), (3, some 3)] ?_ ?_
  and_intros
  all_goals first | exact le_cl | skip
  refine .inr fun a ha j hj => ?_
  rw [hix, Int.toNat_natCast]
  have hset : setL W rx ry w l o (i + 1) = (setL W rx ry w l o i).set (idxR W rx ry w i) (l.getD i default) := rfl
  by_cases e : a = idxR W rx ry w i
  ·have e2 : (setL W rx ry w l o (i + 1)).getD a default = l.getD i default := by
    rw [hset, e, List.getD_eq_getElem?_getD, List.getElem?_set_self (by rw [hsl]; exact c3)]; rfl
   rw [if_pos e, if_pos ⟨Nat.zero_le _, hj⟩]
   rw [e2]
   have hivl : j = 0 ∨ j = 1 ∨ j = 2 ∨ j = 3 ∨ j = 4 := by omega
   rcases hivl with rfl | rfl | rfl | rfl | rfl <;> exact PV.le_refl _
  ·have e2 : (setL W rx ry w l o (i + 1)).getD a default = (setL W rx ry w l o i).getD a default := by
    rw [hset, List.getD_eq_getElem?_getD, List.getElem?_set_ne (fun q => e q.symm), ← List.getD_eq_getElem?_getD]
   rw [if_neg e, e2]
   exact PV.le_refl _
 ·have g1 : decide ((i : Int) < l.length) = false := decide_eq_false (by omega)
  have hi2 : i = l.length := by omega
  subst hi2
  rw [← hW, ← hH] at s7
  repeat' (first | with_reducible exact tr_a | refine un_a ?_ | ((with_reducible refine cw_stepV (id := 9) (fun K hW => ?_)); (try simp (maxSteps := 1000000) (disch := omega) only [go_sem]); and_intros; (all_goals first | (refine hK _ ?_; clear hK K) | exact auto_cl | skip)) | ((first | refine st_a (fun K hK => ?_) | refine rg_a ?_); and_intros; (all_goals first | (refine hK _ ?_; clear hK K) | exact auto_cl | skip)) | ((first | apply cw_ite | apply cw_iteN); (case hf => rfl); (case hc => exact ev_a); (all_goals first | (intro hb; (try simp only [hbs] at hb)) | skip)) | exact atN_intro | (refine if_a (fun hb => ?_) (fun hb => ?_); all_goals try exact bad_a) | refine cw_blocks (fun KB hB => ?_) | (refine hB _ ?_; clear hB KB) | refine exit_by (S := Sg) (by assumption) ?_ | (refine ret_a ?_; (try clear hB KB); (try clear hK K)))
  refine hW _ (mkSt [(3, .b (.c (.ptr 0 0))), (6, .b (.c (.ptr 1 0))), (49, .b (B (decide ((l.length : Int) < l.length)))), (8, .b (.c (.p (pixL (setL W rx ry w l o l.length)))))] [(0, .fix ((imageE m).map CV.p)), (1, .fix (List.replicate 28 (.p .any)))] 2) ?_ ?_
  ·refine le_a [(1, some 2)] ?_ ?_
   and_intros
   all_goals first | exact le_cl | skip
   ·exact (hsl _).symm
   ·exact fun i hi j hj => PV.le_refl _
  clear hW
  repeat' (first | with_reducible exact tr_a | refine dec_a g1 ?_ | refine un_a ?_ | ((first | refine st_a (fun K hK => ?_) | refine rg_a ?_ | refine call_c (s7) ?_ | refine gcall_c (fun hg => s7) ?_); and_intros; (all_goals first | (refine hK _ ?_; clear hK K) | exact auto_cl | skip)) | ((first | apply cw_ite | apply cw_iteN); (case hf => rfl); (case hc => exact ev_a); (all_goals first | (intro hb; (try simp only [hbs] at hb)) | skip)) | exact atN_intro | (refine if_a (fun hb => ?_) (fun hb => ?_); all_goals try exact bad_a) | refine cw_blocks (fun KB hB => ?_) | (refine hB _ ?_; clear hB KB) | refine exit_by (S := Sg) (by assumption) ?_ | (refine ret_a ?_; (try clear hB KB); (try clear hK K)))
  rfl
end Go.Proofs.YtlblgkelhibdoaaGreatDoor
set_option maxHeartbeats 4000000
set_option maxRecDepth 16000
namespace Go.Proofs.YtlblgkelhibdoaaGreatDoor
open Go Go.SL
open Go.RowKit (wrap64)
structure N4 where
 a : Int
 b : Int
 c : Int
 d : Int
def n4E (n : N4) : List PV := [PI n.a, PI n.b, PI n.c, PI n.d]
attribute [local go_sem] Int.toNat_natCast n4E Int.sub_zero Int.zero_add
def partM (w h : Int) (n : N4) : Rect := ⟨n.a % w, n.b % h, n.a % w + 1 + n.c % (w - n.a % w), n.b % h + 1 + n.d % (h - n.b % h)⟩
theorem part_bd {w h : Int} (n : N4) (hw : 1 ≤ w) (hh : 1 ≤ h) : 0 ≤ (partM w h n).x0 ∧ (partM w h n).x0 < (partM w h n).x1 ∧ (partM w h n).x1 ≤ w ∧ 0 ≤ (partM w h n).y0 ∧ (partM w h n).y0 < (partM w h n).y1 ∧ (partM w h n).y1 ≤ h := by
 have a1 := Int.emod_nonneg n.a (show w ≠ 0 by omega)
 have a2 := Int.emod_lt_of_pos n.a (show 0 < w by omega)
 have b1 := Int.emod_nonneg n.b (show h ≠ 0 by omega)
 have b2 := Int.emod_lt_of_pos n.b (show 0 < h by omega)
 have c1 := Int.emod_nonneg n.c (show w - n.a % w ≠ 0 by omega)
 have c2 := Int.emod_lt_of_pos n.c (show 0 < w - n.a % w by omega)
 have d1 := Int.emod_nonneg n.d (show h - n.b % h ≠ 0 by omega)
 have d2 := Int.emod_lt_of_pos n.d (show 0 < h - n.b % h by omega)
 unfold partM
 dsimp only
 omega
theorem part_sp (w h : Int) (n : N4) (hw : 1 ≤ w ∧ w ≤ 16777216) (hh : 1 ≤ h ∧ h ≤ 16777216) : Pure Sg 33 [ag (rectE ⟨0, 0, w, h⟩), ag (n4E n)] (fun q => q = .b (ag (rectE (partM w h n)))) := by
 have ht : True := trivial
 have a1 := Int.emod_nonneg n.a (show w ≠ 0 by omega)
 have a2 := Int.emod_lt_of_pos n.a (show 0 < w by omega)
 have b1 := Int.emod_nonneg n.b (show h ≠ 0 by omega)
 have b2 := Int.emod_lt_of_pos n.b (show 0 < h by omega)
 have c1 := Int.emod_nonneg n.c (show w - n.a % w ≠ 0 by omega)
 have c2 := Int.emod_lt_of_pos n.c (show 0 < w - n.a % w by omega)
 have d1 := Int.emod_nonneg n.d (show h - n.b % h ≠ 0 by omega)
 have d2 := Int.emod_lt_of_pos n.d (show 0 < h - n.b % h by omega)
 have s1 := modp_spec n.a w (by omega) (by omega)
 have s2 := modp_spec n.b h (by omega) (by omega)
 have s3 := modp_spec n.c (w - n.a % w) (by omega) (by omega)
 have s4 := modp_spec n.d (h - n.b % h) (by omega) (by omega)
 unfold partM
 generalize n.c % (w - n.a % w) = u3 at *
 generalize n.d % (h - n.b % h) = u4 at *
 generalize n.a % w = u1 at *
 generalize n.b % h = u2 at *
 refine fn_a Tryz.func33 [.cell 4 32] ?_
 repeat' (first | with_reducible exact tr_a | refine dec_a ht ?_ | refine un_a ?_ | ((first | refine st_a (fun K hK => ?_) | refine rg_a ?_ | refine call_c (s1) ?_ | refine gcall_c (fun hg => s1) ?_ | refine call_c (s2) ?_ | refine gcall_c (fun hg => s2) ?_ | refine call_c (s3) ?_ | refine gcall_c (fun hg => s3) ?_ | refine call_c (s4) ?_ | refine gcall_c (fun hg => s4) ?_); and_intros; (all_goals first | (refine hK _ ?_; clear hK K) | exact auto_cl | skip)) | ((first | apply cw_ite | apply cw_iteN); (case hf => rfl); (case hc => exact ev_a); (all_goals first | (intro hb; (try simp only [hbs] at hb)) | skip)) | exact atN_intro | (refine if_a (fun hb => ?_) (fun hb => ?_); all_goals try exact bad_a) | refine cw_blocks (fun KB hB => ?_) | (refine hB _ ?_; clear hB KB) | refine exit_by (S := Sg) (by assumption) ?_ | (refine ret_a ?_; (try clear hB KB); (try clear hK K)))
 rfl
theorem gpx_len {r : Row} {N : Nat} {m : Int} : (gPixels r N m).length = N := by simp [gPixels]
theorem chgimg_sp (s : Script) (k : Nat) (hk : k < s.images.length) (hn : s.images.length ≤ 64) (n : N4) (r : Row) (hr : RowOk r) (hf : formedM (s.images.getD k default) = true)
  (hw : (s.images.getD k default).w ≤ 5) (hh : (s.images.getD k default).h ≤ 4) :
  Pure Sg 10 [ag (scriptE s), I k, ag (n4E n), ag (rowE r)] (fun q => q = .tup [ag (scriptE (withImg s k (chgImg (s.images.getD k default) (partM (s.images.getD k default).w (s.images.getD k default).h n)
   (gPixels r (areaR (partM (s.images.getD k default).w (s.images.getD k default).h n)).toNat (mostM s.bits))))), ag (rectE (partM (s.images.getD k default).w (s.images.getD k default).h n))]) := by
 have ht : True := trivial
 obtain ⟨hfit, b1, b2, b3, b4, b5, hb⟩ := formed_bd hf
 have hpb := part_bd n b1 b2
 have hP : Part (s.images.getD k default) (partM (s.images.getD k default).w (s.images.getD k default).h n) := ⟨hpb.1, hpb.2.1, hpb.2.2.1, hpb.2.2.2.1, hpb.2.2.2.2.1, hpb.2.2.2.2.2⟩
 obtain ⟨e1, e2, e3⟩ := part_empty hf hP
 have s1 := part_sp (s.images.getD k default).w (s.images.getD k default).h n ⟨b1, b3⟩ ⟨b2, b4⟩
 have s2 := r13area_spec (partM (s.images.getD k default).w (s.images.getD k default).h n)
 have ha : 0 ≤ areaR (partM (s.images.getD k default).w (s.images.getD k default).h n) ∧ areaR (partM (s.images.getD k default).w (s.images.getD k default).h n) ≤ 5 * 4 := by
  rw [e3]
  exact ⟨mul_nn (by omega) (by omega), mul_lr (by omega) (by omega) (by omega) (by omega)⟩
 have hmost : u16 (mostM s.bits) := by unfold mostM u16; split <;> omega
 have hbit : ∀ t : Bool, t = (s.bits == 16) → (if t = true then (65535 : Int) else 255) = mostM s.bits := fun t ht => by rw [ht, mostM]; simp
 have s3 := pixels_spec r (areaR (partM (s.images.getD k default).w (s.images.getD k default).h n)) (mostM s.bits) hr ha.1 (by omega) hmost
 have hlen : ((gPixels r (areaR (partM (s.images.getD k default).w (s.images.getD k default).h n)).toNat (mostM s.bits)).length : Int) = areaR (partM (s.images.getD k default).w (s.images.getD k default).h n) := by
  rw [gpx_len]; omega
 have hlen := hlen.trans e3
 have s4 := replace_sp (s.images.getD k default) (partM (s.images.getD k default).w (s.images.getD k default).h n) (gPixels r (areaR (partM (s.images.getD k default).w (s.images.getD k default).h n)).toNat (mostM s.bits)) hf hP hlen
 generalize gPixels r (areaR (partM (s.images.getD k default).w (s.images.getD k default).h n)).toNat (mostM s.bits) = L at *
 generalize chgImg (s.images.getD k default) (partM (s.images.getD k default).w (s.images.getD k default).h n) L = img at *
 generalize partM (s.images.getD k default).w (s.images.getD k default).h n = R at *
 generalize areaR R = A at *
 refine pure_le ?_
 refine fn_a Tryz.func10 [.cell 8 36, .cell 9 32] ?_
 repeat' (first | with_reducible exact tr_a | refine dec_a ht ?_ | refine un_a ?_ | ((with_reducible refine cw_stepV (id := 7) (fun K hW => ?_)); (try simp (maxSteps := 1000000) (disch := omega) only [go_sem]); and_intros; (all_goals first | (refine hK _ ?_; clear hK K) | exact auto_cl | skip)) | ((first | refine st_a (fun K hK => ?_) | refine rg_a ?_ | refine call_c (s1) ?_ | refine gcall_c (fun hg => s1) ?_); and_intros; (all_goals first | (refine hK _ ?_; clear hK K) | exact auto_cl | skip)) | ((first | apply cw_ite | apply cw_iteN); (case hf => rfl); (case hc => exact ev_a); (all_goals first | (intro hb; (try simp only [hbs] at hb)) | skip)) | exact atN_intro | (refine if_a (fun hb => ?_) (fun hb => ?_); all_goals try exact bad_a) | refine cw_blocks (fun KB hB => ?_) | (refine hB _ ?_; clear hB KB) | refine exit_by (S := Sg) (by assumption) ?_ | (refine ret_a ?_; (try clear hB KB); (try clear hK K)))
 refine hW _ (mkSt [(1, .b (I k)), (7, .b (.c (.ptr 1 0))), (8, .b (.c (.ptr 2 0))), (9, .b (.c (.ptr 3 0))), (10, .b (.c (.ptr 4 0))), (11, .b (.c (.ptr 5 0))), (12, .b (U (mostM s.bits))), (13, .b (.c (.ptr 6 0)))]
  [(0, .fix ((scriptE s).map CV.p)), (1, .fix ((rowE r).map CV.p)), (2, .fix (List.replicate 10 (.p .any))), (3, .fix (List.replicate 4 (.p .any))), (4, .fix ((imageE (s.images.getD k default)).map CV.p)), (5, .fix ((rectE R).map CV.p)),
   (6, .fix [.p (PI s.bits), .p (PI s.canvas.x0), .p (PI s.canvas.y0), .p (PI s.canvas.x1), .p (PI s.canvas.y1), .p (PI s.tileW), .p (PI s.tileH), .p (ints s.order), .own 7 s.images.length, .p (opL s.ops)]), (7, .arr 71 28 s.images.length (fnOf imageE s.images))] 8) ?_ ?_
 ·refine le_a [(1, some 2), (2, some 3), (3, some 4), (4, some 5), (5, some 6), (6, some 7), (7, some 8)] ?_ ?_
  and_intros
  all_goals first | exact le_cl | skip
  all_goals skip
 clear hW
 repeat' (first | with_reducible exact tr_a | ((first | ((with_reducible refine cw_stepDK (id := 8) [(35, 1), (48, 2)] (by decide +kernel) (by decide +kernel) ?_ (fun K hK => ?_)); (first | (refine And.intro (fun iw hiw => ?_) ?_; (focus ((try simp (maxSteps := 1000000) (disch := omega) only [go_sem] at hiw ⊢); (repeat (refine Eq.trans (if_neg ?_) ?_; (focus omega))); exact hw iw (by omega))); (focus (first | exact Nat.zero_le _ | (simp (maxSteps := 1000000) (disch := omega) only [go_sem]; done) | (simp (maxSteps := 1000000) (disch := omega) only [go_sem]; omega)))) | exact wf_a)) | ((with_reducible refine cw_lastDK (id := 8) [(35, 1), (48, 2)] (by decide +kernel) (by decide +kernel) ?_ (fun K hK => ?_)); (first | (refine And.intro (fun iw hiw => ?_) ?_; (focus ((try simp (maxSteps := 1000000) (disch := omega) only [go_sem] at hiw ⊢); (repeat (refine Eq.trans (if_neg ?_) ?_; (focus omega))); exact hw iw (by omega))); (focus (first | exact Nat.zero_le _ | (simp (maxSteps := 1000000) (disch := omega) only [go_sem]; done) | (simp (maxSteps := 1000000) (disch := omega) only [go_sem]; omega)))) | exact wf_a))); (try simp (maxSteps := 1000000) (disch := omega) only [go_sem]); and_intros; (all_goals first | (refine hK _ (by simp (maxSteps := 1000000) (disch := omega) only [go_sem]) ?_; clear hK K) | exact auto_cl | skip)) | refine un_a ?_ | ((first | refine st_a (fun K hK => ?_) | refine rg_a ?_ | refine call_c (s2) ?_ | refine gcall_c (fun hg => s2) ?_ | refine call_c (s3) ?_ | refine gcall_c (fun hg => s3) ?_ | refine call_c (s4) ?_ | refine gcall_c (fun hg => s4) ?_); and_intros; (all_goals first | (refine hK _ ?_; clear hK K) | exact auto_cl | skip)) | ((first | apply cw_ite | apply cw_iteN); (case hf => rfl); (case hc => exact ev_a); (all_goals first | (intro hb; (try simp only [hbs] at hb)) | skip)) | exact atN_intro | (refine if_a (fun hb => ?_) (fun hb => ?_); all_goals try exact bad_a) | refine cw_blocks (fun KB hB => ?_) | (refine hB _ ?_; clear hB KB) | refine exit_by (S := Sg) (by assumption) ?_ | (refine ret_a ?_; (try clear hB KB); (try clear hK K)))
 refine hK _ (by simp (maxSteps := 1000000) (disch := omega) only [go_sem]) ?_
 clear hK
 refine cw_stepR (id := 9) (.br 0 (.br 1 (.br 2 (.br 3 .leaf .nil) .nil) (.br 2 (.br 1 (.br 3 .leaf .nil) .nil) .nil)) .nil) (by decide +kernel) (by (first | (refine And.intro (fun iw hiw => ?_) ?_; (focus ((try simp (maxSteps := 1000000) (disch := omega) only [go_sem] at hiw ⊢); (repeat (refine Eq.trans (if_neg ?_) ?_; (focus omega))); exact hw iw (by omega))); (focus (first | exact Nat.zero_le _ | (simp (maxSteps := 1000000) (disch := omega) only [go_sem]; done) | (simp (maxSteps := 1000000) (disch := omega) only [go_sem]; omega)))) | exact wf_a)) (fun K0 hW => ?_)
 refine (fun (tl : ∀ st, Le st (mkSt [(8, .b (.c (.ptr 1 0))), (9, .b (.c (.ptr 2 0)))] [(0, .fix ((scriptE s).map CV.p)), (1, .fix [.p (PI s.bits), .p (PI s.canvas.x0), .p (PI s.canvas.y0), .p (PI s.canvas.x1), .p (PI s.canvas.y1), .p (PI s.tileW), .p (PI s.tileH), .p (ints s.order), .own 3 s.images.length, .p (opL s.ops)]),
  (2, .fix ((rectE R).map CV.p)), (3, .arr 71 28 s.images.length (fnOf imageE (s.images.set k img)))] 4) → K0 st) => ?_) (fun st hl => hW st _ hl ?_)
 ·clear hW
  repeat' (first | exact tree_nil | (refine tree_br (fun K' hK' => ?_) ?_) | (refine tree_leaf (tl _ ?_); clear tl) | (simp (maxSteps := 1000000) (disch := omega) only [go_sem]; and_intros; (all_goals first | (refine hK' _ ?_; clear hK' K') | trivial | omega | exact Nat.le_of_ble_eq_true rfl | exact auto_cl | skip)))
  all_goals
   refine le_a [(1, some 2), (2, some 3), (3, some 7)] ?_ ?_
   and_intros
   all_goals first | exact le_cl | skip
  all_goals
   refine .inr fun a ha j hj => ?_
   by_cases e : a = k
   ·have e2 : (s.images.set k img).getD a default = img := by rw [e, List.getD_eq_getElem?_getD, List.getElem?_set_self hk]; rfl
    rw [if_pos e, if_pos ⟨Nat.zero_le _, hj⟩, e2]
    have hivl : j = 0 ∨ j = 1 ∨ j = 2 ∨ j = 3 ∨ j = 4 ∨ j = 5 ∨ j = 6 ∨ j = 7 ∨ j = 8 ∨ j = 9 ∨ j = 10 ∨ j = 11 ∨ j = 12 ∨ j = 13 ∨ j = 14 ∨ j = 15 ∨ j = 16 ∨ j = 17 ∨ j = 18 ∨ j = 19 ∨ j = 20 ∨ j = 21 ∨ j = 22 ∨ j = 23 ∨ j = 24 ∨ j = 25 ∨ j = 26 ∨ j = 27 := by omega
    rcases hivl with rfl | rfl | rfl | rfl | rfl | rfl | rfl | rfl | rfl | rfl | rfl | rfl | rfl | rfl | rfl | rfl | rfl | rfl | rfl | rfl | rfl | rfl | rfl | rfl | rfl | rfl | rfl | rfl <;> exact PV.le_refl _
   ·have e2 : (s.images.set k img).getD a default = s.images.getD a default := by rw [List.getD_eq_getElem?_getD, List.getElem?_set_ne (fun q => e q.symm), ← List.getD_eq_getElem?_getD]
    rw [if_neg e, e2]
    exact PV.le_refl _
 clear hW
 repeat' (first | with_reducible exact tr_a | refine un_a ?_ | ((first | refine st_a (fun K hK => ?_) | refine rg_a ?_); and_intros; (all_goals first | (refine hK _ ?_; clear hK K) | exact auto_cl | skip)) | ((first | apply cw_ite | apply cw_iteN); (case hf => rfl); (case hc => exact ev_a); (all_goals first | (intro hb; (try simp only [hbs] at hb)) | skip)) | exact atN_intro | (refine if_a (fun hb => ?_) (fun hb => ?_); all_goals try exact bad_a) | refine cw_blocks (fun KB hB => ?_) | (refine hB _ ?_; clear hB KB) | refine exit_by (S := Sg) (by assumption) ?_ | (refine ret_a ?_; (try clear hB KB); (try clear hK K)))
 rw [show (withImg s k img).images.length = s.images.length from List.length_set]
 refine sle_tup ⟨ble_agg ?_, ble_agg ?_, trivial⟩
 ·simp only [List.map_cons, List.map_nil, cleL_cons, cleL_nil]
  and_intros
  all_goals first | exact .inl rfl | exact .inl trivial | exact .inr nil_le | trivial | skip
 ·simp only [List.map_cons, List.map_nil, cleL_cons, cleL_nil]
  and_intros
  all_goals first | exact .inl rfl | exact .inl trivial | exact .inr nil_le | trivial | skip
theorem of_with {c : Scene} {s : Script} (h : Of c s) {k : Nat} {img : Image} (hk : k < s.images.length) (hv : ImgV img (maxOf s.bits)) : Of c (withImg s k img) := by
 have hl : (withImg s k img).images.length = s.images.length := List.length_set
 refine ⟨h.b, h.cv, h.w, h.h, h.o, by rw [hl]; exact h.n1, by rw [hl]; exact h.n2, fun i h0 h1 => ?_, ⟨h.V.wf, fun i hi => ?_, by rw [hl]; exact h.V.imgs, h.V.cnt, ?_⟩, h.op⟩
 ·rw [hl] at h1
  show ImgV ((s.images.set k img).getD i.toNat default) (maxOf s.bits)
  rw [List.getD_eq_getElem?_getD]
  by_cases e : i.toNat = k
  ·rw [e, List.getElem?_set_self hk]; exact hv
  ·rw [List.getElem?_set_ne (fun q => e q.symm), ← List.getD_eq_getElem?_getD]
   exact h.im i h0 h1
 ·rw [hl]; exact h.V.ok i hi
 ·exact frame_of h.b h.cv h.w h.h h.o (by rw [hl]; have := h.n2; omega) (by have := h.V.cnt; exact this)
theorem gimage_sz (c : Scene) {k : Nat} (hk : k < (gScript c).images.length) : ((gScript c).images.getD k default).w ≤ 5 ∧ ((gScript c).images.getD k default).h ≤ 4 := by
 have hmem : (gScript c).images.getD k default ∈ gImages c := by
  rw [List.getD_eq_getElem?_getD, List.getElem?_eq_getElem hk]
  exact List.getElem_mem _
 generalize (gScript c).images.getD k default = q at hmem
 have hs := gCanvas_small c
 unfold gImages at hmem
 split at hmem
 ·rw [List.mem_singleton.1 hmem]
  show 1 + c.w % 5 ≤ 5 ∧ 1 + c.h % 4 ≤ 4
  omega
 ·unfold gImages0 at hmem
  obtain ⟨p, _, rfl⟩ := List.mem_map.1 hmem
  have := gW_le (p := p) hs
  unfold gImage
  split
  ·show gW p (gCanvas c) ≤ 5 ∧ gH p (gCanvas c) ≤ 4; omega
  ·show gW p (gCanvas c) ≤ 5 ∧ gH p (gCanvas c) ≤ 4; omega
theorem image_law (c : Scene) (hc : SceneOk c) (i : Int) (n : N4) (r : Row) (hr : RowOk r) (x y : Int) :
  Pure Sg 3 [ag (sceneE c), I i, ag (n4E n), ag (rowE r), I x, I y] (fun q => q = .b (B true)) := by
 have ht : True := trivial
 have hg := gscript_spec c hc
 have hgl := gScript_len c
 have hO := of_g c
 have hn1 := hO.n1
 have hn2 := hO.n2
 have hsm : Small (gScript c).canvas := gCanvas_small c
 have hcx : -6 ≤ (gScript c).canvas.x0 ∧ (gScript c).canvas.x0 ≤ 6 ∧ -6 ≤ (gScript c).canvas.y0 ∧ (gScript c).canvas.y0 ≤ 6 := by
  show -6 ≤ (gCanvas c).x0 ∧ (gCanvas c).x0 ≤ 6 ∧ -6 ≤ (gCanvas c).y0 ∧ (gCanvas c).y0 ≤ 6
  unfold gCanvas
  dsimp only
  omega
 have hmx : mostM (gScript c).bits = maxOf (gScript c).bits := by rw [most_g, maxOf_g]
 have hm0 : 0 ≤ maxOf (gScript c).bits := by rw [maxOf_g]; have := gMax_u c.bits; omega
 have hsz := fun k hk => gimage_sz c (k := k) hk
 generalize gScript c = s at *
 have k1 := Int.emod_nonneg i (show (s.images.length : Int) ≠ 0 by omega)
 have k2 := Int.emod_lt_of_pos i (show (0 : Int) < s.images.length by omega)
 obtain ⟨k, hk⟩ : ∃ k : Nat, i % s.images.length = k := ⟨(i % s.images.length).toNat, by omega⟩
 have sm := modp_spec i s.images.length (by omega) (by omega)
 rw [hk] at sm k2
 have hkl : k < s.images.length := by omega
 have hv : ImgV (s.images.getD k default) (maxOf s.bits) := by
  have := hO.im k (by omega) (by omega)
  rw [imgM, Int.toNat_natCast] at this
  exact this
 have hf := hv.f
 obtain ⟨z1, z2⟩ := hsz k hkl
 obtain ⟨hfit, b1, b2, b3, b4, b5, hb⟩ := formed_bd hf
 have hpb := part_bd n b1 b2
 have hP : Part (s.images.getD k default) (partM (s.images.getD k default).w (s.images.getD k default).h n) := ⟨hpb.1, hpb.2.1, hpb.2.2.1, hpb.2.2.2.1, hpb.2.2.2.2.1, hpb.2.2.2.2.2⟩
 obtain ⟨e1, e2, e3⟩ := part_empty hf hP
 have hch := chgimg_sp s k hkl (by omega) n r hr hf z1 z2
 have hlen : ((gPixels r (areaR (partM (s.images.getD k default).w (s.images.getD k default).h n)).toNat (mostM s.bits)).length : Int) = areaR (partM (s.images.getD k default).w (s.images.getD k default).h n) := by
  have : 0 ≤ areaR (partM (s.images.getD k default).w (s.images.getD k default).h n) := by rw [e3]; exact mul_nn (by omega) (by omega)
  rw [gpx_len]; omega
 have hlv : ∀ i, i < (gPixels r (areaR (partM (s.images.getD k default).w (s.images.getD k default).h n)).toNat (mostM s.bits)).length → PixV ((gPixels r (areaR (partM (s.images.getD k default).w (s.images.getD k default).h n)).toNat (mostM s.bits)).getD i default) (maxOf s.bits) := fun i hi => by
  have e : ∀ N, i < (gPixels r N (mostM s.bits)).length → (gPixels r N (mostM s.bits)).getD i default = gPix r (mostM s.bits) i := fun N hN => by
   have : i < N := by simpa [gPixels] using hN
   simp [gPixels, this]
  rw [e _ hi, hmx]
  exact gPix_v r i hm0
 have hlen := hlen.trans e3
 generalize gPixels r (areaR (partM (s.images.getD k default).w (s.images.getD k default).h n)).toNat (mostM s.bits) = L at *
 have hat := cimg_at hf hP hlen
 have hcv := cimg_v (r := partM (s.images.getD k default).w (s.images.getD k default).h n) hv hlv
 generalize chgImg (s.images.getD k default) (partM (s.images.getD k default).w (s.images.getD k default).h n) L = img at *
 generalize partM (s.images.getD k default).w (s.images.getD k default).h n = R at *
 have hT := of_with hO hkl hcv
 have e0 : (opsM s).1 = 0 := by rw [vops0 hO.V]
 have hdi := dimage_spec s hgl k R ⟨by omega, by omega⟩
 have hd2 : (dimageM s k R).2 = 0 := by
  unfold dimageM
  rw [if_neg (by simp [e0]), if_neg (by omega)]
 rw [hd2] at hdi
 have hin := pt_in hsm x y
 have hp := point_sp s.canvas x y hsm
 have hin2 := hin
 rw [hO.cv] at hin2
 have C := hO.pt (x := ptX s.canvas x) (y := ptY s.canvas y) (by rw [hO.cv]; exact hin2)
 have D := hT.pt (x := ptX s.canvas x) (y := ptY s.canvas y) (by rw [hO.cv]; exact hin2)
 have hbx : -20 ≤ s.canvas.x0 ∧ s.canvas.x1 ≤ 100 ∧ -20 ≤ s.canvas.y0 ∧ s.canvas.y1 ≤ 100 := by
  obtain ⟨q1, q2, q3, q4, _, _⟩ := hsm
  omega
 obtain ⟨i1, i2, i3, i4⟩ := hin
 have hv1 := value_pt s _ _ _ C (of_slen hO) ⟨by omega, by omega⟩ ⟨by omega, by omega⟩
 have hv2 := value_pt (withImg s k img) _ _ _ D (of_slen hT) ⟨by omega, by omega⟩ ⟨by omega, by omega⟩
 have hco := contains_sp (dimageM s k R).1 (ptX s.canvas x) (ptY s.canvas y)
 have hcs := rcoversR_spec s.canvas (dimageM s k R).1
 have hcov : coversR s.canvas (dimageM s k R).1 = true := by
  have h1 := inside_covers (small_empty hsm) (dimage_inside (s := s) (i := k) (R := R))
  cases he : emptyR (dimageM s k R).1 with
  | true => rw [coversR, he]; rfl
  | false =>
   rw [covers_isect he]
   rw [he, Bool.false_or] at h1
   exact h1
 rw [hcov] at hcs
 have hval : conB (dimageM s k R).1 (ptX s.canvas x) (ptY s.canvas y) = false → valueM s (ptX s.canvas x) (ptY s.canvas y) = valueM (withImg s k img) (ptX s.canvas x) (ptY s.canvas y) := fun h => by
  have em : imgM s (k : Int) = s.images.getD k default := by rw [imgM, Int.toNat_natCast]
  refine chg_value C hkl (R := R) (by rw [em]; omega) (by rw [em]; omega) (by rw [em]; exact hat) e0 fun q => ?_
  rw [con_iff.2 q] at h
  cases h
 have haw := awake31_spec
 refine fn_a Tryz.func3 [.tmp 12] ?_
 repeat' (first | with_reducible exact tr_a | refine dec_a ht ?_ | refine un_a ?_ | ((first | refine st_a (fun K hK => ?_) | refine rg_a ?_ | refine call_c (hg) ?_ | refine gcall_c (fun hg => hg) ?_ | refine call_c (sm) ?_ | refine gcall_c (fun hg => sm) ?_ | refine call_c (hch) ?_ | refine gcall_c (fun hg => hch) ?_ | refine call_c (hdi) ?_ | refine gcall_c (fun hg => hdi) ?_ | refine call_c (hp) ?_ | refine gcall_c (fun hg => hp) ?_ | refine call_c (haw) ?_ | refine gcall_c (fun hg => haw) ?_ | refine call_c (hcs) ?_ | refine gcall_c (fun hg => hcs) ?_ | refine call_c (hco) ?_ | refine gcall_c (fun hg => hco) ?_ | refine call_c (hv1) ?_ | refine gcall_c (fun hg => hv1) ?_ | refine call_c (hv2) ?_ | refine gcall_c (fun hg => hv2) ?_); and_intros; (all_goals first | (refine hK _ ?_; clear hK K) | exact auto_cl | skip)) | ((first | apply cw_ite | apply cw_iteN); (case hf => rfl); (case hc => exact ev_a); (all_goals first | (intro hb; (try simp only [hbs] at hb)) | skip)) | exact atN_intro | (refine if_a (fun hb => ?_) (fun hb => ?_); all_goals try exact bad_a) | refine cw_blocks (fun KB hB => ?_) | (refine hB _ ?_; clear hB KB) | refine exit_by (S := Sg) (by assumption) ?_ | (refine ret_a ?_; (try clear hB KB); (try clear hK K)))
 refine congrArg (fun b => SV.b (B b)) (?_ : _ = true)
 cases hcb : conB (dimageM s k R).1 (ptX s.canvas x) (ptY s.canvas y) with
 | true => rfl
 | false =>
  rw [hval hcb]
  simp only [beq_self_eq_true, Bool.and_self, Bool.true_and, Bool.false_or]
end Go.Proofs.YtlblgkelhibdoaaGreatDoor
set_option maxRecDepth 8000
namespace Go.Proofs.YtlblgkelhibdoaaGreatDoor
open Go Go.SL Go.ChangeShapes Go.WideShapes Go.ChangeAt Go.RowKit
theorem c_n4 : Cdc Sg.P 27 n4E (fun _ => True) := by
 refine Cdc.to (cdc_struct ?_ ?_ (cdcL_cons c_int rfl (cdcL_cons c_int rfl (cdcL_cons c_int rfl (cdcL_cons c_int rfl cdcL_nil))))) (fun (a, b, c, d, _) => (⟨a, b, c, d⟩ : N4)) (fun _ => rfl) ?_
 ·kernel_rfl
 ·kernel_rfl
 ·intro _ _
  trivial
end Go.Proofs.YtlblgkelhibdoaaGreatDoor
