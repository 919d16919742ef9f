/- Part of the proof: F1, F6, T1, T2. -/
import Derived.Test.YtlblgkelhibdoaaGreatDoorM4
set_option linter.unusedSimpArgs false
set_option maxRecDepth 16000
namespace Go.Proofs.YtlblgkelhibdoaaGreatDoor
open Go Go.SL
open Go.RowKit (wrap64)
def gMod (n k : Int) : Int := if k < 1 then 0 else n % k
theorem mod_fact (n k : Int) : (n.tmod k + k) % k = n % k := by
 rw [Int.add_emod_right, Int.tmod_def, Int.sub_mul_emod_self_left]
theorem mod_spec (n k : Int) (hk : k ≤ 4611686018427387904) :
  Pure Sg 9 [I n, I k] (fun r => r = .b (I (gMod n k))) := by
 refine fn_a Tryz.func9 [.tmp 4] ?_
 repeat first | refine un_a ?_ | ((first | refine st_a (fun K hK => ?_)); and_intros; (all_goals first | (refine hK _ ?_; clear hK K) | exact auto_cl | skip)) | fail
 refine cw_if (t := ?tt) ?hc ?h1 ?h2
 case hc => simp (maxSteps := 1000000) (disch := omega) only [go_sem]; rfl
 case h1 =>
  intro hb
  try simp only [decide_eq_true_eq, decide_eq_false_iff_not, beq_iff_eq, beq_eq_false_iff_ne, bne_iff_ne, bne_eq_false_iff_eq, ne_eq, Bool.not_eq_true, Bool.not_eq_false, Bool.not_true, Bool.not_false, Bool.not_eq_eq_eq_not, Int.not_lt, Int.not_le, gt_iff_lt, ge_iff_le, Bool.cond_eq_ite, Bool.if_false_right, Bool.if_true_left, Bool.and_eq_true, Bool.or_eq_true, Bool.and_eq_false_imp, Bool.or_eq_false_iff, Decidable.not_not] at hb
  repeat first | refine un_a ?_ | ((first | refine st_a (fun K hK => ?_)); and_intros; (all_goals first | (refine hK _ ?_; clear hK K) | exact auto_cl | skip)) | fail
  first | refine cw_rets ?_ | refine cw_ret ?_
  simp (maxSteps := 1000000) (disch := omega) only [go_sem]
  simp only [gMod, if_pos hb]
 case h2 =>
  intro hb
  try simp only [decide_eq_true_eq, decide_eq_false_iff_not, beq_iff_eq, beq_eq_false_iff_ne, bne_iff_ne, bne_eq_false_iff_eq, ne_eq, Bool.not_eq_true, Bool.not_eq_false, Bool.not_true, Bool.not_false, Bool.not_eq_eq_eq_not, Int.not_lt, Int.not_le, gt_iff_lt, ge_iff_le, Bool.cond_eq_ite, Bool.if_false_right, Bool.if_true_left, Bool.and_eq_true, Bool.or_eq_true, Bool.and_eq_false_imp, Bool.or_eq_false_iff, Decidable.not_not] at hb
  have hm1 := Int.tmod_lt_of_pos n (show 0 < k by omega)
  have hm2 := Int.lt_tmod_of_pos n (show 0 < k by omega)
  repeat first | refine un_a ?_ | ((first | refine st_a (fun K hK => ?_)); and_intros; (all_goals first | (refine hK _ ?_; clear hK K) | exact auto_cl | skip)) | fail
  first | refine cw_rets ?_ | refine cw_ret ?_
  simp (maxSteps := 1000000) (disch := omega) only [go_sem]
  rw [gMod, if_neg (by omega), mod_fact n k]
theorem modp_spec (n k : Int) (hk1 : 1 ≤ k) (hk : k ≤ 4611686018427387904) :
  Pure Sg 9 [I n, I k] (fun r => r = .b (I (n % k))) := by
 have h := mod_spec n k hk
 rwa [gMod, if_neg (by omega)] at h
def gAt (l : List Int) (i : Int) : Int := if i < 0 ∨ (l.length : Int) ≤ i then 0 else l.getD i.toNat 0
theorem at_spec (l : List Int) (i : Int) :
  Pure Sg 63 [.c (.p (ints l)), I i] (fun r => r = .b (I (gAt l i))) := by
 refine fn_a Tryz.func63 [.tmp 4] ?_
 repeat first | refine un_a ?_ | ((first | refine st_a (fun K hK => ?_)); and_intros; (all_goals first | (refine hK _ ?_; clear hK K) | exact auto_cl | skip)) | fail
 refine cw_if (t := ?tt) ?hc ?h1 ?h2
 case hc => simp (maxSteps := 1000000) (disch := omega) only [go_sem]; rfl
 case h1 =>
  intro hb
  try simp only [decide_eq_true_eq, decide_eq_false_iff_not, beq_iff_eq, beq_eq_false_iff_ne, bne_iff_ne, bne_eq_false_iff_eq, ne_eq, Bool.not_eq_true, Bool.not_eq_false, Bool.not_true, Bool.not_false, Bool.not_eq_eq_eq_not, Int.not_lt, Int.not_le, gt_iff_lt, ge_iff_le, Bool.cond_eq_ite, Bool.if_false_right, Bool.if_true_left, Bool.and_eq_true, Bool.or_eq_true, Bool.and_eq_false_imp, Bool.or_eq_false_iff, Decidable.not_not] at hb
  repeat first | refine un_a ?_ | ((first | refine st_a (fun K hK => ?_)); and_intros; (all_goals first | (refine hK _ ?_; clear hK K) | exact auto_cl | skip)) | fail
  first | refine cw_rets ?_ | refine cw_ret ?_
  simp (maxSteps := 1000000) (disch := omega) only [go_sem]
  rw [gAt, if_pos hb]
 case h2 =>
  intro hb
  try simp only [decide_eq_true_eq, decide_eq_false_iff_not, beq_iff_eq, beq_eq_false_iff_ne, bne_iff_ne, bne_eq_false_iff_eq, ne_eq, Bool.not_eq_true, Bool.not_eq_false, Bool.not_true, Bool.not_false, Bool.not_eq_eq_eq_not, Int.not_lt, Int.not_le, gt_iff_lt, ge_iff_le, Bool.cond_eq_ite, Bool.if_false_right, Bool.if_true_left, Bool.and_eq_true, Bool.or_eq_true, Bool.and_eq_false_imp, Bool.or_eq_false_iff, Decidable.not_not] at hb
  repeat first | refine un_a ?_ | ((first | refine st_a (fun K hK => ?_)); and_intros; (all_goals first | (refine hK _ ?_; clear hK K) | exact auto_cl | skip)) | fail
  first | refine cw_rets ?_ | refine cw_ret ?_
  simp (maxSteps := 1000000) (disch := omega) only [go_sem]
  rw [gAt, if_neg (by omega)]; rfl
def gMax (n : Int) : Int := if n % 3 = 2 then 65535 else 255
theorem max_spec (n : Int) :
  Pure Sg 27 [I n] (fun r => r = .b (U (gMax n))) := by
 refine fn_a Tryz.func27 [.tmp 2] ?_
 repeat first | refine un_a ?_ | ((first | refine st_a (fun K hK => ?_)); and_intros; (all_goals first | (refine hK _ ?_; clear hK K) | exact auto_cl | skip)) | fail
 refine call_eq (mod_spec n 3 (by omega)) (by simp (maxSteps := 1000000) (disch := omega) only [go_sem]) ?_
 try simp (maxSteps := 1000000) (disch := omega) only [go_sem]
 and_intros
 all_goals first | (refine hK _ ?_; clear hK K) | exact auto_cl | skip
 refine cw_if (t := ?tt) ?hc ?h1 ?h2
 case hc => simp (maxSteps := 1000000) (disch := omega) only [go_sem]; rfl
 case h1 =>
  intro hb
  try simp only [decide_eq_true_eq, decide_eq_false_iff_not, beq_iff_eq, beq_eq_false_iff_ne, bne_iff_ne, bne_eq_false_iff_eq, ne_eq, Bool.not_eq_true, Bool.not_eq_false, Bool.not_true, Bool.not_false, Bool.not_eq_eq_eq_not, Int.not_lt, Int.not_le, gt_iff_lt, ge_iff_le, Bool.cond_eq_ite, Bool.if_false_right, Bool.if_true_left, Bool.and_eq_true, Bool.or_eq_true, Bool.and_eq_false_imp, Bool.or_eq_false_iff, Decidable.not_not] at hb
  repeat first | refine un_a ?_ | ((first | refine st_a (fun K hK => ?_)); and_intros; (all_goals first | (refine hK _ ?_; clear hK K) | exact auto_cl | skip)) | fail
  first | refine cw_rets ?_ | refine cw_ret ?_
  simp (maxSteps := 1000000) (disch := omega) only [go_sem]
  simp [gMax, gMod] at hb ⊢
  omega
 case h2 =>
  intro hb
  try simp only [decide_eq_true_eq, decide_eq_false_iff_not, beq_iff_eq, beq_eq_false_iff_ne, bne_iff_ne, bne_eq_false_iff_eq, ne_eq, Bool.not_eq_true, Bool.not_eq_false, Bool.not_true, Bool.not_false, Bool.not_eq_eq_eq_not, Int.not_lt, Int.not_le, gt_iff_lt, ge_iff_le, Bool.cond_eq_ite, Bool.if_false_right, Bool.if_true_left, Bool.and_eq_true, Bool.or_eq_true, Bool.and_eq_false_imp, Bool.or_eq_false_iff, Decidable.not_not] at hb
  repeat first | refine un_a ?_ | ((first | refine st_a (fun K hK => ?_)); and_intros; (all_goals first | (refine hK _ ?_; clear hK K) | exact auto_cl | skip)) | fail
  first | refine cw_rets ?_ | refine cw_ret ?_
  simp (maxSteps := 1000000) (disch := omega) only [go_sem]
  simp [gMax, gMod] at hb ⊢
  omega
end Go.Proofs.YtlblgkelhibdoaaGreatDoor
set_option linter.unusedVariables false
set_option maxHeartbeats 1000000
set_option maxRecDepth 16000
namespace Go.Proofs.YtlblgkelhibdoaaGreatDoor
open Go Go.SL
open Go.RowKit (wrap64)
theorem bool_eq {a b : Bool} (h : a = true ↔ b = true) : SV.b (B a) = SV.b (B b) := by rw [Bool.eq_iff_iff.2 h]
def validR (r : Rect) : Bool := decide (-1073741824 ≤ r.x0 ∧ r.x0 ≤ 1073741824 ∧ -1073741824 ≤ r.y0 ∧ r.y0 ≤ 1073741824 ∧ -1073741824 ≤ r.x1 ∧ r.x1 ≤ 1073741824 ∧ -1073741824 ≤ r.y1 ∧ r.y1 ≤ 1073741824)
def emptyR (r : Rect) : Bool := !validR r || decide (r.x1 ≤ r.x0 ∨ r.y1 ≤ r.y0)
def cleanR (r : Rect) : Rect := if emptyR r = true then ⟨0, 0, 0, 0⟩ else r
def areaR (r : Rect) : Int := if emptyR r = true then 0 else (r.x1 - r.x0) * (r.y1 - r.y0)
theorem r13valid_spec (r : Rect) : Pure Sg 76 [ag (rectE r)] (fun x => x = .b (B (validR r))) := by
 refine fn_a Tryz.func76 [.tmp 2] ?_
 repeat' (first | (refine st_a (fun K hK => ?_); and_intros; (all_goals first | (refine hK _ ?_; clear hK K) | exact auto_cl | skip)) | (refine ret_a ?_; (try clear hB KB); (try clear hK K)))
 refine bool_eq ?_
 (try simp only [validR, Bool.and_eq_true, Bool.or_eq_true, Bool.not_eq_true', Bool.not_eq_false', decide_eq_true_eq, decide_eq_false_iff_not, ge_iff_le, gt_iff_lt, beq_iff_eq, bne_iff_ne, ne_eq, Bool.or_eq_false_iff, Bool.and_eq_false_imp, Bool.not_true, Bool.not_false])
 try omega
theorem r13empty_spec (r : Rect) : Pure Sg 42 [ag (rectE r)] (fun x => x = .b (B (emptyR r))) := by
 refine fn_a Tryz.func42 [.tmp 2] ?_
 repeat' (first | ((first | refine st_a (fun K hK => ?_) | refine call_c (r13valid_spec _) ?_); and_intros; (all_goals first | (refine hK _ ?_; clear hK K) | exact auto_cl | skip)) | (refine ret_a ?_; (try clear hB KB); (try clear hK K)))
 refine bool_eq ?_
 simp only [emptyR, Bool.or_eq_true, decide_eq_true_eq, ge_iff_le, or_assoc]
theorem r13clean_spec (r : Rect) : Pure Sg 70 [ag (rectE r)] (fun x => x = .b (ag (rectE (cleanR r)))) := by
 refine fn_a Tryz.func70 [.cell 2 32] ?_
 repeat' (first | refine un_a ?_ | ((first | refine st_a (fun K hK => ?_) | refine call_c (r13empty_spec _) ?_); and_intros; (all_goals first | (refine hK _ ?_; clear hK K) | exact auto_cl | skip)) | (refine if_a (fun hb => ?_) (fun hb => ?_); all_goals try exact bad_a) | (refine ret_a ?_; (try clear hB KB); (try clear hK K)))
 ·rw [cleanR, if_pos hb]; rfl
 ·rw [cleanR, if_neg (by simp [hb])]; rfl
theorem emptyR_false {r : Rect} (h : ¬ emptyR r = true) : -1073741824 ≤ r.x0 ∧ r.x0 < r.x1 ∧ r.x1 ≤ 1073741824 ∧ -1073741824 ≤ r.y0 ∧ r.y0 < r.y1 ∧ r.y1 ≤ 1073741824 := by
 simp only [emptyR, validR, Bool.or_eq_true, Bool.not_eq_true', decide_eq_true_eq, decide_eq_false_iff_not] at h
 omega
theorem area_wrap (r : Rect) : IntKind.i64.wrap (IntKind.i64.wrap ((cleanR r).x1 - (cleanR r).x0) * IntKind.i64.wrap ((cleanR r).y1 - (cleanR r).y0)) = areaR r := by
 by_cases h : emptyR r = true
 ·simp only [cleanR, areaR, if_pos h]; decide
 ·simp only [cleanR, areaR, if_neg h]
  have hb := emptyR_false h
  rw [w64' (n := r.x1 - r.x0) (by omega) (by omega), w64' (n := r.y1 - r.y0) (by omega) (by omega)]
  have h1 : (r.x1 - r.x0) * (r.y1 - r.y0) ≤ 2147483648 * 2147483648 := Int.mul_le_mul (by omega) (by omega) (by omega) (by omega)
  have h2 : 0 ≤ (r.x1 - r.x0) * (r.y1 - r.y0) := Int.mul_nonneg (by omega) (by omega)
  exact w64' (by omega) (by omega)
def fitsM (w h : Int) : Bool := decide (1 ≤ w ∧ 1 ≤ h ∧ w ≤ 16777216 ∧ h ≤ 16777216 / w)
theorem r13fits_spec (w h : Int) : Pure Sg 66 [I w, I h] (fun x => x = .b (B (fitsM w h))) := by
 refine fn_a Tryz.func66 [.tmp 4] ?_
 repeat' (first | (refine st_a (fun K hK => ?_); and_intros; (all_goals first | (refine hK _ ?_; clear hK K) | exact auto_cl | skip)) | (refine ret_a ?_; (try clear hB KB); (try clear hK K)))
 refine bool_eq ?_
 by_cases hw : 1 ≤ w
 ·have h1 : 0 ≤ 16777216 / w := Int.ediv_nonneg (by omega) (by omega)
  have h2 : 16777216 / w ≤ 16777216 := Int.ediv_le_self _ (by omega)
  rw [w64' (by omega) (by omega)]
  simp only [fitsM, Bool.and_eq_true, decide_eq_true_eq, ge_iff_le, and_assoc]
 ·simp [fitsM, hw]
theorem sampleMax_spec (b : Int) : Pure Sg 92 [I b] (fun x => x = .tup [U (if b = 8 then 255 else if b = 16 then 65535 else 0), B (decide (b = 8 ∨ b = 16))]) := by
 refine fn_a Tryz.func92 [.tmp 2, .tmp 3] ?_
 repeat' (first | refine un_a ?_ | (refine st_a (fun K hK => ?_); and_intros; (all_goals first | (refine hK _ ?_; clear hK K) | exact auto_cl | skip)) | (refine if_a (fun hb => ?_) (fun hb => ?_); all_goals try exact bad_a) | (refine ret_a ?_; (try clear hB KB); (try clear hK K)))
 ·subst hb; rfl
 ·subst hb; rfl
 ·rw [if_neg (by assumption), if_neg (by assumption), decide_eq_false (by omega)]
theorem r01max_spec (b : Int) : Pure Sg 77 [I b] (fun x => x = .tup [U (if b = 8 then 255 else if b = 16 then 65535 else 0), B (decide (b = 8 ∨ b = 16))]) := by
 refine fn_a Tryz.func77 [.tmp 2, .tmp 3] ?_
 repeat' (first | refine un_a ?_ | (refine st_a (fun K hK => ?_); and_intros; (all_goals first | (refine hK _ ?_; clear hK K) | exact auto_cl | skip)) | (refine if_a (fun hb => ?_) (fun hb => ?_); all_goals try exact bad_a) | (refine ret_a ?_; (try clear hB KB); (try clear hK K)))
 ·subst hb; rfl
 ·subst hb; rfl
 ·rw [if_neg (by assumption), if_neg (by assumption), decide_eq_false (by omega)]
theorem bvalid_spec (m : Int) : Pure Sg 155 [I m] (fun x => x = .b (B (decide (1 ≤ m ∧ m ≤ 12)))) := by
 refine fn_a Tryz.func155 [.tmp 2] ?_
 repeat' (first | (refine st_a (fun K hK => ?_); and_intros; (all_goals first | (refine hK _ ?_; clear hK K) | exact auto_cl | skip)) | (refine ret_a ?_; (try clear hB KB); (try clear hK K)))
 refine bool_eq ?_
 (try simp only [Bool.and_eq_true, Bool.or_eq_true, Bool.not_eq_true', Bool.not_eq_false', decide_eq_true_eq, decide_eq_false_iff_not, ge_iff_le, gt_iff_lt, beq_iff_eq, bne_iff_ne, ne_eq, Bool.or_eq_false_iff, Bool.and_eq_false_imp, Bool.not_true, Bool.not_false])
 try omega
theorem solid_spec (w h : Int) (p : Pixel) : Pure Sg 31 [I w, I h, ag (pixE p)] (fun x => x = .b (ag (imageE ⟨w, h, true, p, ⟨0, 0, 0, []⟩, ⟨0, 0, 0, []⟩, ⟨0, 0, 0, []⟩, ⟨0, 0, 0, []⟩, ⟨0, 0, 0, []⟩⟩))) := by
 refine pure_le ?_
 refine fn_a Tryz.func31 [.cell 6 71] ?_
 repeat' (first | (refine st_a (fun K hK => ?_); and_intros; (all_goals first | (refine hK _ ?_; clear hK K) | exact auto_cl | skip)) | (refine ret_a ?_; (try clear hB KB); (try clear hK K)))
 refine sle_b (ble_agg ?_)
 simp only [List.map_cons, List.map_nil, cleL_cons, cleL_nil]
 and_intros
 all_goals first | exact .inl rfl | exact .inl trivial | exact .inr nil_le | trivial | skip
end Go.Proofs.YtlblgkelhibdoaaGreatDoor
namespace Go.Proofs.YtlblgkelhibdoaaGreatDoor
def half (n d : Int) : Int := if d = 0 then 0 else if n % d ≥ d - n % d then n / d + 1 else n / d
theorem half_spec {n d : Int} (hd : 0 < d) : 2 * (d * half n d) ≤ 2 * n + d ∧ 2 * n < 2 * (d * half n d) + d := by
 have h1 := Int.mul_ediv_add_emod n d
 have h2 := Int.emod_nonneg n (show d ≠ 0 by omega)
 have h3 := Int.emod_lt_of_pos n hd
 unfold half
 rw [if_neg (by omega)]
 split
 ·rw [Int.mul_add, Int.mul_one]; omega
 ·omega
theorem half_uniq {n d k : Int} (hd : 0 < d) (h1 : 2 * (d * k) ≤ 2 * n + d) (h2 : 2 * n < 2 * (d * k) + d) : half n d = k := by
 obtain ⟨a1, a2⟩ := half_spec (n := n) hd
 rcases Int.lt_trichotomy (half n d) k with h | h | h
 ·have := Int.mul_le_mul_of_nonneg_left (show half n d + 1 ≤ k by omega) (Int.le_of_lt hd)
  rw [Int.mul_add, Int.mul_one] at this; omega
 ·exact h
 ·have := Int.mul_le_mul_of_nonneg_left (show k + 1 ≤ half n d by omega) (Int.le_of_lt hd)
  rw [Int.mul_add, Int.mul_one] at this; omega
theorem half_mono {n n' d : Int} (hd : 0 < d) (h : n ≤ n') : half n d ≤ half n' d := by
 obtain ⟨a1, a2⟩ := half_spec (n := n) hd
 obtain ⟨b1, b2⟩ := half_spec (n := n') hd
 refine Int.not_lt.1 fun q => ?_
 have := Int.mul_le_mul_of_nonneg_left (show half n' d + 1 ≤ half n d by omega) (Int.le_of_lt hd)
 rw [Int.mul_add, Int.mul_one] at this; omega
theorem half_mul {d k : Int} (hd : 0 < d) : half (d * k) d = k := half_uniq hd (by omega) (by omega)
theorem half_zero {d : Int} (hd : 0 < d) : half 0 d = 0 := by
 unfold half
 split
 ·rfl
 ·rw [Int.zero_emod, Int.zero_ediv, if_neg (by omega)]
theorem half_nonneg {n d : Int} (hd : 0 < d) (h : 0 ≤ n) : 0 ≤ half n d := by
 have := half_mono hd h
 rwa [half_zero hd] at this
theorem half_le {n d k : Int} (hd : 0 < d) (h : n ≤ d * k) : half n d ≤ k := by
 have := half_mono hd h
 rwa [half_mul hd] at this
structure Ex where
 p : Int
 q : Int
 r : Int
 d : Int
 deriving DecidableEq, Inhabited
def geX (x : Ex) (t n : Int) : Bool := decide (n * x.d ≤ t * x.p ∨ (n * x.d - t * x.p) * (n * x.d - t * x.p) ≤ t * x.q * (t * x.q) * x.r)
theorem sq_mono {a b : Int} (ha : 0 ≤ a) (h : a ≤ b) : a * a ≤ b * b := Int.mul_le_mul h h ha (by omega)
theorem sq_le {a b : Int} (hb : 0 ≤ b) (h : a * a ≤ b * b) : a ≤ b := by
 refine Int.not_lt.1 fun q => ?_
 have h1 := Int.mul_lt_mul_of_pos_left q (show 0 < a by omega)
 have h2 := Int.mul_le_mul_of_nonneg_right (Int.le_of_lt q) hb
 omega
theorem geX_mono {x : Ex} {t n n' : Int} (hd : 0 ≤ x.d) (h : geX x t n' = true) (hn : n ≤ n') : geX x t n = true := by
 simp only [geX, decide_eq_true_eq] at *
 have hm := Int.mul_le_mul_of_nonneg_right hn hd
 rcases h with h | h
 ·exact .inl (by omega)
 ·rcases Int.le_total (n * x.d) (t * x.p) with q | q
  ·exact .inl q
  ·exact .inr (Int.le_trans (sq_mono (by omega) (by omega)) h)
def bis (t : Int → Bool) : Nat → Int → Int
 | 0, n => n
 | i + 1, n => bis t i (if t (n + 2 ^ i) = true then n + 2 ^ i else n)
theorem bis_spec {t : Int → Bool} (hm : ∀ a b, a ≤ b → t b = true → t a = true) : ∀ (i : Nat) (n : Int), t n = true → t (n + 2 ^ i) = false → t (bis t i n) = true ∧ t (bis t i n + 1) = false ∧ n ≤ bis t i n ∧ bis t i n < n + 2 ^ i
 | 0, n, h1, h2 => ⟨h1, h2, Int.le_refl _, by show n < n + 2 ^ 0; rw [show (2 : Int) ^ 0 = 1 from rfl]; omega⟩
 | i + 1, n, h1, h2 => by
  have e : (2 : Int) ^ (i + 1) = 2 ^ i + 2 ^ i := by rw [Int.pow_succ]; omega
  have hp : (0 : Int) < 2 ^ i := Int.pow_pos (by decide)
  rw [e] at h2 ⊢
  rw [show bis t (i + 1) n = bis t i (if t (n + 2 ^ i) = true then n + 2 ^ i else n) from rfl]
  split
  ·rename_i h
   have := bis_spec hm i _ h (by rw [show n + 2 ^ i + 2 ^ i = n + (2 ^ i + 2 ^ i) by omega]; exact h2)
   exact ⟨this.1, this.2.1, by omega, by omega⟩
  ·rename_i h
   have := bis_spec hm i _ h1 (by simpa using h)
   exact ⟨this.1, this.2.1, by omega, by omega⟩
def floorX (x : Ex) : Int := bis (geX x 1) 63 0
def hx (x : Ex) : Int := if geX x 2 (2 * floorX x + 1) = true then floorX x + 1 else floorX x
structure ExOk (x : Ex) : Prop where
 p0 : 0 ≤ x.p
 p1 : x.p < 79228162514264337593543950336
 q0 : 0 ≤ x.q
 q1 : x.q < 70368744177664
 r0 : 0 ≤ x.r
 r1 : x.r < 8589934592
 d0 : 1 ≤ x.d
 d1 : x.d < 18446744073709551616
 b : geX x 1 4611686018427387904 = false
theorem floorX_spec {x : Ex} (h : ExOk x) : geX x 1 (floorX x) = true ∧ geX x 1 (floorX x + 1) = false ∧ 0 ≤ floorX x ∧ floorX x < 4611686018427387904 := by
 have hm : ∀ a b, a ≤ b → geX x 1 b = true → geX x 1 a = true := fun a b hab hb => geX_mono (by have := h.d0; omega) hb hab
 have h0 : geX x 1 0 = true := by
  have := h.p0
  simp only [geX, decide_eq_true_eq]; omega
 have h63 : geX x 1 (0 + 2 ^ 63) = false := by
  rw [← Bool.not_eq_true]
  intro q
  have := hm 4611686018427387904 _ (by decide) q
  rw [h.b] at this; cases this
 obtain ⟨a, b, c, d⟩ := bis_spec hm _ _ h0 h63
 refine ⟨a, b, c, Int.not_le.1 fun q => ?_⟩
 have := hm _ _ q a
 rw [h.b] at this; cases this
theorem hx_spec {x : Ex} (h : ExOk x) : geX x 2 (2 * hx x - 1) = true ∧ geX x 2 (2 * hx x + 1) = false ∧ 0 ≤ hx x := by
 obtain ⟨h1, h2, h3, h4⟩ := floorX_spec h
 have hd := h.d0
 have dbl : ∀ n, geX x 1 n = geX x 2 (2 * n) := fun n => by
  simp only [geX]
  congr 1
  refine propext ⟨fun q => ?_, fun q => ?_⟩
  ·rcases q with q | q
   ·exact .inl (by rw [Int.mul_assoc]; omega)
   ·refine .inr ?_
    have e1 : (2 * n * x.d - 2 * x.p) = 2 * (n * x.d - 1 * x.p) := by rw [Int.mul_assoc]; omega
    rw [e1]
    generalize n * x.d - 1 * x.p = u at *
    simp only [Int.one_mul] at q
    have e2 : 2 * u * (2 * u) = 4 * (u * u) := by grind
    have e3 : 2 * x.q * (2 * x.q) * x.r = 4 * (x.q * x.q * x.r) := by grind
    omega
  ·rcases q with q | q
   ·exact .inl (by rw [Int.mul_assoc] at q; omega)
   ·refine .inr ?_
    have e1 : (2 * n * x.d - 2 * x.p) = 2 * (n * x.d - 1 * x.p) := by rw [Int.mul_assoc]; omega
    rw [e1] at q
    generalize n * x.d - 1 * x.p = u at *
    simp only [Int.one_mul]
    have e2 : 2 * u * (2 * u) = 4 * (u * u) := by grind
    have e3 : 2 * x.q * (2 * x.q) * x.r = 4 * (x.q * x.q * x.r) := by grind
    omega
 rw [dbl] at h1 h2
 unfold hx
 split
 ·rename_i h5
  refine ⟨by rw [show 2 * (floorX x + 1) - 1 = 2 * floorX x + 1 by omega]; exact h5, ?_, by omega⟩
  rw [← Bool.not_eq_true]
  intro q
  have := geX_mono (by omega) q (show 2 * (floorX x + 1) ≤ 2 * (floorX x + 1) + 1 by omega)
  rw [h2] at this; cases this
 ·rename_i h5
  exact ⟨geX_mono (by omega) h1 (by omega), by simpa using h5, h3⟩
theorem hx_uniq {x : Ex} (h : ExOk x) {k : Int} (h1 : geX x 2 (2 * k - 1) = true) (h2 : geX x 2 (2 * k + 1) = false) : hx x = k := by
 obtain ⟨a1, a2, _⟩ := hx_spec h
 have hd := h.d0
 rcases Int.lt_trichotomy (hx x) k with q | q | q
 ·have := geX_mono (by omega) h1 (show 2 * hx x + 1 ≤ 2 * k - 1 by omega)
  rw [a2] at this; cases this
 ·exact q
 ·have := geX_mono (by omega) a1 (show 2 * k + 1 ≤ 2 * hx x - 1 by omega)
  rw [h2] at this; cases this
theorem hx_le {x : Ex} {n m : Int} (h : ExOk x) (hm : 0 < m) (h1 : x.p * m ≤ n * x.d) (h2 : x.q * x.q * x.r * (m * m) ≤ (n * x.d - x.p * m) * (n * x.d - x.p * m)) : hx x ≤ half n m := by
 obtain ⟨a1, _, a3⟩ := hx_spec h
 obtain ⟨b1, b2⟩ := half_spec (n := n) hm
 have hd := h.d0
 have key : (2 * hx x - 1) * m ≤ 2 * n := by
  simp only [geX, decide_eq_true_eq] at a1
  generalize hx x = k at *
  have dm : (2 * k - 1) * m * x.d ≤ 2 * n * x.d := by
   rcases a1 with a1 | a1
   ·have := Int.mul_le_mul_of_nonneg_right a1 (Int.le_of_lt hm)
    grind
   ·have e1 : ((2 * k - 1) * x.d - 2 * x.p) * m * (((2 * k - 1) * x.d - 2 * x.p) * m) = ((2 * k - 1) * x.d - 2 * x.p) * ((2 * k - 1) * x.d - 2 * x.p) * (m * m) := by grind
    have e2 := Int.mul_le_mul_of_nonneg_right a1 (Int.le_of_lt (Int.mul_pos hm hm))
    have e3 : 2 * (n * x.d - x.p * m) * (2 * (n * x.d - x.p * m)) = 4 * ((n * x.d - x.p * m) * (n * x.d - x.p * m)) := by grind
    have e4 : 2 * x.q * (2 * x.q) * x.r * (m * m) = 4 * (x.q * x.q * x.r * (m * m)) := by grind
    have e5 := sq_le (a := ((2 * k - 1) * x.d - 2 * x.p) * m) (b := 2 * (n * x.d - x.p * m)) (by omega) (by omega)
    grind
  exact Int.le_of_mul_le_mul_right dm (by omega)
 refine Int.not_lt.1 fun q => ?_
 have := Int.mul_le_mul_of_nonneg_left (show half n m + 1 ≤ hx x by omega) (Int.le_of_lt hm)
 rw [Int.mul_add, Int.mul_one] at this
 have e : (2 * hx x - 1) * m = 2 * (m * hx x) - m := by grind
 omega
end Go.Proofs.YtlblgkelhibdoaaGreatDoor
namespace Go.Proofs.YtlblgkelhibdoaaGreatDoor
def hardT (s a d b : Int) : Int := if 2 * s ≤ a then 2 * s * d else a * b - 2 * (b - d) * (a - s)
def softT (s a d b : Int) : Ex :=
 if b = 0 then ⟨0, 0, 0, 1⟩ else if 2 * s ≤ a then ⟨d * a * b - (a - 2 * s) * d * (b - d), 0, 0, b⟩
 else if 4 * d ≤ b then ⟨d * a * (b * b) + (2 * s - a) * d * (16 * d * d + 3 * b * b - 12 * d * b), 0, 0, b * b⟩ else ⟨2 * d * (a - s), 2 * s - a, d * b, 1⟩
def dodgeT (s a d b : Int) : Ex := if d = 0 then ⟨0, 0, 0, 1⟩ else if b * (a - s) ≤ d * a then ⟨a * b, 0, 0, 1⟩ else ⟨a * a * d, 0, 0, a - s⟩
def burnT (s a d b : Int) : Ex := if d = b then ⟨a * b, 0, 0, 1⟩ else if s * b ≤ (b - d) * a then ⟨0, 0, 0, 1⟩ else ⟨a * b * s - (b - d) * a * a, 0, 0, s⟩
def blendX (mode s a d b : Int) : Ex :=
 if mode = 1 then ⟨s * b, 0, 0, 1⟩ else if mode = 2 then ⟨s * d, 0, 0, 1⟩ else if mode = 3 then ⟨s * b + d * a - s * d, 0, 0, 1⟩
 else if mode = 4 then ⟨hardT d b s a, 0, 0, 1⟩ else if mode = 5 then ⟨min (s * b) (d * a), 0, 0, 1⟩ else if mode = 6 then ⟨max (s * b) (d * a), 0, 0, 1⟩
 else if mode = 7 then dodgeT s a d b else if mode = 8 then burnT s a d b else if mode = 9 then ⟨hardT s a d b, 0, 0, 1⟩ else if mode = 10 then softT s a d b
 else if mode = 11 then ⟨max (s * b) (d * a) - min (s * b) (d * a), 0, 0, 1⟩ else ⟨s * b + d * a - 2 * s * d, 0, 0, 1⟩
def facA (op a b m : Int) : Int :=
 if op = 2 ∨ op = 4 then m else if op = 5 ∨ op = 8 ∨ op = 11 ∨ op = 12 then m - b else if op = 6 ∨ op = 10 then b else 0
def facB (op a b m : Int) : Int :=
 if op = 3 ∨ op = 5 then m else if op = 4 ∨ op = 9 ∨ op = 10 ∨ op = 12 then m - a else if op = 7 ∨ op = 11 then a else 0
def valueX (op mode m cs sl cb ab : Int) : Ex :=
 ⟨(blendX mode cs sl cb ab).p * facA op sl ab m + (m - ab) * cs * facA op sl ab m * (blendX mode cs sl cb ab).d + facB op sl ab m * cb * m * (blendX mode cs sl cb ab).d,
  facA op sl ab m * (blendX mode cs sl cb ab).q, (blendX mode cs sl cb ab).r, m * m * (blendX mode cs sl cb ab).d⟩
def colorM (op mode m cs sl cb ab : Int) : Int := hx (valueX op mode m cs sl cb ab)
def alphaM (op a b m : Int) : Int := half (facA op a b m * a + facB op a b m * b) m
def shapeM (op f g m : Int) : Int :=
 if op = 2 ∨ op = 8 ∨ op = 11 then f else if op = 3 ∨ op = 9 ∨ op = 10 then g else if op = 4 ∨ op = 5 ∨ op = 12 then half (m * f + (m - f) * g) m
 else if op = 6 ∨ op = 7 then half (f * g) m else 0
def knockX (mode m cs sl fs c cb ab : Int) : Ex :=
 ⟨(blendX mode cs sl cb ab).p + ((m - fs) * c + (fs - sl) * cb + (m - ab) * cs) * (blendX mode cs sl cb ab).d, (blendX mode cs sl cb ab).q, (blendX mode cs sl cb ab).r, m * (blendX mode cs sl cb ab).d⟩
def knockC (mode m cs sl fs c cb ab : Int) : Int := hx (knockX mode m cs sl fs c cb ab)
def knockA (m a f acc b : Int) : Int := half ((m - f) * acc + (f - a) * b + m * a) m
structure Full (m : Int) : Prop where
 h : m = 255 ∨ m = 65535
theorem Full.pos {m : Int} (h : Full m) : 0 < m := by rcases h.h with q | q <;> omega
theorem Full.le {m : Int} (h : Full m) : m ≤ 65535 := by rcases h.h with q | q <;> omega
structure Pre (s a m : Int) : Prop where
 s0 : 0 ≤ s
 sa : s ≤ a
 am : a ≤ m
structure TermOk (x : Ex) (a b : Int) : Prop where
 p0 : 0 ≤ x.p
 q0 : 0 ≤ x.q
 q1 : x.q ≤ 65535
 r0 : 0 ≤ x.r
 r1 : x.r ≤ 4294836225
 d0 : 1 ≤ x.d
 d1 : x.d ≤ 4294836225
 le : x.p ≤ a * b * x.d
 sq : x.q * x.q * x.r ≤ (a * b * x.d - x.p) * (a * b * x.d - x.p)
theorem mul_nn {a b : Int} (ha : 0 ≤ a) (hb : 0 ≤ b) : 0 ≤ a * b := Int.mul_nonneg ha hb
theorem mul_lr {a b c d : Int} (h1 : a ≤ c) (h2 : b ≤ d) (h3 : 0 ≤ b) (h4 : 0 ≤ c) : a * b ≤ c * d := Int.mul_le_mul h1 h2 h3 h4
theorem sq_nn (a : Int) : 0 ≤ a * a := by
 rcases Int.le_total 0 a with h | h
 ·exact Int.mul_nonneg h h
 ·exact Int.mul_nonneg_of_nonpos_of_nonpos h h
theorem term_plain {p a b : Int} (h0 : 0 ≤ p) (h1 : p ≤ a * b) : TermOk ⟨p, 0, 0, 1⟩ a b :=
 ⟨h0, Int.le_refl _, by dsimp only; omega, Int.le_refl _, by dsimp only; omega, by dsimp only; omega, by dsimp only; omega, by rw [Int.mul_one]; exact h1, by simpa using sq_nn _⟩
theorem term_frac {p d a b : Int} (hd : 1 ≤ d) (hd1 : d ≤ 4294836225) (h0 : 0 ≤ p) (h1 : p ≤ a * b * d) : TermOk ⟨p, 0, 0, d⟩ a b :=
 ⟨h0, Int.le_refl _, by dsimp only; omega, Int.le_refl _, by dsimp only; omega, hd, hd1, h1, by simpa using sq_nn _⟩
theorem hard_ok {s a d b : Int} (hs : 0 ≤ s) (hsa : s ≤ a) (hd : 0 ≤ d) (hdb : d ≤ b) : 0 ≤ hardT s a d b ∧ hardT s a d b ≤ a * b := by
 unfold hardT
 split
 ·have h1 : 0 ≤ s * d := mul_nn hs hd
  have h2 : 2 * s * d ≤ a * b := mul_lr (by omega) hdb hd (by omega)
  have e : 2 * s * d = 2 * (s * d) := by grind
  omega
 ·have h1 : 0 ≤ (b - d) * (a - s) := mul_nn (by omega) (by omega)
  have h2 : (b - d) * (2 * (a - s)) ≤ b * a := mul_lr (by omega) (by omega) (by omega) (by omega)
  have e : 2 * (b - d) * (a - s) = 2 * ((b - d) * (a - s)) := by grind
  have e2 : (b - d) * (2 * (a - s)) = 2 * ((b - d) * (a - s)) := by grind
  have e3 : b * a = a * b := Int.mul_comm _ _
  omega
theorem term_dodge {s a d b : Int} (hs0 : 0 ≤ s) (hsa : s ≤ a) (ham : a ≤ 65535) (hd0 : 0 ≤ d) (hdb : d ≤ b) (hbm : b ≤ 65535) : TermOk (dodgeT s a d b) a b := by
 have ab0 : 0 ≤ a * b := mul_nn (by omega) (by omega)
 unfold dodgeT
 split
 ·exact term_plain (Int.le_refl _) ab0
 split
 ·exact term_plain ab0 (Int.le_refl _)
 ·rename_i h1 h2
  have has : 0 < a - s := by
   refine Int.not_le.1 fun q => h2 ?_
   rw [show a - s = 0 by omega, Int.mul_zero]; exact mul_nn hd0 (by omega)
  refine term_frac (by omega) (by omega) (mul_nn (mul_nn (by omega) (by omega)) hd0) ?_
  have := Int.mul_le_mul_of_nonneg_left (show d * a ≤ b * (a - s) from Int.le_of_lt (Int.not_le.1 h2)) (show 0 ≤ a by omega)
  have e1 : a * a * d = a * (d * a) := by grind
  have e2 : a * b * (a - s) = a * (b * (a - s)) := by grind
  rw [e1, e2]; exact this
theorem term_burn {s a d b : Int} (hs0 : 0 ≤ s) (hsa : s ≤ a) (ham : a ≤ 65535) (hd0 : 0 ≤ d) (hdb : d ≤ b) (hbm : b ≤ 65535) : TermOk (burnT s a d b) a b := by
 have ab0 : 0 ≤ a * b := mul_nn (by omega) (by omega)
 unfold burnT
 split
 ·exact term_plain ab0 (Int.le_refl _)
 split
 ·exact term_plain (Int.le_refl _) ab0
 ·rename_i h1 h2
  have hs1 : 0 < s := by
   refine Int.not_le.1 fun q => h2 ?_
   rw [show s = 0 by omega, Int.zero_mul]; exact mul_nn (by omega) (by omega)
  have h3 : a * b * s - (b - d) * a * a = a * (s * b - (b - d) * a) := by grind
  refine term_frac (by omega) (by omega) ?_ ?_
  ·rw [h3]; exact mul_nn (by omega) (Int.sub_nonneg_of_le (Int.le_of_lt (Int.not_le.1 h2)))
  ·have := mul_nn (mul_nn (show 0 ≤ b - d by omega) (show 0 ≤ a by omega)) (show 0 ≤ a by omega)
   exact Int.sub_le_self _ this
theorem soft_poly {d b : Int} (hd0 : 0 ≤ d) (h4 : 4 * d ≤ b) : 0 ≤ 16 * d * d + 3 * b * b - 12 * d * b ∧ 16 * d * d + 3 * b * b - 12 * d * b ≤ 3 * (b * b) := by
 have g1 : 0 ≤ (b - 4 * d) * (b - 4 * d) := sq_nn _
 have g2 : 0 ≤ (b - 4 * d) * b := mul_nn (by omega) (by omega)
 have g3 : 0 ≤ (b - 4 * d) * d := mul_nn (by omega) (by omega)
 have g4 : 0 ≤ b * d := mul_nn (by omega) (by omega)
 have e1 : (b - 4 * d) * (b - 4 * d) = b * b - 8 * (b * d) + 16 * (d * d) := by grind
 have e2 : (b - 4 * d) * b = b * b - 4 * (b * d) := by grind
 have e3 : (b - 4 * d) * d = b * d - 4 * (d * d) := by grind
 have e4 : 16 * d * d + 3 * b * b - 12 * d * b = 16 * (d * d) + 3 * (b * b) - 12 * (b * d) := by grind
 rw [e4]
 generalize b * b = x at *
 generalize b * d = y at *
 generalize d * d = z at *
 omega
theorem term_soft {s a d b : Int} (hs0 : 0 ≤ s) (hsa : s ≤ a) (ham : a ≤ 65535) (hd0 : 0 ≤ d) (hdb : d ≤ b) (hbm : b ≤ 65535) : TermOk (softT s a d b) a b := by
 have ab0 : 0 ≤ a * b := mul_nn (by omega) (by omega)
 have da0 : 0 ≤ d * a := mul_nn hd0 (by omega)
 have da1 : d * a ≤ a * b := by rw [Int.mul_comm a b]; exact mul_lr hdb (Int.le_refl _) (by omega) (by omega)
 unfold softT
 split
 ·exact term_plain (Int.le_refl _) ab0
 rename_i hb0
 split
 ·rename_i hs2
  refine term_frac (by omega) (by omega) ?_ ?_
  ·have h1 : (a - 2 * s) * (b - d) ≤ a * b := mul_lr (by omega) (by omega) (by omega) (by omega)
   have h2 := Int.mul_le_mul_of_nonneg_left h1 hd0
   have e1 : (a - 2 * s) * d * (b - d) = d * ((a - 2 * s) * (b - d)) := by grind
   have e2 : d * a * b = d * (a * b) := Int.mul_assoc _ _ _
   rw [e1, e2]; exact Int.sub_nonneg_of_le h2
  ·have h1 : 0 ≤ (a - 2 * s) * d * (b - d) := mul_nn (mul_nn (by omega) hd0) (by omega)
   have h2 := Int.mul_le_mul_of_nonneg_right da1 (show 0 ≤ b by omega)
   exact Int.le_trans (Int.sub_le_self _ h1) h2
 rename_i hsa2
 split
 ·rename_i h4
  have hbb : b * b ≤ 65535 * 65535 := mul_lr (by omega) (by omega) (by omega) (by omega)
  have hb1 : 1 * 1 ≤ b * b := mul_lr (by omega) (by omega) (by omega) (by omega)
  obtain ⟨hpol, hpol2⟩ := soft_poly hd0 h4
  refine term_frac (by omega) (by omega) ?_ ?_
  ·exact Int.add_nonneg (mul_nn da0 (by omega)) (mul_nn (mul_nn (by omega) hd0) hpol)
  ·have h1 : (2 * s - a) * d * (16 * d * d + 3 * b * b - 12 * d * b) ≤ a * d * (3 * (b * b)) :=
    mul_lr (mul_lr (by omega) (Int.le_refl _) hd0 (by omega)) hpol2 hpol (mul_nn (by omega) hd0)
   have h2 := Int.mul_le_mul_of_nonneg_left h4 (mul_nn (show 0 ≤ a by omega) (show 0 ≤ b * b by omega))
   have e1 : a * (b * b) * (4 * d) = d * a * (b * b) + a * d * (3 * (b * b)) := by grind
   have e2 : a * (b * b) * b = a * b * (b * b) := by grind
   rw [e1, e2] at h2
   exact Int.le_trans (Int.add_le_add_left h1 _) h2
 ·rename_i h4
  have h1 : 0 ≤ d * (a - s) := mul_nn hd0 (by omega)
  have h2 : d * (a - s) ≤ b * (a - s) := mul_lr hdb (Int.le_refl _) (by omega) (by omega)
  have e1 : 2 * d * (a - s) = 2 * (d * (a - s)) := by grind
  have e3 : a * b * 1 - 2 * d * (a - s) = (2 * s - a) * b + 2 * (b * (a - s) - d * (a - s)) := by grind
  have h3 : 0 ≤ (2 * s - a) * b := mul_nn (by omega) (by omega)
  have h4 : (2 * s - a) * (2 * s - a) * (d * b) ≤ (2 * s - a) * (2 * s - a) * (b * b) := Int.mul_le_mul_of_nonneg_left (mul_lr hdb (Int.le_refl _) (by omega) (by omega)) (sq_nn _)
  have h5 : (2 * s - a) * b * ((2 * s - a) * b) ≤ (a * b * 1 - 2 * d * (a - s)) * (a * b * 1 - 2 * d * (a - s)) := sq_mono h3 (by rw [e3]; omega)
  have e4 : (2 * s - a) * b * ((2 * s - a) * b) = (2 * s - a) * (2 * s - a) * (b * b) := by grind
  have hdb2 : d * b ≤ 65535 * 65535 := mul_lr (by omega) (by omega) (by omega) (by omega)
  rw [e4] at h5
  refine ⟨?_, ?_, ?_, ?_, ?_, ?_, ?_, ?_, ?_⟩
  ·show 0 ≤ 2 * d * (a - s); omega
  ·show 0 ≤ 2 * s - a; omega
  ·show 2 * s - a ≤ _; omega
  ·exact mul_nn hd0 (by omega)
  ·exact hdb2
  ·exact Int.le_refl _
  ·show (1 : Int) ≤ 4294836225; decide
  ·show 2 * d * (a - s) ≤ a * b * 1; omega
  ·exact Int.le_trans h4 h5
theorem ite_ok {p : Prop} [Decidable p] {x y : Ex} {a b : Int} (h1 : TermOk x a b) (h2 : TermOk y a b) : TermOk (if p then x else y) a b := by
 split
 ·exact h1
 ·exact h2
theorem term_ok {mode s a d b m : Int} (hm : Full m) (hs : Pre s a m) (hd : Pre d b m) : TermOk (blendX mode s a d b) a b := by
 obtain ⟨hs0, hsa, ham⟩ := hs
 obtain ⟨hd0, hdb, hbm⟩ := hd
 have hmle := hm.le
 have sb0 : 0 ≤ s * b := mul_nn hs0 (by omega)
 have da0 : 0 ≤ d * a := mul_nn hd0 (by omega)
 have sd0 : 0 ≤ s * d := mul_nn hs0 hd0
 have sb1 : s * b ≤ a * b := mul_lr hsa (Int.le_refl _) (by omega) (by omega)
 have da1 : d * a ≤ a * b := by rw [Int.mul_comm a b]; exact mul_lr hdb (Int.le_refl _) (by omega) (by omega)
 have sd1 : s * d ≤ a * b := mul_lr hsa hdb hd0 (by omega)
 have sd2 : s * d ≤ s * b := mul_lr (Int.le_refl _) hdb hd0 hs0
 have sd3 : s * d ≤ d * a := by rw [Int.mul_comm s d]; exact mul_lr (Int.le_refl _) hsa hs0 hd0
 have scr : 0 ≤ (a - s) * (b - d) := mul_nn (by omega) (by omega)
 have escr : (a - s) * (b - d) = a * b - s * b - d * a + s * d := by grind
 have e2 : 2 * s * d = 2 * (s * d) := Int.mul_assoc _ _ _
 rw [escr] at scr
 have hh1 := hard_ok hs0 hsa hd0 hdb
 have hh2 := hard_ok hd0 hdb hs0 hsa
 rw [Int.mul_comm b a] at hh2
 have t7 := term_dodge hs0 hsa (by omega) hd0 hdb (by omega)
 have t8 := term_burn hs0 hsa (by omega) hd0 hdb (by omega)
 have t10 := term_soft hs0 hsa (by omega) hd0 hdb (by omega)
 have t3 : TermOk ⟨s * b + d * a - s * d, 0, 0, 1⟩ a b := term_plain (by clear t7 t8 t10 hh1 hh2; omega) (by clear t7 t8 t10 hh1 hh2; omega)
 have t5 : TermOk ⟨min (s * b) (d * a), 0, 0, 1⟩ a b := term_plain (by clear t7 t8 t10 hh1 hh2 scr escr e2; omega) (by clear t7 t8 t10 hh1 hh2 scr escr e2; omega)
 have t6 : TermOk ⟨max (s * b) (d * a), 0, 0, 1⟩ a b := term_plain (by clear t7 t8 t10 hh1 hh2 scr escr e2; omega) (by clear t7 t8 t10 hh1 hh2 scr escr e2; omega)
 have t11 : TermOk ⟨max (s * b) (d * a) - min (s * b) (d * a), 0, 0, 1⟩ a b := term_plain (by clear t7 t8 t10 hh1 hh2 scr escr e2; omega) (by clear t7 t8 t10 hh1 hh2 scr escr e2; omega)
 have t12 : TermOk ⟨s * b + d * a - 2 * s * d, 0, 0, 1⟩ a b := term_plain (by rw [e2]; clear t7 t8 t10 hh1 hh2 scr escr; omega) (by rw [e2]; clear t7 t8 t10 hh1 hh2; omega)
 exact ite_ok (term_plain sb0 sb1) (ite_ok (term_plain sd0 sd1) (ite_ok t3 (ite_ok (term_plain hh2.1 hh2.2) (ite_ok t5 (ite_ok t6 (ite_ok t7 (ite_ok t8 (ite_ok (term_plain hh1.1 hh1.2) (ite_ok t10 (ite_ok t11 t12))))))))))
end Go.Proofs.YtlblgkelhibdoaaGreatDoor
