/- Part of the proof: F8, F5, F14, F9, F15, U1. -/
import Derived.Test.YtlblgkelhibdoaaGreatDoorM6
set_option linter.unusedSimpArgs false
set_option linter.unusedVariables false
set_option maxHeartbeats 2000000
set_option maxRecDepth 16000
namespace Go.Proofs.YtlblgkelhibdoaaGreatDoor
open Go Go.SL
open Go.RowKit (wrap64)
def tilesOk (r : Rect) (w h : Int) : Bool := !emptyR r && decide (1 ≤ w ∧ 1 ≤ h ∧ w ≤ r.x1 - r.x0 ∧ h ≤ r.y1 - r.y0)
def tilesX (r : Rect) (w h : Int) : Int := if tilesOk r w h = true then (r.x1 - r.x0 - 1) / w + 1 else 0
def tilesY (r : Rect) (w h : Int) : Int := if tilesOk r w h = true then (r.y1 - r.y0 - 1) / h + 1 else 0
theorem tile_div {W w : Int} (h1 : 1 ≤ W) (h2 : W ≤ 2147483648) (h3 : 1 ≤ w) (h4 : w ≤ W) :
  IntKind.i64.wrap (IntKind.i64.wrap ((IntKind.i64.wrap (IntKind.i64.wrap W - 1)).tdiv w) + 1) = (W - 1) / w + 1 := by
 have b1 : 0 ≤ (W - 1) / w := Int.ediv_nonneg (by omega) (by omega)
 have b2 : (W - 1) / w ≤ W - 1 := Int.ediv_le_self _ (by omega)
 rw [w64' (n := W) (by omega) (by omega), w64' (n := W - 1) (by omega) (by omega), tdivP (by omega), w64' (n := (W - 1) / w) (by omega) (by omega), w64' (by omega) (by omega)]
theorem tile_div' {W w : Int} (h1 : 1 ≤ W) (h2 : W ≤ 2147483648) (h3 : 1 ≤ w) (h4 : w ≤ W) :
  IntKind.i64.wrap ((IntKind.i64.wrap (IntKind.i64.wrap (IntKind.i64.wrap W + w) - 1)).tdiv w) = (W - 1) / w + 1 := by
 have b1 : 0 ≤ (W - 1) / w := Int.ediv_nonneg (by omega) (by omega)
 have b2 : (W - 1) / w ≤ W - 1 := Int.ediv_le_self _ (by omega)
 have e : (W + w - 1) / w = (W - 1) / w + 1 := by
  rw [show W + w - 1 = (W - 1) + 1 * w by omega, Int.add_mul_ediv_right _ _ (by omega)]
 rw [w64' (n := W) (by omega) (by omega), w64' (n := W + w) (by omega) (by omega), w64' (n := W + w - 1) (by omega) (by omega), tdivP (by omega), e, w64' (by omega) (by omega)]
theorem tiles_spec (r : Rect) (w h : Int) : Pure Sg 28 [ag (rectE r), I w, I h] (fun x => x = .tup [I (tilesX r w h), I (tilesY r w h), B (tilesOk r w h)]) := by
 refine fn_a Tryz.func28 [.tmp 6, .tmp 7, .tmp 8] ?_
 repeat' (first | refine un_a ?_ | ((first | refine st_a (fun K hK => ?_) | refine call_c (r13empty_spec _) ?_); and_intros; (all_goals first | (refine hK _ ?_; clear hK K) | exact auto_cl | skip)) | (refine if_a (fun hb => ?_) (fun hb => ?_); all_goals try exact bad_a) | (refine ret_a ?_; (try clear hB KB); (try clear hK K)))
 ·have : tilesOk r w h = false := by
   cases he : emptyR r with
   | true => simp [tilesOk, he]
   | false =>
    have hb2 := emptyR_false (r := r) (by simp [he])
    rw [he, w64' (n := r.x1 - r.x0) (by omega) (by omega), w64' (n := r.y1 - r.y0) (by omega) (by omega)] at hb
    simp only [tilesOk, he, Bool.not_false, Bool.true_and, decide_eq_false_iff_not]
    simp only [Bool.false_eq_true, false_or] at hb
    omega
  simp only [tilesX, tilesY, this, Bool.false_eq_true, if_false]
 ·have hb2 := emptyR_false (r := r) (by simp [hb.1.1.1.1])
  rw [w64' (n := r.x1 - r.x0) (by omega) (by omega), w64' (n := r.y1 - r.y0) (by omega) (by omega)] at hb
  have ht : tilesOk r w h = true := by
   simp only [tilesOk, hb.1.1.1.1, Bool.not_false, Bool.true_and, decide_eq_true_eq]
   omega
  rw [tile_div (by omega) (by omega) (by omega) (by omega), tile_div (by omega) (by omega) (by omega) (by omega), tilesX, tilesY, if_pos ht, if_pos ht, ht]
theorem count_spec (r : Rect) (w h : Int) : Pure Sg 123 [ag (rectE r), I w, I h] (fun x => x = .tup [I (tilesX r w h), I (tilesY r w h), B (tilesOk r w h)]) := by
 refine fn_a Tryz.func123 [.tmp 6, .tmp 7, .tmp 8] ?_
 repeat' (first | refine un_a ?_ | ((first | refine st_a (fun K hK => ?_) | refine call_c (rempty_spec _) ?_); and_intros; (all_goals first | (refine hK _ ?_; clear hK K) | exact auto_cl | skip)) | (refine if_a (fun hb => ?_) (fun hb => ?_); all_goals try exact bad_a) | (refine ret_a ?_; (try clear hB KB); (try clear hK K)))
 ·have : tilesOk r w h = false := by simp [tilesOk, hb]
  simp only [tilesX, tilesY, this, Bool.false_eq_true, if_false]
 ·rename_i he
  have hb2 := emptyR_false (r := r) (by simp [he])
  rw [w64' (n := r.x1 - r.x0) (by omega) (by omega), w64' (n := r.y1 - r.y0) (by omega) (by omega)] at hb
  have : tilesOk r w h = false := by
   simp only [tilesOk, he, Bool.not_false, Bool.true_and, decide_eq_false_iff_not]
   omega
  simp only [tilesX, tilesY, this, Bool.false_eq_true, if_false]
 ·rename_i he
  have hb2 := emptyR_false (r := r) (by simp [he])
  rw [w64' (n := r.x1 - r.x0) (by omega) (by omega), w64' (n := r.y1 - r.y0) (by omega) (by omega)] at hb
  have ht : tilesOk r w h = true := by
   simp only [tilesOk, he, Bool.not_false, Bool.true_and, decide_eq_true_eq]
   omega
  rw [tile_div' (by omega) (by omega) (by omega) (by omega), tile_div' (by omega) (by omega) (by omega) (by omega), tilesX, tilesY, if_pos ht, if_pos ht, ht]
end Go.Proofs.YtlblgkelhibdoaaGreatDoor
set_option maxRecDepth 16000
namespace Go.Proofs.YtlblgkelhibdoaaGreatDoor
open Go Go.SL
open Go.RowKit (wrap64)
def permGo (l : List Int) : Nat → Nat → List Int → List Int
 | 0, _, _ => []
 | k + 1, i, rest => rest.getD (gAt l i % rest.length).toNat 0 :: permGo l k (i + 1) (rest.eraseIdx (gAt l i % rest.length).toNat)
def iota (n : Nat) : List Int := (List.range n).map fun (i : Nat) => (i : Int)
def gPerm (l : List Int) (n : Int) : List Int := if l.length = 0 ∨ n > 64 then [] else permGo l n.toNat 0 (iota n.toNat)
theorem iota_len (n : Nat) : (iota n).length = n := by simp [iota]
set_option maxHeartbeats 4000000 in
theorem permutation_spec (l : List Int) (n : Int) (hl : l.length ≤ 4611686018427387904) (hn : 0 ≤ n) :
  Pure Sg 29 [.c (.p (ints l)), I n] (fun x => x = .b (.c (.p (ints (gPerm l n))))) := by
 refine pure_le ?_
 refine fn_a Tryz.func29 [.tmp 4] ?_
 repeat' (first | refine un_a ?_ | (refine st_a (fun K hK => ?_); and_intros; (all_goals first | (refine hK _ ?_; clear hK K) | exact auto_cl | skip)) | (refine if_a (fun hb => ?_) (fun hb => ?_); all_goals try exact bad_a) | (refine ret_a ?_; (try clear hB KB); (try clear hK K)))
 ·rw [gPerm, if_pos (by omega)]
  exact sle_b (ble_c nil_le)
 refine cw_loop (X := Nat) (fun i => mkSt [(0, .b (.c (.p (ints l)))), (1, .b (I n)), (5, .b (.c (.own 1 n.toNat))), (6, .b (I i))]
  [(1, .arr 3 1 n.toNat (fun a _ => PI (if a < i then a else 0)))] 2) (fun i => (i : Int) ≤ n) (fun i => n.toNat - i) 0 ?_ ?_ ?_
 ·omega
 ·refine le_a [(1, some 0)] ?_ ?_
  and_intros
  all_goals first | exact le_cl | skip
  refine .inr fun a ha j hj => ?_
  have : j = 0 := by omega
  subst this
  rw [if_neg (by omega)]
  exact PV.le_refl _
 ·intro i hi
  repeat' (first | refine un_a ?_ | (refine st_a (fun K hK => ?_); and_intros; (all_goals first | (refine hK _ ?_; clear hK K) | exact auto_cl | skip)) | (refine if_a (fun hb => ?_) (fun hb => ?_); all_goals try exact bad_a))
  ·rw [thenQ_normal]
   refine wk_loop (i + 1) ?_ (by omega) (by omega)
   refine le_a [(1, some 1)] ?_ ?_
   and_intros
   all_goals first | exact le_cl | skip
   refine .inr fun a ha j hj => ?_
   have : j = 0 := by omega
   subst this
   simp only [Int.toNat_natCast]
   by_cases h : a = i
   ·subst h
    rw [if_pos rfl, if_pos (by omega), if_pos (by omega)]
    exact PV.le_refl _
   ·rw [if_neg h]
    by_cases h2 : a < i
    ·rw [if_pos h2, if_pos (by omega)]; exact PV.le_refl _
    ·rw [if_neg h2, if_neg (by omega)]; exact PV.le_refl _
  have hin : i = n.toNat := by omega
  refine cw_loop (X := Nat × List Int × List Int) (fun x => mkSt [(0, .b (.c (.p (ints l)))), (5, .b (.c (.p (ints x.2.1)))), (7, .b (.c (.own 1 x.2.2.length))), (8, .b (I x.1))]
   [(1, .arr 3 1 x.2.2.length (fnOf intE x.2.2))] 2)
   (fun x => x.2.2 ++ permGo l x.2.1.length x.1 x.2.1 = gPerm l n ∧ x.1 + x.2.1.length ≤ 64 ∧ x.2.2.length = x.1) (fun x => x.2.1.length) (0, iota n.toNat, []) ?_ ?_ ?_
  ·refine ⟨?_, ?_, rfl⟩
   ·simp only [iota_len, List.nil_append]
    rw [gPerm, if_neg (by omega)]
   ·simp only [iota_len]; omega
  ·refine le_a [(1, none)] ?_ ?_
   and_intros
   all_goals first | exact le_cl | skip
   ·exact (iota_len _).symm
   ·intro a ha j hj
    have : j = 0 := by omega
    subst this
    rw [if_pos (by omega), show (iota n.toNat).getD a default = a by simp [iota, ha]]
    exact PV.le_refl _
  ·rintro ⟨i2, rest, out⟩ ⟨h1, h2, h3⟩
   dsimp only at h1 h2 h3 ⊢
   have q1 : 0 < rest.length → 0 ≤ gAt l i2 % rest.length ∧ gAt l i2 % rest.length < rest.length := fun h => ⟨Int.emod_nonneg _ (by omega), Int.emod_lt_of_pos _ (by omega)⟩
   repeat' (first | refine un_a ?_ | ((first | refine st_a (fun K hK => ?_) | refine call_c (modp_spec _ _ (by omega) (by omega)) ?_ | refine call_c (at_spec _ _) ?_); and_intros; (all_goals first | (refine hK _ ?_; clear hK K) | exact auto_cl | skip)) | (refine if_a (fun hb => ?_) (fun hb => ?_); all_goals try exact bad_a) | (refine ret_a ?_; (try clear hB KB); (try clear hK K)))
   ·rw [thenQ_normal]
    have hk : (gAt l i2 % rest.length).toNat < rest.length := by omega
    have hk2 : (gAt l i2 % rest.length + 1).toNat = (gAt l i2 % rest.length).toNat + 1 := by omega
    generalize hkd : (gAt l i2 % rest.length).toNat = k at *
    refine wk_loop (i2 + 1, rest.eraseIdx k, out ++ [rest.getD k 0]) ?_ ?_ ?_
    ·refine le_a [(1, some 3)] ?_ ?_
     and_intros
     all_goals first | exact le_cl | skip
     ·rw [List.length_eraseIdx, if_pos hk]; omega
     ·intro a ha j hj
      have : j = 0 := by omega
      subst this
      have e : (rest.eraseIdx k).getD a default = if a < k then rest.getD a default else rest.getD (a + 1) default := by
       simp only [List.getD_eq_getElem?_getD, List.getElem?_eraseIdx]
       split <;> rfl
      rw [e, hk2]
      by_cases h : a < k
      ·simp only [appF, Nat.sub_zero, Nat.zero_add, if_pos h]
       exact PV.le_refl _
      ·simp only [appF, Nat.sub_zero, if_neg h]
       rw [show k + 1 + (a - k) = a + 1 by omega]
       exact PV.le_refl _
     ·simp
     ·simp
     ·refine .inr (arr_push (enc := intE) fun j hj => ?_)
      have : j = 0 := by omega
      subst this
      rfl
    ·obtain ⟨m, hm⟩ : ∃ m, rest.length = m + 1 := ⟨rest.length - 1, by omega⟩
     have hl2 : (rest.eraseIdx k).length = m := by rw [List.length_eraseIdx, if_pos hk]; omega
     refine ⟨?_, ?_, ?_⟩
     ·rw [← h1, hm]
      dsimp only
      rw [hl2, List.append_assoc]
      simp only [permGo, List.cons_append, List.nil_append, hm] at hkd ⊢
      rw [hkd]
     ·dsimp only; omega
     ·simp [h3]
    ·dsimp only
     rw [List.length_eraseIdx, if_pos hk]; omega
   ·have hr0 : rest = [] := List.eq_nil_of_length_eq_zero (by omega)
    subst hr0
    have : out = gPerm l n := by simpa [permGo] using h1
    rw [this]
    exact sle_b (ble_c (PV.le_refl _))
end Go.Proofs.YtlblgkelhibdoaaGreatDoor
set_option maxHeartbeats 2000000
set_option maxRecDepth 16000
namespace Go.Proofs.YtlblgkelhibdoaaGreatDoor
open Go Go.SL
open Go.RowKit (wrap64)
def ordAt (x : List Int) (n : Int) (i : Nat) : Bool := decide (0 ≤ x.getD i 0 ∧ x.getD i 0 < n) && !(x.take i).contains (x.getD i 0)
def ordL (l : List Int) (n : Int) : List Int := if l.length = 0 then iota n.toNat else l
def ordOk (l : List Int) (n : Int) : Bool := decide (0 ≤ n ∧ n ≤ 16777216 ∧ (l.length = 0 ∨ l.length = n)) && (List.range n.toNat).all (ordAt (ordL l n) n)
def orderM (l : List Int) (n : Int) : List Int := if ordOk l n = true then ordL l n else []
theorem iota_getD {n i : Nat} (h : i < n) : (iota n).getD i 0 = i := by simp [iota, h]
theorem ordL_len {l : List Int} {n : Int} (h0 : 0 ≤ n) (h : l.length = 0 ∨ l.length = n) : (ordL l n).length = n.toNat := by
 unfold ordL; split
 ·exact iota_len _
 ·omega
theorem ordOk_no {l : List Int} {n : Int} {i : Nat} (h0 : 0 ≤ n) (hi : (i : Int) < n) (h : ordAt (ordL l n) n i = false) : ordOk l n = false := by
 rw [ordOk, Bool.and_eq_false_imp]
 intro _
 rw [List.all_eq_false]
 exact ⟨i, List.mem_range.2 (by omega), by simp [h]⟩
def seenF (x : List Int) (i : Nat) : Nat → Nat → PV := fun a _ => PB ((x.take i).contains (a : Int))
theorem seen_step {x : List Int} {i : Nat} (hi : i < x.length) (h0 : 0 ≤ x.getD i 0) (a j : Nat) : (if a = (x.getD i 0).toNat then PB true else seenF x i a j) = seenF x (i + 1) a j := by
 have e : x.take (i + 1) = x.take i ++ [x.getD i 0] := by
  rw [List.take_add_one, List.getElem?_eq_getElem hi, List.getD_eq_getElem?_getD, List.getElem?_eq_getElem hi]; rfl
 have h : (x.take (i + 1)).contains (a : Int) = ((x.take i).contains (a : Int) || decide ((a : Int) = x.getD i 0)) := by
  rw [e, Bool.eq_iff_iff]
  simp
 unfold seenF
 rw [h]
 by_cases ha : a = (x.getD i 0).toNat
 ·rw [if_pos ha, decide_eq_true (by omega), Bool.or_true]
 ·rw [if_neg ha, decide_eq_false (by omega), Bool.or_false]
theorem tileOrder_spec (l : List Int) (n : Int) (hl : l.length ≤ 4611686018427387904) :
  Pure Sg 124 [.c (.p (ints l)), I n] (fun r => r = .tup [.c (.p (ints (orderM l n))), B (ordOk l n)]) := by
 refine pure_le ?_
 refine fn_a Tryz.func124 [.tmp 4, .tmp 5] ?_
 repeat' (first | refine un_a ?_ | (refine st_a (fun K hK => ?_); and_intros; (all_goals first | (refine hK _ ?_; clear hK K) | exact auto_cl | skip)) | (refine if_a (fun hb => ?_) (fun hb => ?_); all_goals try exact bad_a) | (refine ret_a ?_; (try clear hB KB); (try clear hK K)))
 ·have : ordOk l n = false := by
   rw [ordOk, decide_eq_false (by omega)]; rfl
  rw [orderM, this]
  exact sle_tup ⟨ble_c nil_le, ble_rfl trivial, trivial⟩
 refine cw_loop (X := Nat) (fun i => mkSt [(0, .b (.c (.p (ints l)))), (1, .b (I n)), (6, .b (.c (.own 1 n.toNat))), (7, .b (.c (.own 2 n.toNat))), (31, .b (I n)), (32, .b (I i))]
  [(1, .arr 3 1 n.toNat (fun a _ => PI (if a < i then (ordL l n).getD a 0 else 0))), (2, .arr 4 1 n.toNat (seenF (ordL l n) i))] 3) (fun i => (i : Int) ≤ n ∧ ∀ k, k < i → ordAt (ordL l n) n k = true) (fun i => n.toNat - i) 0 ?_ ?_ ?_
 ·exact ⟨by omega, fun k hk => by omega⟩
 ·refine le_a [(1, some 0), (2, some 1)] ?_ ?_
  and_intros
  all_goals first | exact le_cl | skip
  ·rw [Int.toNat_of_nonneg (by omega)]; exact .inl rfl
  ·refine .inr fun a ha j hj => ?_
   have : j = 0 := by omega
   subst this
   exact PV.le_refl _
  ·refine .inr fun a ha j hj => ?_
   have : j = 0 := by omega
   subst this
   exact PV.le_refl _
 ·rintro i ⟨hi, hok⟩
  have hx : i < n.toNat → (0 ≤ n ∧ (l.length = 0 ∨ l.length = n)) → (if 0 < (l.length : Int) then l.getD (i : Int).toNat default else (i : Int)) = (ordL l n).getD i 0 := fun h1 h2 => by
   rw [ordL, Int.toNat_natCast]
   by_cases h0 : l.length = 0
   ·rw [if_neg (by omega), if_pos h0, iota_getD h1]
   ·rw [if_pos (by omega), if_neg h0]; rfl
  repeat' (first | refine un_a ?_ | (refine st_a (fun K hK => ?_); and_intros; (all_goals first | (refine hK _ ?_; clear hK K) | exact auto_cl | skip)) | (apply cw_ite; (case hf => rfl); (case hc => exact ev_a); (all_goals first | (intro hb; (try simp only [hbs] at hb)) | skip)) | exact atN_intro | (refine if_a (fun hb => ?_) (fun hb => ?_); all_goals try exact bad_a) | (refine ret_a ?_; (try clear hB KB); (try clear hK K)))
  ·rw [hx (by omega) (by omega)] at hb
   have : ordOk l n = false := by
    refine ordOk_no (i := i) (by omega) (by omega) ?_
    rw [ordAt]
    by_cases h1 : 0 ≤ (ordL l n).getD i 0 ∧ (ordL l n).getD i 0 < n
    ·rcases hb with h | h
     ·omega
     ·rw [Int.toNat_of_nonneg h1.1] at h
      rw [h]; simp
    ·rw [decide_eq_false h1]; rfl
   rw [orderM, this]
   exact sle_tup ⟨ble_c nil_le, ble_rfl trivial, trivial⟩
  ·rw [hx (by omega) (by omega)] at hb
   rw [thenQ_normal]
   refine wk_loop (i + 1) ?_ ⟨by omega, fun k hk => ?_⟩ (by omega)
   ·have hlen := ordL_len (l := l) (n := n) (by omega) (by omega)
    refine le_a [(1, some 1), (2, some 2)] ?_ ?_
    and_intros
    all_goals first | exact le_cl | skip
    ·refine .inr fun a ha j hj => ?_
     have : j = 0 := by omega
     subst this
     have e : ∀ p : Prop, [Decidable p] → (if p then PI (l.getD (i : Int).toNat default) else PI (i : Int)) = PI (if p then l.getD (i : Int).toNat default else (i : Int)) := fun p _ => by split <;> rfl
     by_cases h : a = i
     ·subst h
      simp only [Int.toNat_natCast, gt_iff_lt] at hx ⊢
      have e2 : (if a < a + 1 then (ordL l n).getD a 0 else 0) = (if 0 < (l.length : Int) then l.getD a default else (a : Int)) := by rw [hx (by omega) (by omega), if_pos (by omega)]
      rw [e2]
      by_cases q : 0 < (l.length : Int)
      ·simp only [if_pos q]; exact PV.le_refl _
      ·simp only [if_neg q]; exact PV.le_refl _
     ·simp only [Int.toNat_natCast, gt_iff_lt, if_neg h]
      rw [show (if a < i + 1 then (ordL l n).getD a 0 else 0) = (if a < i then (ordL l n).getD a 0 else 0) by
       by_cases h2 : a < i
       ·rw [if_pos h2, if_pos (by omega)]
       ·rw [if_neg h2, if_neg (by omega)]]
      split <;> exact PV.le_refl _
    ·refine .inr fun a ha j hj => ?_
     have : j = 0 := by omega
     subst this
     simp only [gt_iff_lt, hx (by omega) (by omega)]
     rw [← seen_step (by omega) hb.1.1]
     by_cases h : a = ((ordL l n).getD i 0).toNat
     ·rw [if_pos h, if_pos h]; exact PV.le_refl _
     ·rw [if_neg h, if_neg h]; exact PV.le_refl _
   ·by_cases h : k = i
    ·subst h
     rw [Int.toNat_of_nonneg hb.1.1] at hb
     rw [ordAt, decide_eq_true hb.1, hb.2]; rfl
    ·exact hok k (by omega)
  ·have e : ordOk l n = true := by
    rw [ordOk, decide_eq_true (by omega), Bool.true_and, List.all_eq_true]
    exact fun k hk => hok k (by have := List.mem_range.1 hk; omega)
   have hlen := ordL_len (l := l) (n := n) (by omega) (by omega)
   rw [orderM, if_pos e, e, hlen]
   refine sle_tup ⟨ble_c (lst_le fun a ha j hj => ?_), ble_rfl trivial, trivial⟩
   have : j = 0 := by omega
   subst this
   rw [if_pos (by omega)]; rfl
end Go.Proofs.YtlblgkelhibdoaaGreatDoor
set_option maxHeartbeats 2000000
set_option maxRecDepth 16000
namespace Go.Proofs.YtlblgkelhibdoaaGreatDoor
open Go Go.SL
open Go.RowKit (wrap64)
def fieldsM (o : Op) : Bool :=
 if o.kind = 3 then decide (o.image = 0 ∧ o.x = 0 ∧ o.y = 0 ∧ o.mask = 0 ∧ o.maskX = 0 ∧ o.maskY = 0 ∧ o.opacity = 0 ∧ o.operator = 0 ∧ o.mode = 0 ∧ o.isolated = false ∧ o.knockout = false)
 else if o.kind = 1 ∧ (o.isolated = true ∨ o.knockout = true) then false
 else if o.kind = 2 ∧ (o.image ≠ 0 ∨ o.x ≠ 0 ∨ o.y ≠ 0) then false
 else decide (o.mask ≠ 0 ∨ o.maskX = 0 ∧ o.maskY = 0)
theorem fields_spec (o : Op) : Pure Sg 125 [ag (opE o)] (fun x => x = .b (B (fieldsM o))) := by
 refine fn_a Tryz.func125 [.tmp 2] ?_
 repeat' (first | refine un_a ?_ | (refine st_a (fun K hK => ?_); and_intros; (all_goals first | (refine hK _ ?_; clear hK K) | exact auto_cl | skip)) | (refine if_a (fun hb => ?_) (fun hb => ?_); all_goals try exact bad_a) | (refine ret_a ?_; (try clear hB KB); (try clear hK K)))
 ·refine bool_eq ?_
  rw [fieldsM, if_pos hb]
  simp only [hb, Bool.and_true, Bool.and_eq_true, beq_iff_eq, Bool.not_eq_true', decide_eq_true_eq, true_and]
 ·rw [fieldsM, if_neg (by omega), if_pos hb]
 ·rename_i h1 h2
  rw [fieldsM, if_neg h1, if_neg (fun h => by have := h2 h.1; simp [this.1, this.2] at h), if_pos (by omega)]
 ·rename_i h1 h2
  refine bool_eq ?_
  rw [fieldsM, if_neg h1, if_neg (fun h => by have := h2 h.1; simp [this.1, this.2] at h), if_neg (by omega)]
  simp only [Bool.or_eq_true, Bool.and_eq_true, beq_iff_eq, bne_iff_ne, decide_eq_true_eq, ne_eq]
theorem context_spec (l : List Op) (hl : l.length ≤ 4611686018427387904) : Pure Sg 128 [.c (.p (opL l))] (fun x => x = .b (B (l.isEmpty || ((l.getD (l.length - 1) default).isolated && !(l.getD (l.length - 1) default).knockout)))) := by
 refine fn_a Tryz.func128 [.tmp 2] ?_
 repeat' (first | refine un_a ?_ | (refine st_a (fun K hK => ?_); and_intros; (all_goals first | (refine hK _ ?_; clear hK K) | exact auto_cl | skip)) | (refine if_a (fun hb => ?_) (fun hb => ?_); all_goals try exact bad_a) | (refine ret_a ?_; (try clear hB KB); (try clear hK K)))
 ·have : l = [] := List.eq_nil_of_length_eq_zero (by omega)
  subst this; rfl
 ·have h1 : ((l.length : Int) - 1).toNat = l.length - 1 := by omega
  have h2 : l.isEmpty = false := by cases l <;> simp_all
  rw [h1, h2]; rfl
theorem near_spec (l : List Int) (hl : l.length ≤ 4611686018427387904) : Pure Sg 122 [.c (.p (ints l))] (fun x => x = .b (B (withinM 1048576 l))) := by
 refine fn_a Tryz.func122 [.tmp 2] ?_
 repeat' (first | refine un_a ?_ | (refine st_a (fun K hK => ?_); and_intros; (all_goals first | (refine hK _ ?_; clear hK K) | exact auto_cl | skip)))
 refine cw_loop (X := Nat) (fun i => mkSt [(5, .b (.c (.p (ints l)))), (6, .b (I l.length)), (7, .b (I i))] [] 1) (fun i => i ≤ l.length ∧ (l.take i).all (fun v => decide (-1048576 ≤ v ∧ v ≤ 1048576)) = true) (fun i => l.length - i) 0 ?_ ?_ ?_
 ·exact ⟨by omega, rfl⟩
 ·refine le_a [] ?_ ?_
  and_intros
  all_goals first | exact le_cl | skip
 ·rintro i ⟨hi, ht⟩
  repeat' (first | refine un_a ?_ | (refine st_a (fun K hK => ?_); and_intros; (all_goals first | (refine hK _ ?_; clear hK K) | exact auto_cl | skip)) | (refine if_a (fun hb => ?_) (fun hb => ?_); all_goals try exact bad_a) | (refine ret_a ?_; (try clear hB KB); (try clear hK K)))
  ·have : withinM 1048576 l = false := by
    rw [withinM, List.all_eq_false]
    refine ⟨l.getD i default, ?_, ?_⟩
    ·rw [List.getD_eq_getElem?_getD, List.getElem?_eq_getElem (by omega)]; exact List.getElem_mem _
    ·simp only [decide_eq_true_eq]; simp only [Int.toNat_natCast] at hb; omega
   rw [this]
  ·rw [thenQ_normal]
   refine wk_loop (i + 1) ?_ ⟨by omega, ?_⟩ (by omega)
   ·refine le_a [] ?_ ?_
    and_intros
    all_goals first | exact le_cl | skip
   ·rw [List.take_add_one, List.all_append, ht, List.getElem?_eq_getElem (by omega)]
    simp only [Int.toNat_natCast, List.getD_eq_getElem?_getD, List.getElem?_eq_getElem (show i < l.length by omega), Option.getD_some] at hb
    simp only [Option.toList_some, List.all_cons, List.all_nil, Bool.and_true, Bool.true_and, decide_eq_true_eq]
    omega
  ·have : withinM 1048576 l = true := by
    rw [withinM]
    rwa [List.take_of_length_le (by omega)] at ht
   rw [this]
end Go.Proofs.YtlblgkelhibdoaaGreatDoor
set_option maxHeartbeats 2000000
set_option maxRecDepth 16000
namespace Go.Proofs.YtlblgkelhibdoaaGreatDoor
open Go Go.SL
open Go.RowKit (wrap64)
def frameM (s : Script) : Int :=
 if ¬ (s.bits = 8 ∨ s.bits = 16) then 1
 else if emptyR s.canvas = true ∨ 16777216 < areaR s.canvas ∨ withinM 1048576 [s.canvas.x0, s.canvas.y0] = false then 2
 else if tilesOk s.canvas s.tileW s.tileH = false then 3
 else if ordOk s.order (tilesX s.canvas s.tileW s.tileH * tilesY s.canvas s.tileW s.tileH) = false then 4
 else if 64 < s.images.length ∨ 4096 < s.ops.length then 5 else 0
theorem tiles_wrap (r : Rect) (w h : Int) : IntKind.i64.wrap (tilesX r w h * tilesY r w h) = tilesX r w h * tilesY r w h ∧ 0 ≤ tilesX r w h * tilesY r w h := by
 unfold tilesX tilesY
 by_cases ht : tilesOk r w h = true
 ·rw [if_pos ht, if_pos ht]
  simp only [tilesOk, Bool.and_eq_true, Bool.not_eq_true', decide_eq_true_eq] at ht
  obtain ⟨he, h1, h2, h3, h4⟩ := ht
  have hb := emptyR_false (r := r) (by simp [he])
  have b1 : 0 ≤ (r.x1 - r.x0 - 1) / w := Int.ediv_nonneg (by omega) (by omega)
  have b2 : (r.x1 - r.x0 - 1) / w ≤ r.x1 - r.x0 - 1 := Int.ediv_le_self _ (by omega)
  have c1 : 0 ≤ (r.y1 - r.y0 - 1) / h := Int.ediv_nonneg (by omega) (by omega)
  have c2 : (r.y1 - r.y0 - 1) / h ≤ r.y1 - r.y0 - 1 := Int.ediv_le_self _ (by omega)
  have hm : ((r.x1 - r.x0 - 1) / w + 1) * ((r.y1 - r.y0 - 1) / h + 1) ≤ 2147483648 * 2147483648 := Int.mul_le_mul (by omega) (by omega) (by omega) (by omega)
  have hp : 0 ≤ ((r.x1 - r.x0 - 1) / w + 1) * ((r.y1 - r.y0 - 1) / h + 1) := Int.mul_nonneg (by omega) (by omega)
  exact ⟨w64' (by omega) (by omega), hp⟩
 ·rw [if_neg ht, if_neg ht]; decide
theorem frame2 {s : Script} (h1 : s.bits = 8 ∨ s.bits = 16) (h : (emptyR s.canvas = true ∨ 16777216 < areaR s.canvas) ∨ withinM 1048576 [s.canvas.x0, s.canvas.y0] = false) : frameM s = 2 := by
 rw [frameM, if_neg (fun q => q h1), if_pos (by rw [← or_assoc]; exact h)]
def frameOk2 (s : Script) : Prop := (s.bits = 8 ∨ s.bits = 16) ∧ (emptyR s.canvas = false ∧ areaR s.canvas ≤ 16777216) ∧ withinM 1048576 [s.canvas.x0, s.canvas.y0] = true
theorem frameOk2_neg {s : Script} (h : frameOk2 s) : ¬ (emptyR s.canvas = true ∨ 16777216 < areaR s.canvas ∨ withinM 1048576 [s.canvas.x0, s.canvas.y0] = false) := by
 obtain ⟨_, ⟨h1, h2⟩, h3⟩ := h
 rw [h1, h3]
 simp only [Bool.false_eq_true, false_or, Bool.true_eq_false, or_false]
 omega
theorem frame3 {s : Script} (h : frameOk2 s) (h3 : tilesOk s.canvas s.tileW s.tileH = false) : frameM s = 3 := by
 rw [frameM, if_neg (fun q => q h.1), if_neg (frameOk2_neg h), if_pos h3]
theorem frame4 {s : Script} (h : frameOk2 s) (h3 : tilesOk s.canvas s.tileW s.tileH = true) (h4 : ordOk s.order (IntKind.i64.wrap (tilesX s.canvas s.tileW s.tileH * tilesY s.canvas s.tileW s.tileH)) = false) : frameM s = 4 := by
 rw [(tiles_wrap _ _ _).1] at h4
 rw [frameM, if_neg (fun q => q h.1), if_neg (frameOk2_neg h), if_neg (by rw [h3]; simp), if_pos h4]
theorem frame5 {s : Script} (h : frameOk2 s) (h3 : tilesOk s.canvas s.tileW s.tileH = true) (h4 : ordOk s.order (IntKind.i64.wrap (tilesX s.canvas s.tileW s.tileH * tilesY s.canvas s.tileW s.tileH)) = true) : frameM s = if 64 < s.images.length ∨ 4096 < s.ops.length then 5 else 0 := by
 rw [(tiles_wrap _ _ _).1] at h4
 rw [frameM, if_neg (fun q => q h.1), if_neg (frameOk2_neg h), if_neg (by rw [h3]; simp), if_neg (by rw [h4]; simp)]
structure ScriptLen (s : Script) : Prop where
 order : s.order.length ≤ 4611686018427387904
 images : s.images.length ≤ 4611686018427387904
 ops : s.ops.length ≤ 4611686018427387904
theorem frame_spec (s : Script) (hs : ScriptLen s) : Pure Sg 71 [ag (scriptE s)] (fun x => x = .b (I (frameM s))) := by
 obtain ⟨h1, h2, h3⟩ := hs
 refine fn_a Tryz.func71 [.tmp 2] ?_
 repeat' (first | refine un_a ?_ | ((with_reducible refine cw_stepV (id := 5) (fun K hW => ?_)); (try simp (maxSteps := 1000000) (disch := omega) only [go_sem]); and_intros; (all_goals first | (refine hK _ ?_; clear hK K) | exact auto_cl | skip)) | ((first | refine st_a (fun K hK => ?_) | refine call_c (sampleMax_spec _) ?_ | refine call_c (rempty_spec _) ?_ | refine gcall_c (fun hg => rarea_spec _) ?_); and_intros; (all_goals first | (refine hK _ ?_; clear hK K) | exact auto_cl | skip)) | (refine if_a (fun hb => ?_) (fun hb => ?_); all_goals try exact bad_a) | (refine ret_a ?_; (try clear hB KB); (try clear hK K)))
 ·rw [frameM, if_pos hb]
 ·refine rgs_split (.c .any) ?_ ?_ trivial ?_ (fun hg => ?_) (fun hg => ?_)
  ·rfl
  ·rfl
  ·(first | (simp (maxSteps := 1000000) (disch := omega) only [go_sem]; done) | (simp (maxSteps := 1000000) (disch := omega) only [go_sem]; rfl))
  ·have hg2 : (emptyR s.canvas || decide (areaR s.canvas > 16777216)) = false := by simpa using hg
   simp (maxSteps := 1000000) (disch := omega) only [go_sem]
   and_intros
   all_goals first | (refine hK _ ?_; clear hK K) | exact auto_cl | skip
   refine gcall_lend (args' := [.c (.p (ints [s.canvas.x0, s.canvas.y0]))]) hg ?_ (near_spec _ (by simp)) ?_ (by trivial) trivial ?_
   ·simp (maxSteps := 1000000) (disch := omega) only [go_sem]
   ·simp (maxSteps := 1000000) (disch := omega) only [go_sem, argsLe_cons, argsLe_nil]
    refine bvle_p (lst_le fun i hi j hj => ?_)
    have h1 : i = 0 ∨ i = 1 := by omega
    have h2 : j = 0 := by omega
    subst h2
    rcases h1 with rfl | rfl <;> rfl
   simp (maxSteps := 1000000) (disch := omega) only [go_sem]
   and_intros
   all_goals first | (refine hK _ ?_; clear hK K) | exact auto_cl | skip
   refine hW _ (mkSt [(1, .b (.c (.ptr 0 0))), (5, .b (.c (.ptr 1 0))), (36, .b (B (emptyR s.canvas || decide (areaR s.canvas > 16777216) || !withinM 1048576 [s.canvas.x0, s.canvas.y0])))] [(0, .fix ((scriptE s).map CV.p)), (1, .fix ((rectE s.canvas).map CV.p))] 2) ?_ ?_
   ·clear hW
    refine le_a [(1, some 1)] ?_ ?_
    and_intros
    all_goals first | exact le_cl | skip
   ·clear hW
    repeat' (first | refine un_a ?_ | ((first | refine st_a (fun K hK => ?_) | refine call_c (count_spec _ _ _) ?_ | refine call_c (tileOrder_spec _ _ (by omega)) ?_); and_intros; (all_goals first | (refine hK _ ?_; clear hK K) | exact auto_cl | skip)) | (refine if_a (fun hb => ?_) (fun hb => ?_); all_goals try exact bad_a) | (refine ret_a ?_; (try clear hB KB); (try clear hK K)))
    ·rw [frame2 ‹_› hb]
    ·rename_i q
     rw [frame3 ⟨‹_›, q⟩ hb]
    ·rename_i q1 q2
     rw [frame4 ⟨‹_›, q1⟩ q2 hb]
    ·rename_i q1 q2 q3
     rw [frame5 ⟨‹_›, q1⟩ q2 q3, if_pos (by omega)]
    ·rename_i q1 q2 q3
     rw [frame5 ⟨‹_›, q1⟩ q2 q3, if_neg (by omega)]
  ·have hg2 : (emptyR s.canvas || decide (areaR s.canvas > 16777216)) = true := by
    cases h : (emptyR s.canvas || decide (areaR s.canvas > 16777216)) with
    | true => rfl
    | false => rw [h] at hg; cases hg
   simp (maxSteps := 1000000) (disch := omega) only [go_sem]
   and_intros
   all_goals first | (refine hK _ ?_; clear hK K) | exact auto_cl | skip
   refine gcall_off (B (withinM 1048576 [s.canvas.x0, s.canvas.y0])) hg trivial ?_
   simp (maxSteps := 1000000) (disch := omega) only [go_sem]
   and_intros
   all_goals first | (refine hK _ ?_; clear hK K) | exact auto_cl | skip
   refine hW _ (mkSt [(1, .b (.c (.ptr 0 0))), (5, .b (.c (.ptr 1 0))), (36, .b (B (emptyR s.canvas || decide (areaR s.canvas > 16777216) || !withinM 1048576 [s.canvas.x0, s.canvas.y0])))] [(0, .fix ((scriptE s).map CV.p)), (1, .fix ((rectE s.canvas).map CV.p))] 2) ?_ ?_
   ·clear hW
    refine le_a [(1, some 1)] ?_ ?_
    and_intros
    all_goals first | exact le_cl | skip
   ·clear hW
    repeat' (first | refine un_a ?_ | ((first | refine st_a (fun K hK => ?_) | refine call_c (count_spec _ _ _) ?_ | refine call_c (tileOrder_spec _ _ (by omega)) ?_); and_intros; (all_goals first | (refine hK _ ?_; clear hK K) | exact auto_cl | skip)) | (refine if_a (fun hb => ?_) (fun hb => ?_); all_goals try exact bad_a) | (refine ret_a ?_; (try clear hB KB); (try clear hK K)))
    ·rw [frame2 ‹_› hb]
    ·rename_i q
     rw [frame3 ⟨‹_›, q⟩ hb]
    ·rename_i q1 q2
     rw [frame4 ⟨‹_›, q1⟩ q2 hb]
    ·rename_i q1 q2 q3
     rw [frame5 ⟨‹_›, q1⟩ q2 q3, if_pos (by omega)]
    ·rename_i q1 q2 q3
     rw [frame5 ⟨‹_›, q1⟩ q2 q3, if_neg (by omega)]
end Go.Proofs.YtlblgkelhibdoaaGreatDoor
set_option maxHeartbeats 2000000
set_option maxRecDepth 16000
namespace Go.Proofs.YtlblgkelhibdoaaGreatDoor
open Go Go.SL
open Go.RowKit (wrap64)
abbrev UQ (x : Int) : BV := .c (.p (.val (.int .u64 x)))
structure Q64 (n : Int) : Prop where
 l : 0 ≤ n
 u : n < 18446744073709551616
theorem wq (n : Int) (h : Q64 n) : IntKind.u64.wrap n = n := wu64 h.l (by have := h.u; omega)
theorem half_bd {n d : Int} (hn : 0 ≤ n) (hd : 0 < d) : 0 ≤ half n d ∧ half n d ≤ n := by
 refine ⟨half_nonneg hd hn, half_le hd ?_⟩
 have := Int.mul_le_mul_of_nonneg_right (show 1 ≤ d by omega) hn
 omega
theorem half_sp (n d : Int) (hn : Q64 n) (hd : Q64 d) : Pure Sg 137 [UQ n, UQ d] (fun r => r = .b (UQ (half n d))) := by
 obtain ⟨n0, n1⟩ := hn
 obtain ⟨d0, d1⟩ := hd
 refine fn_a Tryz.func137 [.tmp 4] ?_
 repeat' (first | refine un_a ?_ | (refine st_a (fun K hK => ?_); and_intros; (all_goals first | (refine hK _ ?_; clear hK K) | exact auto_cl | skip)) | (apply cw_ite; (case hf => rfl); (case hc => exact ev_a); (all_goals first | (intro hb; (try simp only [hbs] at hb)) | skip)) | exact atN_intro | (refine if_a (fun hb => ?_) (fun hb => ?_); all_goals try exact bad_a) | (refine ret_a ?_; (try clear hB KB); (try clear hK K)))
 ·rw [half, if_pos hb]
 ·have h1 := Int.emod_nonneg n hb
  have h2 := Int.emod_lt_of_pos n (show 0 < d by omega)
  have h3 : 0 ≤ n / d := Int.ediv_nonneg n0 d0
  have h4 : n / d ≤ n := Int.ediv_le_self _ n0
  have h5 : n % d ≥ d - n % d → n / d + 1 ≤ n := fun q => by
   have := half_bd n0 (show 0 < d by omega)
   rw [half, if_neg hb, if_pos q] at this
   exact this.2
  rw [half, if_neg hb, wq (n / d) ⟨h3, by omega⟩, wq (d - n % d) ⟨by omega, by omega⟩]
  by_cases q : n % d ≥ d - n % d
  ·have := h5 q
   rw [if_pos q, if_pos q, wq _ ⟨by omega, by omega⟩]
  ·rw [if_neg q, if_neg q]
theorem full_sp (m : Int) : Pure Sg 130 [U m] (fun r => r = .b (B (decide (m = 255 ∨ m = 65535)))) := by
 refine fn_a Tryz.func130 [.tmp 2] ?_
 repeat' (first | (refine st_a (fun K hK => ?_); and_intros; (all_goals first | (refine hK _ ?_; clear hK K) | exact auto_cl | skip)) | (refine ret_a ?_; (try clear hB KB); (try clear hK K)))
 refine bool_eq ?_
 (try simp only [Bool.and_eq_true, Bool.or_eq_true, Bool.not_eq_true', Bool.not_eq_false', decide_eq_true_eq, decide_eq_false_iff_not, ge_iff_le, gt_iff_lt, beq_iff_eq, bne_iff_ne, ne_eq, Bool.or_eq_false_iff, Bool.and_eq_false_imp, Bool.not_true, Bool.not_false])
 try omega
def pixOk (p : Pixel) (m : Int) : Bool := decide (p.c0 ≤ p.a ∧ p.c1 ≤ p.a ∧ p.c2 ≤ p.a ∧ p.a ≤ p.f ∧ p.f ≤ m)
theorem validPixel_sp (p : Pixel) (m : Int) : Pure Sg 152 [ag (pixE p), U m] (fun r => r = .b (B (pixOk p m))) := by
 refine fn_a Tryz.func152 [.tmp 4] ?_
 repeat' (first | (refine st_a (fun K hK => ?_); and_intros; (all_goals first | (refine hK _ ?_; clear hK K) | exact auto_cl | skip)) | (refine ret_a ?_; (try clear hB KB); (try clear hK K)))
 refine bool_eq ?_
 (try simp only [pixOk, Bool.and_eq_true, Bool.or_eq_true, Bool.not_eq_true', Bool.not_eq_false', decide_eq_true_eq, decide_eq_false_iff_not, ge_iff_le, gt_iff_lt, beq_iff_eq, bne_iff_ne, ne_eq, Bool.or_eq_false_iff, Bool.and_eq_false_imp, Bool.not_true, Bool.not_false])
 try omega
theorem cast_u16 {n : Int} (h0 : 0 ≤ n) (h1 : n ≤ 65535) : IntKind.u16.wrap n = n := wu16 h0 h1
theorem shape_sp (op f g m : Int) (hm : Full m) (hf : 0 ≤ f) (hfm : f ≤ m) (hg : 0 ≤ g) (hgm : g ≤ m) : Pure Sg 166 [I op, U f, U g, U m] (fun r => r = .b (U (shapeM op f g m))) := by
 have hle := hm.le
 have hp := hm.pos
 have a1 : 0 ≤ m * f ∧ m * f ≤ 65535 * 65535 := ⟨mul_nn (by omega) hf, mul_lr hle (by omega) hf (by omega)⟩
 have a2 : 0 ≤ (m - f) * g ∧ (m - f) * g ≤ 65535 * 65535 := ⟨mul_nn (by omega) hg, mul_lr (by omega) (by omega) hg (by omega)⟩
 have a3 : 0 ≤ f * g ∧ f * g ≤ 65535 * 65535 := ⟨mul_nn hf hg, mul_lr (by omega) (by omega) hg (by omega)⟩
 have hs := shape_bd (op := op) hm hf hfm hg hgm
 have d1 : decide (f > m) = false := decide_eq_false (by omega)
 have d2 : decide (g > m) = false := decide_eq_false (by omega)
 have hi := isOp_spec op
 by_cases ho : 1 ≤ op ∧ op ≤ 12
 ·have hv : op = 1 ∨ op = 2 ∨ op = 3 ∨ op = 4 ∨ op = 5 ∨ op = 6 ∨ op = 7 ∨ op = 8 ∨ op = 9 ∨ op = 10 ∨ op = 11 ∨ op = 12 := by omega
  refine fn_a Tryz.func166 [.tmp 8] ?_
  rw [show isOp op = true from decide_eq_true ho] at hi
  rcases hv with rfl | rfl | rfl | rfl | rfl | rfl | rfl | rfl | rfl | rfl | rfl | rfl
  all_goals
   repeat' (first | refine dec_a (And.intro d1 d2) ?_ | refine un_a ?_ | ((first | refine st_a (fun K hK => ?_) | refine call_c (hi) ?_ | refine call_c (half_sp _ m ⟨by omega, by omega⟩ ⟨by omega, by omega⟩) ?_); and_intros; (all_goals first | (refine hK _ ?_; clear hK K) | exact auto_cl | skip)) | (refine ret_a ?_; (try clear hB KB); (try clear hK K)))
  all_goals first
   | rfl
   | (refine congrArg (fun v => SV.b (U v)) ?_; exact cast_u16 hs.1 (Int.le_trans hs.2 hle))
 ·rw [show isOp op = false from decide_eq_false ho] at hi
  refine fn_a Tryz.func166 [.tmp 8] ?_
  repeat' (first | with_reducible exact tr_a | refine dec_a (And.intro d1 d2) ?_ | refine un_a ?_ | ((first | refine st_a (fun K hK => ?_) | refine rg_a ?_ | refine call_c (hi) ?_ | refine gcall_c (fun hg => hi) ?_); and_intros; (all_goals first | (refine hK _ ?_; clear hK K) | exact auto_cl | skip)) | ((first | apply cw_ite | apply cw_iteN); (case hf => rfl); (case hc => exact ev_a); (all_goals first | (intro hb; (try simp only [hbs] at hb)) | skip)) | exact atN_intro | (refine if_a (fun hb => ?_) (fun hb => ?_); all_goals try exact bad_a) | refine cw_blocks (fun KB hB => ?_) | (refine hB _ ?_; clear hB KB) | refine exit_by (S := Sg) (by assumption) ?_ | (refine ret_a ?_; (try clear hB KB); (try clear hK K)))
  unfold shapeM
  repeat rw [if_neg (by omega)]
theorem factors_sp (op a b m : Int) (hm : Full m) (ho : 1 ≤ op ∧ op ≤ 12) (ha : 0 ≤ a) (ham : a ≤ m) (hb : 0 ≤ b) (hbm : b ≤ m) : Pure Sg 180 [I op, U a, U b, U m] (fun r => r = .tup [U (facA op a b m), U (facB op a b m), B true]) := by
 have hle := hm.le
 have d1 : decide (a > m) = false := decide_eq_false (by omega)
 have d2 : decide (b > m) = false := decide_eq_false (by omega)
 have hi := isOp_spec op
 have hv : op = 1 ∨ op = 2 ∨ op = 3 ∨ op = 4 ∨ op = 5 ∨ op = 6 ∨ op = 7 ∨ op = 8 ∨ op = 9 ∨ op = 10 ∨ op = 11 ∨ op = 12 := by omega
 refine fn_a Tryz.func180 [.tmp 8, .tmp 9, .tmp 10] ?_
 rw [show isOp op = true from decide_eq_true ho] at hi
 rcases hv with rfl | rfl | rfl | rfl | rfl | rfl | rfl | rfl | rfl | rfl | rfl | rfl
 all_goals
  repeat' (first | refine dec_a (And.intro d1 d2) ?_ | refine un_a ?_ | ((first | refine st_a (fun K hK => ?_) | refine call_c (hi) ?_); and_intros; (all_goals first | (refine hK _ ?_; clear hK K) | exact auto_cl | skip)) | (refine ret_a ?_; (try clear hB KB); (try clear hK K)))
 all_goals rfl
theorem alphaM_raw {op a b m : Int} (hm : Full m) (ha : 0 ≤ a) (ham : a ≤ m) (hb : 0 ≤ b) (hbm : b ≤ m) : 0 ≤ facA op a b m * a ∧ facA op a b m * a ≤ 65535 * 65535 ∧ 0 ≤ facB op a b m * b ∧ facB op a b m * b ≤ 65535 * 65535 := by
 have hle := hm.le
 have ⟨a1, a2⟩ := facA_bd (op := op) ha ham hb hbm
 have ⟨b1, b2⟩ := facB_bd (op := op) ha ham hb hbm
 exact ⟨mul_nn a1 ha, mul_lr (by omega) (by omega) ha (by omega), mul_nn b1 hb, mul_lr (by omega) (by omega) hb (by omega)⟩
theorem alpha_sp (op a b m : Int) (hm : Full m) (ho : 1 ≤ op ∧ op ≤ 12) (ha : 0 ≤ a) (ham : a ≤ m) (hb : 0 ≤ b) (hbm : b ≤ m) : Pure Sg 171 [I op, U a, U b, U m] (fun r => r = .b (U (alphaM op a b m))) := by
 have hle := hm.le
 have hp := hm.pos
 have hf := factors_sp op a b m hm ho ha ham hb hbm
 have hr := alphaM_raw (op := op) hm ha ham hb hbm
 have hn := alpha_nn (op := op) hm ha ham hb hbm
 have hl := alpha_le (op := op) hm ha ham hb hbm
 have ⟨a1, a2⟩ := facA_bd (op := op) ha ham hb hbm
 have ⟨b1, b2⟩ := facB_bd (op := op) ha ham hb hbm
 unfold alphaM at *
 generalize facA op a b m = fa at *
 generalize facB op a b m = fb at *
 refine fn_a Tryz.func171 [.tmp 8] ?_
 repeat' (first | with_reducible exact tr_a | ((first | refine st_a (fun K hK => ?_) | refine call_c (hf) ?_ | refine call_c (half_sp _ m ⟨by omega, by omega⟩ ⟨by omega, by omega⟩) ?_); and_intros; (all_goals first | (refine hK _ ?_; clear hK K) | exact auto_cl | skip)) | (refine ret_a ?_; (try clear hB KB); (try clear hK K)))
end Go.Proofs.YtlblgkelhibdoaaGreatDoor
