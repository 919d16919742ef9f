/- Part 3 of the proof: F14, F15, F16, F17, D3, F22, F23, FM, FL, FO, D4, D5, E1, EM, EP, EQ, ER, E2, E2L. -/
import Derived.Test.YtbpplplnkgmhlaaGreatDoorM0
import Derived.Test.YtbpplplnkgmhlaaGreatDoorM1
import Derived.Test.YtbpplplnkgmhlaaGreatDoorM2
set_option linter.unusedSimpArgs false
set_option linter.unusedVariables false
set_option maxHeartbeats 2000000
set_option maxRecDepth 16000
namespace Go.Proofs.YtbpplplnkgmhlaaGreatDoor
open Go Go.SL
open Go.RowKit (wrap64)

def ordAt (x : List Int) (n : Int) (i : Nat) : Bool := decide (0 ≤ x.getD i 0 ∧ x.getD i 0 < n) && !(x.take i).contains (x.getD i 0)
def ordL (l : List Int) (n : Int) : List Int := if l.length = 0 then iota n.toNat else l
def ordOk (l : List Int) (n : Int) : Bool := decide (0 ≤ n ∧ n ≤ 16777216 ∧ (l.length = 0 ∨ l.length = n)) && (List.range n.toNat).all (ordAt (ordL l n) n)
def orderM (l : List Int) (n : Int) : List Int := if ordOk l n = true then ordL l n else []
theorem iota_getD {n i : Nat} (h : i < n) : (iota n).getD i 0 = i := by simp [iota, h]
theorem ordL_len {l : List Int} {n : Int} (h0 : 0 ≤ n) (h : l.length = 0 ∨ l.length = n) : (ordL l n).length = n.toNat := by
  unfold ordL; split
  · exact iota_len _
  · omega
theorem ordOk_no {l : List Int} {n : Int} {i : Nat} (h0 : 0 ≤ n) (hi : (i : Int) < n) (h : ordAt (ordL l n) n i = false) : ordOk l n = false := by
  rw [ordOk, Bool.and_eq_false_imp]
  intro _
  rw [List.all_eq_false]
  exact ⟨i, List.mem_range.2 (by omega), by simp [h]⟩
def seenF (x : List Int) (i : Nat) : Nat → Nat → PV := fun a _ => PB ((x.take i).contains (a : Int))
theorem seen_step {x : List Int} {i : Nat} (hi : i < x.length) (h0 : 0 ≤ x.getD i 0) (a j : Nat) : (if a = (x.getD i 0).toNat then PB true else seenF x i a j) = seenF x (i + 1) a j := by
  have e : x.take (i + 1) = x.take i ++ [x.getD i 0] := by
    rw [List.take_add_one, List.getElem?_eq_getElem hi, List.getD_eq_getElem?_getD, List.getElem?_eq_getElem hi]; rfl
  have h : (x.take (i + 1)).contains (a : Int) = ((x.take i).contains (a : Int) || decide ((a : Int) = x.getD i 0)) := by
    rw [e, Bool.eq_iff_iff]
    simp
  unfold seenF
  rw [h]
  by_cases ha : a = (x.getD i 0).toNat
  · rw [if_pos ha, decide_eq_true (by omega), Bool.or_true]
  · rw [if_neg ha, decide_eq_false (by omega), Bool.or_false]

theorem tileOrder_spec (l : List Int) (n : Int) (hl : l.length ≤ 4611686018427387904) :
    Pure Sg 157 [.c (.p (ints l)), I n] (fun r => r = .tup [.c (.p (ints (orderM l n))), B (ordOk l n)]) := by
  refine pure_le ?_
  refine pure_of Tryz.func157 rfl (rs := [.tmp 4, .tmp 5]) rfl rfl mixed (by decide +kernel) (Nat.le_of_ble_eq_true rfl) (argsLt_mem (by simp (maxSteps := 1000000) (disch := omega) only [go_sem])) ?_
  repeat' (first | exact tr_a | refine un_a ?_ | ((first | refine st_a (fun K hK => ?_) | refine rg_a ?_); (repeat' (refine And.intro ?_ ?_)); (all_goals first | (refine hK _ ?_; clear hK K) | exact auto_cl | skip)) | ((first | apply cw_ite | apply cw_iteN); (case hf => rfl); (case hc => exact ev_a); (all_goals first | (intro hb; (try simp only [hbs] at hb)) | skip)) | exact atN_intro | (refine if_a (fun hb => ?_) (fun hb => ?_); (all_goals (try first | with_reducible exact True.intro | (exfalso; omega)))) | refine cw_blocks (fun KB hB => ?_) | (refine hB _ ?_; clear hB KB) | refine exit_by (S := Sg) (by assumption) ?_ | (refine ret_a ?_; (try clear hB KB); (try clear hK K)))
  · have : ordOk l n = false := by
      rw [ordOk, decide_eq_false (by omega)]; rfl
    rw [orderM, this]
    exact sle_tup ⟨ble_c nil_le, ble_rfl trivial, trivial⟩
  refine cw_loop (X := Nat) (fun i => mkSt [(0, .b (.c (.p (ints l)))), (1, .b (I n)), (6, .b (.c (.own 1 n.toNat))), (7, .b (.c (.own 2 n.toNat))), (31, .b (I n)), (32, .b (I i))]
    [(1, .arr 3 1 n.toNat (fun a _ => PI (if a < i then (ordL l n).getD a 0 else 0))), (2, .arr 4 1 n.toNat (seenF (ordL l n) i))] 3) (fun i => (i : Int) ≤ n ∧ ∀ k, k < i → ordAt (ordL l n) n k = true) (fun i => n.toNat - i) 0 ?_ ?_ ?_
  · exact ⟨by omega, fun k hk => by omega⟩
  · refine le_a [(1, some 0), (2, some 1)] ?_ ?_
    repeat' (refine And.intro ?_ ?_)
    all_goals first | exact le_cl | skip
    · rw [Int.toNat_of_nonneg (by omega)]; exact .inl rfl
    · refine .inr fun a ha j hj => ?_
      have : j = 0 := by omega
      subst this
      exact PV.le_refl _
    · refine .inr fun a ha j hj => ?_
      have : j = 0 := by omega
      subst this
      exact PV.le_refl _
  · rintro i ⟨hi, hok⟩
    have hx : i < n.toNat → (0 ≤ n ∧ (l.length = 0 ∨ l.length = n)) → (if 0 < (l.length : Int) then l.getD (i : Int).toNat default else (i : Int)) = (ordL l n).getD i 0 := fun h1 h2 => by
      rw [ordL, Int.toNat_natCast]
      by_cases h0 : l.length = 0
      · rw [if_neg (by omega), if_pos h0, iota_getD h1]
      · rw [if_pos (by omega), if_neg h0]; rfl
    repeat' (first | exact tr_a | refine un_a ?_ | ((first | refine st_a (fun K hK => ?_) | refine rg_a ?_); (repeat' (refine And.intro ?_ ?_)); (all_goals first | (refine hK _ ?_; clear hK K) | exact auto_cl | skip)) | ((first | apply cw_ite | apply cw_iteN); (case hf => rfl); (case hc => exact ev_a); (all_goals first | (intro hb; (try simp only [hbs] at hb)) | skip)) | exact atN_intro | (refine if_a (fun hb => ?_) (fun hb => ?_); (all_goals (try first | with_reducible exact True.intro | (exfalso; omega)))) | refine cw_blocks (fun KB hB => ?_) | (refine hB _ ?_; clear hB KB) | refine exit_by (S := Sg) (by assumption) ?_ | (refine ret_a ?_; (try clear hB KB); (try clear hK K)))
    · rw [hx (by omega) (by omega)] at hb
      have : ordOk l n = false := by
        refine ordOk_no (i := i) (by omega) (by omega) ?_
        rw [ordAt]
        by_cases h1 : 0 ≤ (ordL l n).getD i 0 ∧ (ordL l n).getD i 0 < n
        · rcases hb with h | h
          · omega
          · rw [Int.toNat_of_nonneg h1.1] at h
            rw [h]; simp
        · rw [decide_eq_false h1]; rfl
      rw [orderM, this]
      exact sle_tup ⟨ble_c nil_le, ble_rfl trivial, trivial⟩
    · rw [hx (by omega) (by omega)] at hb
      rw [thenQ_normal]
      refine wk_loop (i + 1) ?_ ⟨by omega, fun k hk => ?_⟩ (by omega)
      · have hlen := ordL_len (l := l) (n := n) (by omega) (by omega)
        refine le_a [(1, some 1), (2, some 2)] ?_ ?_
        repeat' (refine And.intro ?_ ?_)
        all_goals first | exact le_cl | skip
        · refine .inr fun a ha j hj => ?_
          have : j = 0 := by omega
          subst this
          have e : ∀ p : Prop, [Decidable p] → (if p then PI (l.getD (i : Int).toNat default) else PI (i : Int)) = PI (if p then l.getD (i : Int).toNat default else (i : Int)) := fun p _ => by split <;> rfl
          by_cases h : a = i
          · subst h
            simp only [Int.toNat_natCast, gt_iff_lt] at hx ⊢
            have e2 : (if a < a + 1 then (ordL l n).getD a 0 else 0) = (if 0 < (l.length : Int) then l.getD a default else (a : Int)) := by rw [hx (by omega) (by omega), if_pos (by omega)]
            rw [e2]
            by_cases q : 0 < (l.length : Int)
            · simp only [if_pos q]; exact PV.le_refl _
            · simp only [if_neg q]; exact PV.le_refl _
          · simp only [Int.toNat_natCast, gt_iff_lt, if_neg h]
            rw [show (if a < i + 1 then (ordL l n).getD a 0 else 0) = (if a < i then (ordL l n).getD a 0 else 0) by
              by_cases h2 : a < i
              · rw [if_pos h2, if_pos (by omega)]
              · rw [if_neg h2, if_neg (by omega)]]
            split <;> exact PV.le_refl _
        · refine .inr fun a ha j hj => ?_
          have : j = 0 := by omega
          subst this
          simp only [gt_iff_lt, hx (by omega) (by omega)]
          rw [← seen_step (by omega) hb.1.1]
          by_cases h : a = ((ordL l n).getD i 0).toNat
          · rw [if_pos h, if_pos h]; exact PV.le_refl _
          · rw [if_neg h, if_neg h]; exact PV.le_refl _
      · by_cases h : k = i
        · subst h
          rw [Int.toNat_of_nonneg hb.1.1] at hb
          rw [ordAt, decide_eq_true hb.1, hb.2]; rfl
        · exact hok k (by omega)
    · have e : ordOk l n = true := by
        rw [ordOk, decide_eq_true (by omega), Bool.true_and, List.all_eq_true]
        exact fun k hk => hok k (by have := List.mem_range.1 hk; omega)
      have hlen := ordL_len (l := l) (n := n) (by omega) (by omega)
      rw [orderM, if_pos e, e, hlen]
      refine sle_tup ⟨ble_c (lst_le fun a ha j hj => ?_), ble_rfl trivial, trivial⟩
      have : j = 0 := by omega
      subst this
      rw [if_pos (by omega)]; rfl

theorem r13order_spec (l : List Int) (n : Int) (hl : l.length ≤ 4611686018427387904) :
    Pure Sg 146 [.c (.p (ints l)), I n] (fun r => r = .tup [.c (.p (ints (orderM l n))), B (ordOk l n)]) := by
  refine pure_le ?_
  refine pure_of Tryz.func146 rfl (rs := [.tmp 4, .tmp 5]) rfl rfl mixed (by decide +kernel) (Nat.le_of_ble_eq_true rfl) (argsLt_mem (by simp (maxSteps := 1000000) (disch := omega) only [go_sem])) ?_
  repeat' (first | exact tr_a | refine un_a ?_ | ((first | refine st_a (fun K hK => ?_) | refine rg_a ?_); (repeat' (refine And.intro ?_ ?_)); (all_goals first | (refine hK _ ?_; clear hK K) | exact auto_cl | skip)) | ((first | apply cw_ite | apply cw_iteN); (case hf => rfl); (case hc => exact ev_a); (all_goals first | (intro hb; (try simp only [hbs] at hb)) | skip)) | exact atN_intro | (refine if_a (fun hb => ?_) (fun hb => ?_); (all_goals (try first | with_reducible exact True.intro | (exfalso; omega)))) | refine cw_blocks (fun KB hB => ?_) | (refine hB _ ?_; clear hB KB) | refine exit_by (S := Sg) (by assumption) ?_ | (refine ret_a ?_; (try clear hB KB); (try clear hK K)))
  · have : ordOk l n = false := by
      rw [ordOk, decide_eq_false (by omega)]; rfl
    rw [orderM, this]
    exact sle_tup ⟨ble_c nil_le, ble_rfl trivial, trivial⟩
  refine cw_loop (X := Nat) (fun i => mkSt [(0, .b (.c (.p (ints l)))), (1, .b (I n)), (6, .b (.c (.own 2 n.toNat))), (7, .b (.c (.own 1 i))), (8, .b (I i))]
    [(1, .arr 3 1 i (fnOf intE ((ordL l n).take i))), (2, .arr 4 1 n.toNat (seenF (ordL l n) i))] 3) (fun i => (i : Int) ≤ n ∧ ∀ k, k < i → ordAt (ordL l n) n k = true) (fun i => n.toNat - i) 0 ?_ ?_ ?_
  · exact ⟨by omega, fun k hk => by omega⟩
  · refine le_a [(1, none), (2, some 0)] ?_ ?_
    repeat' (refine And.intro ?_ ?_)
    all_goals first | exact le_cl | skip
    refine .inr fun a ha j hj => ?_
    have : j = 0 := by omega
    subst this
    exact PV.le_refl _
  · rintro i ⟨hi, hok⟩
    have hx : i < n.toNat → (0 ≤ n ∧ (l.length = 0 ∨ l.length = n)) → (if 0 < (l.length : Int) then l.getD (i : Int).toNat default else (i : Int)) = (ordL l n).getD i 0 := fun h1 h2 => by
      rw [ordL, Int.toNat_natCast]
      by_cases h0 : l.length = 0
      · rw [if_neg (by omega), if_pos h0, iota_getD h1]
      · rw [if_pos (by omega), if_neg h0]; rfl
    repeat' (first | exact tr_a | refine un_a ?_ | ((first | refine st_a (fun K hK => ?_) | refine rg_a ?_); (repeat' (refine And.intro ?_ ?_)); (all_goals first | (refine hK _ ?_; clear hK K) | exact auto_cl | skip)) | ((first | apply cw_ite | apply cw_iteN); (case hf => rfl); (case hc => exact ev_a); (all_goals first | (intro hb; (try simp only [hbs] at hb)) | skip)) | exact atN_intro | (refine if_a (fun hb => ?_) (fun hb => ?_); (all_goals (try first | with_reducible exact True.intro | (exfalso; omega)))) | refine cw_blocks (fun KB hB => ?_) | (refine hB _ ?_; clear hB KB) | refine exit_by (S := Sg) (by assumption) ?_ | (refine ret_a ?_; (try clear hB KB); (try clear hK K)))
    · rw [hx (by omega) (by omega)] at hb
      have : ordOk l n = false := by
        refine ordOk_no (i := i) (by omega) (by omega) ?_
        rw [ordAt]
        by_cases h1 : 0 ≤ (ordL l n).getD i 0 ∧ (ordL l n).getD i 0 < n
        · rcases hb with h | h
          · omega
          · rw [Int.toNat_of_nonneg h1.1] at h
            rw [h]; simp
        · rw [decide_eq_false h1]; rfl
      rw [orderM, this]
      exact sle_tup ⟨ble_c nil_le, ble_rfl trivial, trivial⟩
    · rw [hx (by omega) (by omega)] at hb
      have hlen := ordL_len (l := l) (n := n) (by omega) (by omega)
      rw [thenQ_normal]
      refine wk_loop (i + 1) ?_ ⟨by omega, fun k hk => ?_⟩ (by omega)
      · have e : (ordL l n).take (i + 1) = (ordL l n).take i ++ [(ordL l n).getD i 0] := by
          rw [List.take_add_one, List.getElem?_eq_getElem (by omega), List.getD_eq_getElem?_getD, List.getElem?_eq_getElem (by omega)]; rfl
        have hlt : ((ordL l n).take i).length = i := by rw [List.length_take]; omega
        refine le_a [(1, some 4), (2, some 2)] ?_ ?_
        repeat' (refine And.intro ?_ ?_)
        all_goals first | exact le_cl | skip
        · have key := fun g hg => arr_push (enc := intE) (xs := (ordL l n).take i) (x := (ordL l n).getD i 0) (s := 1) (g := g) hg
          simp only [hlt, ← e] at key
          refine .inr (key _ fun j hj => ?_)
          have : j = 0 := by omega
          subst this
          simp only [gt_iff_lt, hx (by omega) (by omega)]
          rfl
        · refine .inr fun a ha j hj => ?_
          have : j = 0 := by omega
          subst this
          simp only [gt_iff_lt, hx (by omega) (by omega)]
          rw [← seen_step (by omega) hb.1.1]
          by_cases h : a = ((ordL l n).getD i 0).toNat
          · rw [if_pos h, if_pos h]; exact PV.le_refl _
          · rw [if_neg h, if_neg h]; exact PV.le_refl _
      · by_cases h : k = i
        · subst h
          rw [Int.toNat_of_nonneg hb.1.1] at hb
          rw [ordAt, decide_eq_true hb.1, hb.2]; rfl
        · exact hok k (by omega)
    · have e : ordOk l n = true := by
        rw [ordOk, decide_eq_true (by omega), Bool.true_and, List.all_eq_true]
        exact fun k hk => hok k (by have := List.mem_range.1 hk; omega)
      have hlen := ordL_len (l := l) (n := n) (by omega) (by omega)
      have hi2 : i = n.toNat := by omega
      rw [orderM, if_pos e, e, List.take_of_length_le (by omega), hlen, hi2]
      exact sle_tup ⟨ble_rfl trivial, ble_rfl trivial, trivial⟩
end Go.Proofs.YtbpplplnkgmhlaaGreatDoor

set_option maxHeartbeats 2000000
set_option maxRecDepth 16000
namespace Go.Proofs.YtbpplplnkgmhlaaGreatDoor
open Go Go.SL
open Go.RowKit (wrap64)

def frameM (s : Script) : Int :=
  if ¬ (s.bits = 8 ∨ s.bits = 16) then 1
  else if emptyR s.canvas = true ∨ 16777216 < areaR s.canvas ∨ withinM 1048576 [s.canvas.x0, s.canvas.y0] = false then 2
  else if tilesOk s.canvas s.tileW s.tileH = false then 3
  else if ordOk s.order (tilesX s.canvas s.tileW s.tileH * tilesY s.canvas s.tileW s.tileH) = false then 4
  else if 64 < s.images.length ∨ 4096 < s.ops.length then 5 else 0

theorem tiles_wrap (r : Rect) (w h : Int) : IntKind.i64.wrap (tilesX r w h * tilesY r w h) = tilesX r w h * tilesY r w h ∧ 0 ≤ tilesX r w h * tilesY r w h := by
  unfold tilesX tilesY
  by_cases ht : tilesOk r w h = true
  · rw [if_pos ht, if_pos ht]
    simp only [tilesOk, Bool.and_eq_true, Bool.not_eq_true', decide_eq_true_eq] at ht
    obtain ⟨he, h1, h2, h3, h4⟩ := ht
    have hb := emptyR_false (r := r) (by simp [he])
    have b1 : 0 ≤ (r.x1 - r.x0 - 1) / w := Int.ediv_nonneg (by omega) (by omega)
    have b2 : (r.x1 - r.x0 - 1) / w ≤ r.x1 - r.x0 - 1 := Int.ediv_le_self _ (by omega)
    have c1 : 0 ≤ (r.y1 - r.y0 - 1) / h := Int.ediv_nonneg (by omega) (by omega)
    have c2 : (r.y1 - r.y0 - 1) / h ≤ r.y1 - r.y0 - 1 := Int.ediv_le_self _ (by omega)
    have hm : ((r.x1 - r.x0 - 1) / w + 1) * ((r.y1 - r.y0 - 1) / h + 1) ≤ 2147483648 * 2147483648 := Int.mul_le_mul (by omega) (by omega) (by omega) (by omega)
    have hp : 0 ≤ ((r.x1 - r.x0 - 1) / w + 1) * ((r.y1 - r.y0 - 1) / h + 1) := Int.mul_nonneg (by omega) (by omega)
    exact ⟨w64' (by omega) (by omega), hp⟩
  · rw [if_neg ht, if_neg ht]; decide
theorem frame1 {s : Script} (h : ¬(s.bits = 8 ∨ s.bits = 16)) : frameM s = 1 := by rw [frameM, if_pos h]
theorem frame2 {s : Script} (h1 : s.bits = 8 ∨ s.bits = 16) (h : (emptyR s.canvas = true ∨ 16777216 < areaR s.canvas) ∨ withinM 1048576 [s.canvas.x0, s.canvas.y0] = false) : frameM s = 2 := by
  rw [frameM, if_neg (fun q => q h1), if_pos (by rw [← or_assoc]; exact h)]
def frameOk2 (s : Script) : Prop := (s.bits = 8 ∨ s.bits = 16) ∧ (emptyR s.canvas = false ∧ areaR s.canvas ≤ 16777216) ∧ withinM 1048576 [s.canvas.x0, s.canvas.y0] = true
theorem frameOk2_neg {s : Script} (h : frameOk2 s) : ¬ (emptyR s.canvas = true ∨ 16777216 < areaR s.canvas ∨ withinM 1048576 [s.canvas.x0, s.canvas.y0] = false) := by
  obtain ⟨_, ⟨h1, h2⟩, h3⟩ := h
  rw [h1, h3]
  simp only [Bool.false_eq_true, false_or, Bool.true_eq_false, or_false]
  omega
theorem frame3 {s : Script} (h : frameOk2 s) (h3 : tilesOk s.canvas s.tileW s.tileH = false) : frameM s = 3 := by
  rw [frameM, if_neg (fun q => q h.1), if_neg (frameOk2_neg h), if_pos h3]
theorem frame4 {s : Script} (h : frameOk2 s) (h3 : tilesOk s.canvas s.tileW s.tileH = true) (h4 : ordOk s.order (IntKind.i64.wrap (tilesX s.canvas s.tileW s.tileH * tilesY s.canvas s.tileW s.tileH)) = false) : frameM s = 4 := by
  rw [(tiles_wrap _ _ _).1] at h4
  rw [frameM, if_neg (fun q => q h.1), if_neg (frameOk2_neg h), if_neg (by rw [h3]; simp), if_pos h4]
theorem frame5 {s : Script} (h : frameOk2 s) (h3 : tilesOk s.canvas s.tileW s.tileH = true) (h4 : ordOk s.order (IntKind.i64.wrap (tilesX s.canvas s.tileW s.tileH * tilesY s.canvas s.tileW s.tileH)) = true) : frameM s = if 64 < s.images.length ∨ 4096 < s.ops.length then 5 else 0 := by
  rw [(tiles_wrap _ _ _).1] at h4
  rw [frameM, if_neg (fun q => q h.1), if_neg (frameOk2_neg h), if_neg (by rw [h3]; simp), if_neg (by rw [h4]; simp)]

structure ScriptLen (s : Script) : Prop where
  order : s.order.length ≤ 4611686018427387904
  images : s.images.length ≤ 4611686018427387904
  ops : s.ops.length ≤ 4611686018427387904

theorem frame_spec (s : Script) (hs : ScriptLen s) : Pure Sg 93 [ag (scriptE s)] (fun x => x = .b (I (frameM s))) := by
  obtain ⟨h1, h2, h3⟩ := hs
  refine pure_of Tryz.func93 rfl (rs := [.tmp 2]) rfl rfl mixed (by decide +kernel) (Nat.le_of_ble_eq_true rfl) (argsLt_mem (by simp (maxSteps := 1000000) (disch := omega) only [go_sem])) ?_
  repeat' (first | exact tr_a | refine un_a ?_ | ((with_reducible refine cw_stepV (id := 5) (fun K hW => ?_)); (try simp (maxSteps := 1000000) (disch := omega) only [go_sem]); (repeat' (refine And.intro ?_ ?_)); (all_goals first | (refine hK _ ?_; clear hK K) | exact auto_cl | skip)) | ((first | refine st_a (fun K hK => ?_) | refine rg_a ?_ | refine call_c (sampleMax_spec _) ?_ | refine gcall_c (fun hg => sampleMax_spec _) ?_ | refine call_c (rempty_spec _) ?_ | refine gcall_c (fun hg => rempty_spec _) ?_ | refine call_c (rarea_spec _) ?_ | refine gcall_c (fun hg => rarea_spec _) ?_ | refine call_c (count_spec _ _ _) ?_ | refine gcall_c (fun hg => count_spec _ _ _) ?_ | refine call_c (tileOrder_spec _ _ (by omega)) ?_ | refine gcall_c (fun hg => tileOrder_spec _ _ (by omega)) ?_); (repeat' (refine And.intro ?_ ?_)); (all_goals first | (refine hK _ ?_; clear hK K) | exact auto_cl | skip)) | ((first | apply cw_ite | apply cw_iteN); (case hf => rfl); (case hc => exact ev_a); (all_goals first | (intro hb; (try simp only [hbs] at hb)) | skip)) | exact atN_intro | (refine if_a (fun hb => ?_) (fun hb => ?_); (all_goals (try first | with_reducible exact True.intro | (exfalso; omega)))) | refine cw_blocks (fun KB hB => ?_) | (refine hB _ ?_; clear hB KB) | refine exit_by (S := Sg) (by assumption) ?_ | (refine ret_a ?_; (try clear hB KB); (try clear hK K)))
  · rw [frameM, if_pos hb]
  · refine rgs_split (.c .any) ?_ ?_ trivial ?_ (fun hg => ?_) (fun hg => ?_)
    · rfl
    · rfl
    · (first | (simp (maxSteps := 1000000) (disch := omega) only [go_sem]; done) | (simp (maxSteps := 1000000) (disch := omega) only [go_sem]; rfl))
    · have hg2 : (emptyR s.canvas || decide (areaR s.canvas > 16777216)) = false := by simpa using hg
      simp (maxSteps := 1000000) (disch := omega) only [go_sem]
      repeat' (refine And.intro ?_ ?_)
      all_goals first | (refine hK _ ?_; clear hK K) | exact auto_cl | skip
      refine gcall_lend (args' := [.c (.p (ints [s.canvas.x0, s.canvas.y0]))]) hg ?_ (near_spec _ (by simp)) ?_ (by trivial) trivial ?_
      · simp (maxSteps := 1000000) (disch := omega) only [go_sem]
      · simp (maxSteps := 1000000) (disch := omega) only [go_sem, argsLe_cons, argsLe_nil]
        refine bvle_p (lst_le fun i hi j hj => ?_)
        have h1 : i = 0 ∨ i = 1 := by omega
        have h2 : j = 0 := by omega
        subst h2
        rcases h1 with rfl | rfl <;> rfl
      simp (maxSteps := 1000000) (disch := omega) only [go_sem]
      repeat' (refine And.intro ?_ ?_)
      all_goals first | (refine hK _ ?_; clear hK K) | exact auto_cl | skip
      refine hW _ (mkSt [(1, .b (.c (.ptr 0 0))), (5, .b (.c (.ptr 1 0))), (36, .b (B (emptyR s.canvas || decide (areaR s.canvas > 16777216) || !withinM 1048576 [s.canvas.x0, s.canvas.y0])))] [(0, .fix ((scriptE s).map CV.p)), (1, .fix ((rectE s.canvas).map CV.p))] 2) ?_ ?_
      · clear hW
        refine le_a [(1, some 1)] ?_ ?_
        repeat' (refine And.intro ?_ ?_)
        all_goals first | exact le_cl | skip
      · clear hW
        repeat' (first | exact tr_a | refine un_a ?_ | ((first | refine st_a (fun K hK => ?_) | refine rg_a ?_ | refine call_c (count_spec _ _ _) ?_ | refine gcall_c (fun hg => count_spec _ _ _) ?_ | refine call_c (tileOrder_spec _ _ (by omega)) ?_ | refine gcall_c (fun hg => tileOrder_spec _ _ (by omega)) ?_); (repeat' (refine And.intro ?_ ?_)); (all_goals first | (refine hK _ ?_; clear hK K) | exact auto_cl | skip)) | ((first | apply cw_ite | apply cw_iteN); (case hf => rfl); (case hc => exact ev_a); (all_goals first | (intro hb; (try simp only [hbs] at hb)) | skip)) | exact atN_intro | (refine if_a (fun hb => ?_) (fun hb => ?_); (all_goals (try first | with_reducible exact True.intro | (exfalso; omega)))) | refine cw_blocks (fun KB hB => ?_) | (refine hB _ ?_; clear hB KB) | refine exit_by (S := Sg) (by assumption) ?_ | (refine ret_a ?_; (try clear hB KB); (try clear hK K)))
        · rw [frame2 ‹_› hb]
        · rename_i q
          rw [frame3 ⟨‹_›, q⟩ hb]
        · rename_i q1 q2
          rw [frame4 ⟨‹_›, q1⟩ q2 hb]
        · rename_i q1 q2 q3
          rw [frame5 ⟨‹_›, q1⟩ q2 q3, if_pos (by omega)]
        · rename_i q1 q2 q3
          rw [frame5 ⟨‹_›, q1⟩ q2 q3, if_neg (by omega)]
    · have hg2 : (emptyR s.canvas || decide (areaR s.canvas > 16777216)) = true := by
        cases h : (emptyR s.canvas || decide (areaR s.canvas > 16777216)) with
        | true => rfl
        | false => rw [h] at hg; cases hg
      simp (maxSteps := 1000000) (disch := omega) only [go_sem]
      repeat' (refine And.intro ?_ ?_)
      all_goals first | (refine hK _ ?_; clear hK K) | exact auto_cl | skip
      refine gcall_off (B (withinM 1048576 [s.canvas.x0, s.canvas.y0])) hg trivial ?_
      simp (maxSteps := 1000000) (disch := omega) only [go_sem]
      repeat' (refine And.intro ?_ ?_)
      all_goals first | (refine hK _ ?_; clear hK K) | exact auto_cl | skip
      refine hW _ (mkSt [(1, .b (.c (.ptr 0 0))), (5, .b (.c (.ptr 1 0))), (36, .b (B (emptyR s.canvas || decide (areaR s.canvas > 16777216) || !withinM 1048576 [s.canvas.x0, s.canvas.y0])))] [(0, .fix ((scriptE s).map CV.p)), (1, .fix ((rectE s.canvas).map CV.p))] 2) ?_ ?_
      · clear hW
        refine le_a [(1, some 1)] ?_ ?_
        repeat' (refine And.intro ?_ ?_)
        all_goals first | exact le_cl | skip
      · clear hW
        repeat' (first | exact tr_a | refine un_a ?_ | ((first | refine st_a (fun K hK => ?_) | refine rg_a ?_ | refine call_c (count_spec _ _ _) ?_ | refine gcall_c (fun hg => count_spec _ _ _) ?_ | refine call_c (tileOrder_spec _ _ (by omega)) ?_ | refine gcall_c (fun hg => tileOrder_spec _ _ (by omega)) ?_); (repeat' (refine And.intro ?_ ?_)); (all_goals first | (refine hK _ ?_; clear hK K) | exact auto_cl | skip)) | ((first | apply cw_ite | apply cw_iteN); (case hf => rfl); (case hc => exact ev_a); (all_goals first | (intro hb; (try simp only [hbs] at hb)) | skip)) | exact atN_intro | (refine if_a (fun hb => ?_) (fun hb => ?_); (all_goals (try first | with_reducible exact True.intro | (exfalso; omega)))) | refine cw_blocks (fun KB hB => ?_) | (refine hB _ ?_; clear hB KB) | refine exit_by (S := Sg) (by assumption) ?_ | (refine ret_a ?_; (try clear hB KB); (try clear hK K)))
        · rw [frame2 ‹_› hb]
        · rename_i q
          rw [frame3 ⟨‹_›, q⟩ hb]
        · rename_i q1 q2
          rw [frame4 ⟨‹_›, q1⟩ q2 hb]
        · rename_i q1 q2 q3
          rw [frame5 ⟨‹_›, q1⟩ q2 q3, if_pos (by omega)]
        · rename_i q1 q2 q3
          rw [frame5 ⟨‹_›, q1⟩ q2 q3, if_neg (by omega)]
theorem r18frame_spec (s : Script) (hs : ScriptLen s) : Pure Sg 78 [ag (scriptE s)] (fun x => x = .b (I (frameM s))) := by
  obtain ⟨h1, h2, h3⟩ := hs
  refine pure_of Tryz.func78 rfl (rs := [.tmp 2]) rfl rfl mixed (by decide +kernel) (Nat.le_of_ble_eq_true rfl) (argsLt_mem (by simp (maxSteps := 1000000) (disch := omega) only [go_sem])) ?_
  repeat' (first | exact tr_a | refine un_a ?_ | ((first | refine st_a (fun K hK => ?_) | refine rg_a ?_ | refine call_c (r01max_spec _) ?_ | refine gcall_c (fun hg => r01max_spec _) ?_ | refine call_c (r13empty_spec _) ?_ | refine gcall_c (fun hg => r13empty_spec _) ?_ | refine call_c (r13area_spec _) ?_ | refine gcall_c (fun hg => r13area_spec _) ?_ | refine call_c (tiles_spec _ _ _) ?_ | refine gcall_c (fun hg => tiles_spec _ _ _) ?_ | refine call_c (r13order_spec _ _ (by omega)) ?_ | refine gcall_c (fun hg => r13order_spec _ _ (by omega)) ?_ | refine call_c (far_spec _) ?_ | refine gcall_c (fun hg => far_spec _) ?_); (repeat' (refine And.intro ?_ ?_)); (all_goals first | (refine hK _ ?_; clear hK K) | exact auto_cl | skip)) | ((first | apply cw_ite | apply cw_iteN); (case hf => rfl); (case hc => exact ev_a); (all_goals first | (intro hb; (try simp only [hbs] at hb)) | skip)) | exact atN_intro | (refine if_a (fun hb => ?_) (fun hb => ?_); (all_goals (try first | with_reducible exact True.intro | (exfalso; omega)))) | refine cw_blocks (fun KB hB => ?_) | (refine hB _ ?_; clear hB KB) | refine exit_by (S := Sg) (by assumption) ?_ | (refine ret_a ?_; (try clear hB KB); (try clear hK K)))
  · rw [frame1 hb]
  · rw [frame2 ‹_› ?_]
    simp only [withinM, List.all_cons, List.all_nil, Bool.and_true, Bool.and_eq_false_imp, decide_eq_true_eq, decide_eq_false_iff_not]
    rcases hb with (h | h) | h
    · exact .inl h
    · exact .inr (by omega)
    · exact .inr (by omega)
  all_goals
    have hw : withinM 1048576 [s.canvas.x0, s.canvas.y0] = true := by
      simp only [withinM, List.all_cons, List.all_nil, Bool.and_true, Bool.and_eq_true, decide_eq_true_eq]
      omega
  · rename_i q1 q
    rw [frame3 ⟨q1, q.1.1, hw⟩ hb]
  · rename_i q1 q q2
    rw [frame4 ⟨q1, q.1.1, hw⟩ q2 hb]
  · rename_i q1 q q2 q3
    rw [frame5 ⟨q1, q.1.1, hw⟩ q2 q3, if_pos (by omega)]
  · rename_i q1 q q2 q3
    rw [frame5 ⟨q1, q.1.1, hw⟩ q2 q3, if_neg (by omega)]
end Go.Proofs.YtbpplplnkgmhlaaGreatDoor

set_option maxHeartbeats 4000000
set_option maxRecDepth 16000
namespace Go.Proofs.YtbpplplnkgmhlaaGreatDoor
open Go Go.SL
open Go.RowKit (wrap64)

def maxOf (b : Int) : Int := if b = 8 then 255 else if b = 16 then 65535 else 0
def ctxOk (l : List Op) : Bool := l.isEmpty || ((l.getD (l.length - 1) default).isolated && !(l.getD (l.length - 1) default).knockout)
def opErr (b : Int) (n : Nat) (o : Op) (l : List Op) : Int :=
  if ¬ (1 ≤ o.kind ∧ o.kind ≤ 3) then 9
  else if fieldsM o = false then 10
  else if o.kind = 3 ∧ l.length = 0 then 18
  else if o.kind = 3 then 0
  else if o.kind = 1 ∧ (o.image < 0 ∨ n ≤ o.image) ∨ o.mask < 0 ∨ n < o.mask then 11
  else if withinM 1048576 [o.x, o.y, o.maskX, o.maskY] = false then 12
  else if maxOf b < o.opacity then 13
  else if isOp o.operator = false then 14
  else if isOp o.mode = false then 15
  else if o.operator ≠ 4 ∧ ctxOk l = false then 16
  else if o.kind = 2 ∧ 64 ≤ l.length then 17 else 0
def opErrAt (s : Script) (i : Int) (l : List Op) : Int := if i < 0 ∨ s.ops.length ≤ i then 21 else opErr s.bits s.images.length (s.ops.getD i.toNat default) l

theorem ctxOk_false {l : List Op} : ctxOk l = false ↔ 0 < l.length ∧ ((l.getD (l.length - 1) default).knockout = true ∨ (l.getD (l.length - 1) default).isolated = false) := by
  cases l with
  | nil => simp [ctxOk]
  | cons a r =>
    simp only [ctxOk, List.isEmpty_cons, Bool.false_or, Bool.and_eq_false_imp, Bool.not_eq_false', List.length_cons, Nat.zero_lt_succ, true_and]
    generalize ((a :: r).getD (r.length + 1 - 1) default).isolated = x
    generalize ((a :: r).getD (r.length + 1 - 1) default).knockout = y
    cases x <;> cases y <;> decide
theorem withinM4 {k a b c d : Int} : withinM k [a, b, c, d] = false ↔ ¬ (-k ≤ a ∧ a ≤ k ∧ -k ≤ b ∧ b ≤ k ∧ -k ≤ c ∧ c ≤ k ∧ -k ≤ d ∧ d ≤ k) := by
  rw [← Bool.not_eq_true]
  simp only [withinM, List.all_cons, List.all_nil, Bool.and_true, Bool.and_eq_true, decide_eq_true_eq]
  omega
theorem opNm_empty {o : Int} : (opNm o).toList = (ByteArray.mk #[]).toList ↔ isOp o = false := by
  obtain ⟨_, _, _, _, h⟩ := opNm_spec o
  rw [← beq_iff_eq, h, isOp, Bool.not_eq_true', decide_eq_false_iff_not]
theorem blNm_empty' {o : Int} : (blNm o).toList = (ByteArray.mk #[]).toList ↔ isOp o = false := by
  rw [← beq_iff_eq, blNm_empty]; simp

theorem context_spec' (l : List Op) (hl : l.length ≤ 4611686018427387904) : Pure Sg 161 [.c (.p (opL l))] (fun x => x = .b (B (ctxOk l))) := context_spec l hl
theorem vop_spec (s : Script) (i : Int) (l : List Op) (hs : ScriptLen s) (hl : l.length ≤ 4611686018427387904) : Pure Sg 94 [ag (scriptE s), I i, .c (.p (opL l))] (fun x => x = .b (I (opErrAt s i l))) := by
  obtain ⟨h1, h2, h3⟩ := hs
  refine pure_of Tryz.func94 rfl (rs := [.tmp 6]) rfl rfl mixed (by decide +kernel) (Nat.le_of_ble_eq_true rfl) (argsLt_mem (by simp (maxSteps := 1000000) (disch := omega) only [go_sem])) ?_
  repeat' (first | exact tr_a | refine un_a ?_ | ((first | refine st_a (fun K hK => ?_) | refine rg_a ?_ | refine call_c (sampleMax_spec _) ?_ | refine gcall_c (fun hg => sampleMax_spec _) ?_ | refine call_c (fields_spec _) ?_ | refine gcall_c (fun hg => fields_spec _) ?_ | refine call_c (opName_spec _) ?_ | refine gcall_c (fun hg => opName_spec _) ?_ | refine call_c (blendName_spec _) ?_ | refine gcall_c (fun hg => blendName_spec _) ?_ | refine call_c (context_spec' _ (by omega)) ?_ | refine gcall_c (fun hg => context_spec' _ (by omega)) ?_); (repeat' (refine And.intro ?_ ?_)); (all_goals first | (refine hK _ ?_; clear hK K) | exact auto_cl | skip)) | ((first | apply cw_ite | apply cw_iteN); (case hf => rfl); (case hc => exact ev_a); (all_goals first | (intro hb; (try simp only [hbs] at hb)) | skip)) | exact atN_intro | (refine if_a (fun hb => ?_) (fun hb => ?_); (all_goals (try first | with_reducible exact True.intro | (exfalso; omega)))) | refine cw_blocks (fun KB hB => ?_) | (refine hB _ ?_; clear hB KB) | refine exit_by (S := Sg) (by assumption) ?_ | (refine ret_a ?_; (try clear hB KB); (try clear hK K)))
  iterate 6
    · refine int_eq ?_
      simp only [opErrAt, opErr]
      generalize s.ops.getD i.toNat default = o at *
      repeat (first | (with_reducible rfl) | (refine Eq.symm (Eq.trans (if_pos ?_) (Eq.symm ?_)); focus (first | (assumption; done) | omega | (simp [*]; done))) | (refine Eq.symm (Eq.trans (if_neg ?_) (Eq.symm ?_)); focus (first | (assumption; done) | omega | (simp [*]; done))) | (refine Eq.symm (Eq.trans (if_neg ?_) (Eq.symm ?_)); focus (grind; done)) | (refine Eq.symm (Eq.trans (if_pos ?_) (Eq.symm ?_)); focus (grind; done)))
  have ho : opErrAt s i l = opErr s.bits s.images.length (s.ops.getD i.toNat default) l := by rw [opErrAt, if_neg (by omega)]
  generalize s.ops.getD i.toNat default = o at *
  refine call_lends ?_ ?_ (by simp (maxSteps := 1000000) (disch := omega) only [go_sem]) ?_ (near_spec [o.x, o.y, o.maskX, o.maskY] (by simp))
  try simp (maxSteps := 1000000) (disch := omega) only [go_sem]
  try (refine hK _ ?_; clear hK K)
  · repeat' (first | exact tr_a | refine un_a ?_ | ((first | refine st_a (fun K hK => ?_) | refine rg_a ?_ | refine call_c (sampleMax_spec _) ?_ | refine gcall_c (fun hg => sampleMax_spec _) ?_ | refine call_c (fields_spec _) ?_ | refine gcall_c (fun hg => fields_spec _) ?_ | refine call_c (opName_spec _) ?_ | refine gcall_c (fun hg => opName_spec _) ?_ | refine call_c (blendName_spec _) ?_ | refine gcall_c (fun hg => blendName_spec _) ?_ | refine call_c (context_spec' _ (by omega)) ?_ | refine gcall_c (fun hg => context_spec' _ (by omega)) ?_); (repeat' (refine And.intro ?_ ?_)); (all_goals first | (refine hK _ ?_; clear hK K) | exact auto_cl | skip)) | ((first | apply cw_ite | apply cw_iteN); (case hf => rfl); (case hc => exact ev_a); (all_goals first | (intro hb; (try simp only [hbs] at hb)) | skip)) | exact atN_intro | (refine if_a (fun hb => ?_) (fun hb => ?_); (all_goals (try first | with_reducible exact True.intro | (exfalso; omega)))) | refine cw_blocks (fun KB hB => ?_) | (refine hB _ ?_; clear hB KB) | refine exit_by (S := Sg) (by assumption) ?_ | (refine ret_a ?_; (try clear hB KB); (try clear hK K)))
    all_goals
      refine int_eq ?_
      have hmx : maxOf s.bits = if s.bits = 8 then 255 else if s.bits = 16 then 65535 else 0 := rfl
      rw [ho]
      simp only [opErr]
      try simp only [opNm_empty, blNm_empty', Bool.not_eq_false] at *
      repeat (first | (with_reducible rfl) | (refine Eq.symm (Eq.trans (if_pos ?_) (Eq.symm ?_)); focus (first | (assumption; done) | omega | (simp [*]; done))) | (refine Eq.symm (Eq.trans (if_neg ?_) (Eq.symm ?_)); focus (first | (assumption; done) | omega | (simp [*]; done))) | (refine Eq.symm (Eq.trans (if_neg ?_) (Eq.symm ?_)); focus (grind; done)) | (refine Eq.symm (Eq.trans (if_pos ?_) (Eq.symm ?_)); focus (grind; done)))
  · simp (maxSteps := 1000000) (disch := omega) only [go_sem, argsLe_cons, argsLe_nil]
    refine bvle_p (lst_le fun i hi j hj => ?_)
    have h1 : i = 0 ∨ i = 1 ∨ i = 2 ∨ i = 3 := by omega
    have h2 : j = 0 := by omega
    subst h2
    rcases h1 with rfl | rfl | rfl | rfl <;> rfl
  · trivial
theorem checkOp_spec (s : Script) (i : Int) (l : List Op) (hs : ScriptLen s) (hl : l.length ≤ 4611686018427387904) : Pure Sg 79 [ag (scriptE s), I i, .c (.p (opL l))] (fun x => x = .b (I (opErrAt s i l))) := by
  obtain ⟨h1, h2, h3⟩ := hs
  refine pure_of Tryz.func79 rfl (rs := [.tmp 6]) rfl rfl mixed (by decide +kernel) (Nat.le_of_ble_eq_true rfl) (argsLt_mem (by simp (maxSteps := 1000000) (disch := omega) only [go_sem])) ?_
  repeat' (first | exact tr_a | refine un_a ?_ | ((first | refine st_a (fun K hK => ?_) | refine rg_a ?_ | refine call_c (r01max_spec _) ?_ | refine gcall_c (fun hg => r01max_spec _) ?_ | refine call_c (spare_spec _ (by omega) (by omega)) ?_ | refine gcall_c (fun hg => spare_spec _ (by omega) (by omega)) ?_ | refine call_c (isOp_spec _) ?_ | refine gcall_c (fun hg => isOp_spec _) ?_ | refine call_c (isMode_spec _) ?_ | refine gcall_c (fun hg => isMode_spec _) ?_ | refine call_c (far_spec _) ?_ | refine gcall_c (fun hg => far_spec _) ?_); (repeat' (refine And.intro ?_ ?_)); (all_goals first | (refine hK _ ?_; clear hK K) | exact auto_cl | skip)) | ((first | apply cw_ite | apply cw_iteN); (case hf => rfl); (case hc => exact ev_a); (all_goals first | (intro hb; (try simp only [hbs] at hb)) | skip)) | exact atN_intro | (refine if_a (fun hb => ?_) (fun hb => ?_); (all_goals (try first | with_reducible exact True.intro | (exfalso; omega)))) | refine cw_blocks (fun KB hB => ?_) | (refine hB _ ?_; clear hB KB) | refine exit_by (S := Sg) (by assumption) ?_ | (refine ret_a ?_; (try clear hB KB); (try clear hK K)))
  all_goals
    refine int_eq ?_
    have hmx : maxOf s.bits = if s.bits = 8 then 255 else if s.bits = 16 then 65535 else 0 := rfl
    have e : ((l.length : Int) - 1).toNat = l.length - 1 := by omega
    simp only [opErrAt, opErr, withinM4, ctxOk_false]
    try simp only [e] at *
    generalize s.ops.getD i.toNat default = o at *
    repeat (first | (with_reducible rfl) | (refine Eq.symm (Eq.trans (if_pos ?_) (Eq.symm ?_)); focus (first | (assumption; done) | omega | (simp [*]; done))) | (refine Eq.symm (Eq.trans (if_neg ?_) (Eq.symm ?_)); focus (first | (assumption; done) | omega | (simp [*]; done))) | (refine Eq.symm (Eq.trans (if_neg ?_) (Eq.symm ?_)); focus (grind; done)) | (refine Eq.symm (Eq.trans (if_pos ?_) (Eq.symm ?_)); focus (grind; done)))
end Go.Proofs.YtbpplplnkgmhlaaGreatDoor

set_option maxHeartbeats 4000000
set_option maxRecDepth 16000
namespace Go.Proofs.YtbpplplnkgmhlaaGreatDoor
open Go Go.SL
open Go.RowKit (wrap64)

def nextOpen (l : List Op) (o : Op) : List Op := if o.kind = 2 then l ++ [o] else if o.kind = 3 then l.dropLast else l
def opsGo (b : Int) (n : Nat) : Nat → List Op → List Op → Int × Int
  | i, [], l => if 0 < l.length then (18, i) else (0, 0)
  | i, o :: r, l => if opErr b n o l = 0 then opsGo b n (i + 1) r (nextOpen l o) else (opErr b n o l, i)
def opsM (s : Script) : Int × Int := if frameM s = 0 then opsGo s.bits s.images.length 0 s.ops [] else (frameM s, 0)

theorem opsGo_step {b : Int} {n : Nat} {ops : List Op} {i : Nat} {l : List Op} (hi : i < ops.length) : opsGo b n i (ops.drop i) l =
    if opErr b n (ops.getD i default) l = 0 then opsGo b n (i + 1) (ops.drop (i + 1)) (nextOpen l (ops.getD i default)) else (opErr b n (ops.getD i default) l, (i : Int)) := by
  rw [List.drop_eq_getElem_cons hi, List.getD_eq_getElem?_getD, List.getElem?_eq_getElem hi]
  rfl
theorem frameM_ok {s : Script} (h : frameM s = 0) : s.images.length ≤ 64 ∧ s.ops.length ≤ 4096 := by
  unfold frameM at h
  split at h
  · cases h
  split at h
  · cases h
  split at h
  · cases h
  split at h
  · cases h
  split at h
  · cases h
  · omega
theorem lent_open {l : List Op} {g : Nat → Nat → PV} (hg : ∀ k, k < l.length → ∀ j, j < 12 → g k j = fnOf opE l k j) : BV.le (.c (.p (.lst 12 l.length g))) (.c (.p (opL l))) :=
  bvle_p (lst_le hg)
theorem push_open {l : List Op} {o : Op} {g f : Nat → Nat → PV} (hg : ∀ k, k < l.length → ∀ j, j < 12 → g k j = fnOf opE l k j) (hf : ∀ j, j < 12 → f 0 j = (opE o).getD j .any) :
    ∀ i, i < (l ++ [o]).length → ∀ j, j < 12 → PV.le (appF l.length g f i j) (fnOf opE (l ++ [o]) i j) := fun i hi j hj => by
  rw [List.length_append] at hi
  have := arr_push (enc := opE) (xs := l) (x := o) (s := 12) (g := f) hf i hi j hj
  unfold appF at this ⊢
  by_cases h : i < l.length
  · rw [if_pos h] at this ⊢
    rw [hg i h j hj]; exact this
  · rw [if_neg h] at this ⊢
    exact this
theorem pop_open {l : List Op} {g : Nat → Nat → PV} (hg : ∀ k, k < l.length → ∀ j, j < 12 → g k j = fnOf opE l k j) : ∀ k, k < l.dropLast.length → ∀ j, j < 12 → g k j = fnOf opE l.dropLast k j := fun k hk j hj => by
  rw [List.length_dropLast] at hk
  rw [hg k (by omega) j hj]
  have e : l.dropLast.getD k default = l.getD k default := by
    rw [List.getD_eq_getElem?_getD, List.getD_eq_getElem?_getD, List.getElem?_dropLast, if_pos hk]
  unfold fnOf
  rw [e]
theorem opErr_pop {b : Int} {n : Nat} {o : Op} {l : List Op} (h : opErr b n o l = 0) (hk : o.kind = 3) : 0 < l.length := by
  unfold opErr at h
  rw [if_neg (by omega)] at h
  split at h
  · cases h
  split at h
  · cases h
  · omega

theorem vops_spec (s : Script) (hs : ScriptLen s) : Pure Sg 55 [ag (scriptE s)] (fun x => x = .tup [I (opsM s).1, I (opsM s).2]) := by
  have hf := frame_spec s hs
  obtain ⟨h1, h2, h3⟩ := id hs
  refine pure_of Tryz.func55 rfl (rs := [.tmp 2, .tmp 3]) rfl rfl mixed (by decide +kernel) (Nat.le_of_ble_eq_true rfl) (argsLt_mem (by simp (maxSteps := 1000000) (disch := omega) only [go_sem])) ?_
  repeat' (first | with_reducible exact tr_a | refine un_a ?_ | ((first | refine st_a (fun K hK => ?_) | refine rg_a ?_ | refine call_c (hf) ?_ | refine gcall_c (fun hg => hf) ?_); (repeat' (refine And.intro ?_ ?_)); (all_goals first | (refine hK _ ?_; clear hK K) | exact auto_cl | skip)) | ((first | apply cw_ite | apply cw_iteN); (case hf => rfl); (case hc => exact ev_a); (all_goals first | (intro hb; (try simp only [hbs] at hb)) | skip)) | exact atN_intro | (refine if_a (fun hb => ?_) (fun hb => ?_); (all_goals (try first | with_reducible exact True.intro | (exfalso; omega)))) | refine cw_blocks (fun KB hB => ?_) | (refine hB _ ?_; clear hB KB) | refine exit_by (S := Sg) (by assumption) ?_ | (refine ret_a ?_; (try clear hB KB); (try clear hK K)))
  · rw [opsM, if_neg hb]
  have hfo := frameM_ok hb
  rw [opsM, if_pos hb]
  clear hf
  refine cw_loop (X := Nat × List Op × Nat × (Nat → Nat → PV)) (fun x => mkSt [(1, .b (.c (.ptr 0 0))), (5, .b (.c (.own 1 x.2.1.length))), (15, .b (.c (.p (opL s.ops)))), (16, .b (I s.ops.length)), (17, .b (I x.1))]
    [(0, .fix ((scriptE s).map CV.p)), (1, .arr 73 12 x.2.2.1 x.2.2.2)] 2) (fun x => x.1 ≤ s.ops.length ∧ x.2.1.length ≤ x.1 ∧ x.2.1.length ≤ x.2.2.1 ∧ (∀ k, k < x.2.1.length → ∀ j, j < 12 → x.2.2.2 k j = fnOf opE x.2.1 k j) ∧
      opsGo s.bits s.images.length x.1 (s.ops.drop x.1) x.2.1 = opsGo s.bits s.images.length 0 s.ops []) (fun x => s.ops.length - x.1) (0, [], 0, fun _ _ => .any) ?_ ?_ ?_
  · exact ⟨by omega, Nat.le_refl _, Nat.le_refl _, fun k hk => by simp at hk, rfl⟩
  · refine le_a [(1, none)] ?_ ?_
    repeat' (refine And.intro ?_ ?_)
    all_goals first | exact le_cl | skip
  · rintro ⟨i, l, m, g⟩ ⟨hi, hl, hm, hg, hgo⟩
    dsimp only at hi hl hm hg hgo ⊢
    have hv := vop_spec s i l hs (by omega)
    have he : i < s.ops.length → opErrAt s i l = opErr s.bits s.images.length (s.ops.getD i default) l := fun h => by
      rw [opErrAt, if_neg (by omega), Int.toNat_natCast]
    have hpop : i < s.ops.length → opErrAt s i l = 0 → (s.ops.getD (i : Int).toNat default).kind = 3 → 0 < l.length := fun h1 h2 h3 => by
      rw [he h1] at h2
      exact opErr_pop h2 h3
    repeat' (first | with_reducible exact tr_a | refine un_a ?_ | ((first | refine st_a (fun K hK => ?_) | refine rg_a ?_); (repeat' (refine And.intro ?_ ?_)); (all_goals first | (refine hK _ ?_; clear hK K) | exact auto_cl | skip)) | ((first | apply cw_ite | apply cw_iteN); (case hf => rfl); (case hc => exact ev_a); (all_goals first | (intro hb; (try simp only [hbs] at hb)) | skip)) | exact atN_intro | (refine if_a (fun hb => ?_) (fun hb => ?_); (all_goals (try first | with_reducible exact True.intro | (exfalso; omega)))) | refine cw_blocks (fun KB hB => ?_) | (refine hB _ ?_; clear hB KB) | refine exit_by (S := Sg) (by assumption) ?_ | (refine ret_a ?_; (try clear hB KB); (try clear hK K)))
    · refine call_lends ?_ ?_ (by simp (maxSteps := 1000000) (disch := omega) only [go_sem]) ?_ (hv)
      try simp (maxSteps := 1000000) (disch := omega) only [go_sem]
      try (refine hK _ ?_; clear hK K)
      · repeat' (first | with_reducible exact tr_a | refine un_a ?_ | ((first | refine st_a (fun K hK => ?_) | refine rg_a ?_); (repeat' (refine And.intro ?_ ?_)); (all_goals first | (refine hK _ ?_; clear hK K) | exact auto_cl | skip)) | ((first | apply cw_ite | apply cw_iteN); (case hf => rfl); (case hc => exact ev_a); (all_goals first | (intro hb; (try simp only [hbs] at hb)) | skip)) | exact atN_intro | (refine if_a (fun hb => ?_) (fun hb => ?_); (all_goals (try first | with_reducible exact True.intro | (exfalso; omega)))) | refine cw_blocks (fun KB hB => ?_) | (refine hB _ ?_; clear hB KB) | refine exit_by (S := Sg) (by assumption) ?_ | (refine ret_a ?_; (try clear hB KB); (try clear hK K)))
        · rw [he (by omega)] at hb ⊢
          rw [← hgo, opsGo_step (by omega), if_neg hb]
        · have hn : ∀ l', nextOpen l (s.ops.getD i default) = l' → opsGo s.bits s.images.length (i + 1) (s.ops.drop (i + 1)) l' = opsGo s.bits s.images.length 0 s.ops [] := by
            rintro l' rfl
            have q := opsGo_step (b := s.bits) (n := s.images.length) (l := l) (show i < s.ops.length by omega)
            rw [if_pos (by rw [← he (by omega)]; exact hb)] at q
            rw [← q, hgo]
          rw [thenQ_normal]
          simp only [Int.toNat_natCast] at hpop ⊢
          by_cases hk2 : (s.ops.getD i default).kind = 2
          · have e2 : ((s.ops.getD i default).kind == 2) = true := by rw [hk2]; rfl
            simp only [e2, St.ite_t]
            refine wk_loop (i + 1, l ++ [s.ops.getD i default], l.length + 1, fnOf opE (l ++ [s.ops.getD i default])) ?_ ⟨by omega, by simp; omega, by simp, fun _ _ _ _ => rfl, hn _ (by rw [nextOpen, if_pos hk2])⟩ (by dsimp only; omega)
            refine le_a [(1, some 4)] ?_ ?_
            repeat' (refine And.intro ?_ ?_)
            all_goals first | exact le_cl | skip
            · simp
            · refine .inr fun a ha j hj => push_open hg (fun j hj => ?_) a (by simpa using ha) j hj
              have hivl : j = 0 ∨ j = 1 ∨ j = 2 ∨ j = 3 ∨ j = 4 ∨ j = 5 ∨ j = 6 ∨ j = 7 ∨ j = 8 ∨ j = 9 ∨ j = 10 ∨ j = 11 := by omega
              rcases hivl with rfl | rfl | rfl | rfl | rfl | rfl | rfl | rfl | rfl | rfl | rfl | rfl <;> rfl
          · have e2 : ((s.ops.getD i default).kind == 2) = false := by simpa using hk2
            simp only [e2, St.ite_f]
            by_cases hk3 : (s.ops.getD i default).kind = 3
            · have e3 : ((s.ops.getD i default).kind == 3) = true := by rw [hk3]; rfl
              simp only [e3, St.ite_t]
              have hp := hpop (by omega) hb hk3
              refine wk_loop (i + 1, l.dropLast, m, g) ?_ ⟨by omega, by rw [List.length_dropLast]; dsimp only; omega, by rw [List.length_dropLast]; dsimp only; omega, pop_open hg, hn _ (by rw [nextOpen, if_neg hk2, if_pos hk3])⟩ (by dsimp only; omega)
              refine le_a [(1, some 1)] ?_ ?_
              repeat' (refine And.intro ?_ ?_)
              all_goals first | exact le_cl | skip
              rw [List.length_dropLast]; omega
            · have e3 : ((s.ops.getD i default).kind == 3) = false := by simpa using hk3
              simp only [e3, St.ite_f]
              refine wk_loop (i + 1, l, m, g) ?_ ⟨by omega, by dsimp only; omega, hm, hg, hn _ (by rw [nextOpen, if_neg hk2, if_neg hk3])⟩ (by dsimp only; omega)
              refine le_a [(1, some 1)] ?_ ?_
              repeat' (refine And.intro ?_ ?_)
              all_goals first | exact le_cl | skip
      · simp (maxSteps := 1000000) (disch := omega) only [go_sem, argsLe_cons, argsLe_nil]
        rw [if_pos hm]
        exact ⟨bvle_refl, bvle_refl, lent_open hg⟩
      · trivial
    · have hi2 : i = s.ops.length := by omega
      (try rw [opsM, if_pos (by assumption)]); rw [← hgo, hi2, List.drop_length, opsGo, if_pos (by omega)]
    · have hi2 : i = s.ops.length := by omega
      (try rw [opsM, if_pos (by assumption)]); rw [← hgo, hi2, List.drop_length, opsGo, if_neg (by omega)]
theorem checkOps_spec (s : Script) (hs : ScriptLen s) : Pure Sg 41 [ag (scriptE s)] (fun x => x = .tup [I (opsM s).1, I (opsM s).2]) := by
  have hf := r18frame_spec s hs
  obtain ⟨h1, h2, h3⟩ := id hs
  refine pure_of Tryz.func41 rfl (rs := [.tmp 2, .tmp 3]) rfl rfl mixed (by decide +kernel) (Nat.le_of_ble_eq_true rfl) (argsLt_mem (by simp (maxSteps := 1000000) (disch := omega) only [go_sem])) ?_
  repeat' (first | with_reducible exact tr_a | refine un_a ?_ | ((first | refine st_a (fun K hK => ?_) | refine rg_a ?_ | refine call_c (hf) ?_ | refine gcall_c (fun hg => hf) ?_); (repeat' (refine And.intro ?_ ?_)); (all_goals first | (refine hK _ ?_; clear hK K) | exact auto_cl | skip)) | ((first | apply cw_ite | apply cw_iteN); (case hf => rfl); (case hc => exact ev_a); (all_goals first | (intro hb; (try simp only [hbs] at hb)) | skip)) | exact atN_intro | (refine if_a (fun hb => ?_) (fun hb => ?_); (all_goals (try first | with_reducible exact True.intro | (exfalso; omega)))) | refine cw_blocks (fun KB hB => ?_) | (refine hB _ ?_; clear hB KB) | refine exit_by (S := Sg) (by assumption) ?_ | (refine ret_a ?_; (try clear hB KB); (try clear hK K)))
  · rw [opsM, if_neg hb]
  have hfo := frameM_ok hb
  rw [opsM, if_pos hb]
  clear hf
  refine cw_loop (X := Nat × List Op × Nat × (Nat → Nat → PV)) (fun x => mkSt [(1, .b (.c (.ptr 0 0))), (5, .b (.c (.own 1 x.2.1.length))), (6, .b (I x.1))]
    [(0, .fix ((scriptE s).map CV.p)), (1, .arr 73 12 x.2.2.1 x.2.2.2)] 2) (fun x => x.1 ≤ s.ops.length ∧ x.2.1.length ≤ x.1 ∧ x.2.1.length ≤ x.2.2.1 ∧ (∀ k, k < x.2.1.length → ∀ j, j < 12 → x.2.2.2 k j = fnOf opE x.2.1 k j) ∧
      opsGo s.bits s.images.length x.1 (s.ops.drop x.1) x.2.1 = opsGo s.bits s.images.length 0 s.ops []) (fun x => s.ops.length - x.1) (0, [], 0, fun _ _ => .any) ?_ ?_ ?_
  · exact ⟨by omega, Nat.le_refl _, Nat.le_refl _, fun k hk => by simp at hk, rfl⟩
  · refine le_a [(1, none)] ?_ ?_
    repeat' (refine And.intro ?_ ?_)
    all_goals first | exact le_cl | skip
  · rintro ⟨i, l, m, g⟩ ⟨hi, hl, hm, hg, hgo⟩
    dsimp only at hi hl hm hg hgo ⊢
    have hv := checkOp_spec s i l hs (by omega)
    have he : i < s.ops.length → opErrAt s i l = opErr s.bits s.images.length (s.ops.getD i default) l := fun h => by
      rw [opErrAt, if_neg (by omega), Int.toNat_natCast]
    have hpop : i < s.ops.length → opErrAt s i l = 0 → (s.ops.getD (i : Int).toNat default).kind = 3 → 0 < l.length := fun h1 h2 h3 => by
      rw [he h1] at h2
      exact opErr_pop h2 h3
    repeat' (first | with_reducible exact tr_a | refine un_a ?_ | ((first | refine st_a (fun K hK => ?_) | refine rg_a ?_); (repeat' (refine And.intro ?_ ?_)); (all_goals first | (refine hK _ ?_; clear hK K) | exact auto_cl | skip)) | ((first | apply cw_ite | apply cw_iteN); (case hf => rfl); (case hc => exact ev_a); (all_goals first | (intro hb; (try simp only [hbs] at hb)) | skip)) | exact atN_intro | (refine if_a (fun hb => ?_) (fun hb => ?_); (all_goals (try first | with_reducible exact True.intro | (exfalso; omega)))) | refine cw_blocks (fun KB hB => ?_) | (refine hB _ ?_; clear hB KB) | refine exit_by (S := Sg) (by assumption) ?_ | (refine ret_a ?_; (try clear hB KB); (try clear hK K)))
    · refine call_lends ?_ ?_ (by simp (maxSteps := 1000000) (disch := omega) only [go_sem]) ?_ (hv)
      try simp (maxSteps := 1000000) (disch := omega) only [go_sem]
      try (refine hK _ ?_; clear hK K)
      · repeat' (first | with_reducible exact tr_a | refine un_a ?_ | ((first | refine st_a (fun K hK => ?_) | refine rg_a ?_); (repeat' (refine And.intro ?_ ?_)); (all_goals first | (refine hK _ ?_; clear hK K) | exact auto_cl | skip)) | ((first | apply cw_ite | apply cw_iteN); (case hf => rfl); (case hc => exact ev_a); (all_goals first | (intro hb; (try simp only [hbs] at hb)) | skip)) | exact atN_intro | (refine if_a (fun hb => ?_) (fun hb => ?_); (all_goals (try first | with_reducible exact True.intro | (exfalso; omega)))) | refine cw_blocks (fun KB hB => ?_) | (refine hB _ ?_; clear hB KB) | refine exit_by (S := Sg) (by assumption) ?_ | (refine ret_a ?_; (try clear hB KB); (try clear hK K)))
        · rw [he (by omega)] at hb ⊢
          rw [← hgo, opsGo_step (by omega), if_neg hb]
        · have hn : ∀ l', nextOpen l (s.ops.getD i default) = l' → opsGo s.bits s.images.length (i + 1) (s.ops.drop (i + 1)) l' = opsGo s.bits s.images.length 0 s.ops [] := by
            rintro l' rfl
            have q := opsGo_step (b := s.bits) (n := s.images.length) (l := l) (show i < s.ops.length by omega)
            rw [if_pos (by rw [← he (by omega)]; exact hb)] at q
            rw [← q, hgo]
          rw [thenQ_normal]
          simp only [Int.toNat_natCast] at hpop ⊢
          by_cases hk2 : (s.ops.getD i default).kind = 2
          · have e2 : ((s.ops.getD i default).kind == 2) = true := by rw [hk2]; rfl
            simp only [e2, St.ite_t]
            refine wk_loop (i + 1, l ++ [s.ops.getD i default], l.length + 1, fnOf opE (l ++ [s.ops.getD i default])) ?_ ⟨by omega, by simp; omega, by simp, fun _ _ _ _ => rfl, hn _ (by rw [nextOpen, if_pos hk2])⟩ (by dsimp only; omega)
            refine le_a [(1, some 3)] ?_ ?_
            repeat' (refine And.intro ?_ ?_)
            all_goals first | exact le_cl | skip
            · simp
            · refine .inr fun a ha j hj => push_open hg (fun j hj => ?_) a (by simpa using ha) j hj
              have hivl : j = 0 ∨ j = 1 ∨ j = 2 ∨ j = 3 ∨ j = 4 ∨ j = 5 ∨ j = 6 ∨ j = 7 ∨ j = 8 ∨ j = 9 ∨ j = 10 ∨ j = 11 := by omega
              rcases hivl with rfl | rfl | rfl | rfl | rfl | rfl | rfl | rfl | rfl | rfl | rfl | rfl <;> rfl
          · have e2 : ((s.ops.getD i default).kind == 2) = false := by simpa using hk2
            simp only [e2, St.ite_f]
            by_cases hk3 : (s.ops.getD i default).kind = 3
            · have e3 : ((s.ops.getD i default).kind == 3) = true := by rw [hk3]; rfl
              simp only [e3, St.ite_t]
              have hp := hpop (by omega) hb hk3
              refine wk_loop (i + 1, l.dropLast, m, g) ?_ ⟨by omega, by rw [List.length_dropLast]; dsimp only; omega, by rw [List.length_dropLast]; dsimp only; omega, pop_open hg, hn _ (by rw [nextOpen, if_neg hk2, if_pos hk3])⟩ (by dsimp only; omega)
              refine le_a [(1, some 1)] ?_ ?_
              repeat' (refine And.intro ?_ ?_)
              all_goals first | exact le_cl | skip
              rw [List.length_dropLast]; omega
            · have e3 : ((s.ops.getD i default).kind == 3) = false := by simpa using hk3
              simp only [e3, St.ite_f]
              refine wk_loop (i + 1, l, m, g) ?_ ⟨by omega, by dsimp only; omega, hm, hg, hn _ (by rw [nextOpen, if_neg hk2, if_neg hk3])⟩ (by dsimp only; omega)
              refine le_a [(1, some 1)] ?_ ?_
              repeat' (refine And.intro ?_ ?_)
              all_goals first | exact le_cl | skip
      · simp (maxSteps := 1000000) (disch := omega) only [go_sem, argsLe_cons, argsLe_nil]
        rw [if_pos hm]
        exact ⟨bvle_refl, bvle_refl, lent_open hg⟩
      · trivial
    · have hi2 : i = s.ops.length := by omega
      (try rw [opsM, if_pos (by assumption)]); rw [← hgo, hi2, List.drop_length, opsGo, if_pos (by omega)]
    · have hi2 : i = s.ops.length := by omega
      (try rw [opsM, if_pos (by assumption)]); rw [← hgo, hi2, List.drop_length, opsGo, if_neg (by omega)]
end Go.Proofs.YtbpplplnkgmhlaaGreatDoor

/- Rectangles, as both programs compute them: what two have in common, moved, far numbers, where an image lies, boxes. -/
set_option maxHeartbeats 1000000
set_option maxRecDepth 16000
namespace Go.Proofs.YtbpplplnkgmhlaaGreatDoor
open Go Go.SL
open Go.RowKit (wrap64)

theorem imax_ite (a b : Int) : (if b > a then b else a) = max a b := by split <;> omega
theorem imin_ite (a b : Int) : (if b < a then b else a) = min a b := by split <;> omega
attribute [local go_sem] imax_ite imin_ite
theorem isect_spec (r q : Rect) : Pure Sg 56 [ag (rectE r), ag (rectE q)] (fun x => x = .b (ag (rectE (isect r q)))) := by
  refine pure_of Tryz.func56 rfl (rs := [.cell 4 32]) rfl rfl mixed (by decide +kernel) (Nat.le_of_ble_eq_true rfl) (argsLt_mem (by simp (maxSteps := 1000000) (disch := omega) only [go_sem])) ?_
  repeat' (first | with_reducible exact tr_a | refine un_a ?_ | ((first | refine st_a (fun K hK => ?_) | refine rg_a ?_ | refine call_c (rempty_spec _) ?_ | refine gcall_c (fun hg => rempty_spec _) ?_ | refine call_c (rclean_spec ⟨max r.x0 q.x0, max r.y0 q.y0, min r.x1 q.x1, min r.y1 q.y1⟩) ?_ | refine gcall_c (fun hg => rclean_spec ⟨max r.x0 q.x0, max r.y0 q.y0, min r.x1 q.x1, min r.y1 q.y1⟩) ?_); (repeat' (refine And.intro ?_ ?_)); (all_goals first | (refine hK _ ?_; clear hK K) | exact auto_cl | skip)) | ((first | apply cw_ite | apply cw_iteN); (case hf => rfl); (case hc => exact ev_a); (all_goals first | (intro hb; (try simp only [hbs] at hb)) | skip)) | exact atN_intro | (refine if_a (fun hb => ?_) (fun hb => ?_); (all_goals (try first | with_reducible exact True.intro | (exfalso; omega)))) | refine cw_blocks (fun KB hB => ?_) | (refine hB _ ?_; clear hB KB) | refine exit_by (S := Sg) (by assumption) ?_ | (refine ret_a ?_; (try clear hB KB); (try clear hK K)))
  · rw [isect, if_pos hb]; rfl
  · rw [isect, if_neg (by rw [hb.1, hb.2]; simp)]; rfl
theorem risect_spec (r q : Rect) : Pure Sg 61 [ag (rectE r), ag (rectE q)] (fun x => x = .b (ag (rectE (isect r q)))) := by
  refine pure_of Tryz.func61 rfl (rs := [.cell 4 32]) rfl rfl mixed (by decide +kernel) (Nat.le_of_ble_eq_true rfl) (argsLt_mem (by simp (maxSteps := 1000000) (disch := omega) only [go_sem])) ?_
  repeat' (first | with_reducible exact tr_a | refine un_a ?_ | ((first | refine st_a (fun K hK => ?_) | refine rg_a ?_ | refine call_c (r13empty_spec _) ?_ | refine gcall_c (fun hg => r13empty_spec _) ?_ | refine call_c (r13clean_spec ⟨max r.x0 q.x0, max r.y0 q.y0, min r.x1 q.x1, min r.y1 q.y1⟩) ?_ | refine gcall_c (fun hg => r13clean_spec ⟨max r.x0 q.x0, max r.y0 q.y0, min r.x1 q.x1, min r.y1 q.y1⟩) ?_); (repeat' (refine And.intro ?_ ?_)); (all_goals first | (refine hK _ ?_; clear hK K) | exact auto_cl | skip)) | ((first | apply cw_ite | apply cw_iteN); (case hf => rfl); (case hc => exact ev_a); (all_goals first | (intro hb; (try simp only [hbs] at hb)) | skip)) | exact atN_intro | (refine if_a (fun hb => ?_) (fun hb => ?_); (all_goals (try first | with_reducible exact True.intro | (exfalso; omega)))) | refine cw_blocks (fun KB hB => ?_) | (refine hB _ ?_; clear hB KB) | refine exit_by (S := Sg) (by assumption) ?_ | (refine ret_a ?_; (try clear hB KB); (try clear hK K)))
  · rw [isect, if_pos hb]; rfl
  · rw [isect, if_neg (by rw [hb.1, hb.2]; simp)]; rfl
theorem bfar_spec (v : Int) : Pure Sg 209 [I v] (fun x => x = .b (B (farM v))) := by
  refine pure_of Tryz.func209 rfl (rs := [.tmp 2]) rfl rfl mixed (by decide +kernel) (Nat.le_of_ble_eq_true rfl) (argsLt_mem (by simp (maxSteps := 1000000) (disch := omega) only [go_sem])) ?_
  repeat' (first | with_reducible exact tr_a | refine un_a ?_ | ((first | refine st_a (fun K hK => ?_) | refine rg_a ?_); (repeat' (refine And.intro ?_ ?_)); (all_goals first | (refine hK _ ?_; clear hK K) | exact auto_cl | skip)) | ((first | apply cw_ite | apply cw_iteN); (case hf => rfl); (case hc => exact ev_a); (all_goals first | (intro hb; (try simp only [hbs] at hb)) | skip)) | exact atN_intro | (refine if_a (fun hb => ?_) (fun hb => ?_); (all_goals (try first | with_reducible exact True.intro | (exfalso; omega)))) | refine cw_blocks (fun KB hB => ?_) | (refine hB _ ?_; clear hB KB) | refine exit_by (S := Sg) (by assumption) ?_ | (refine ret_a ?_; (try clear hB KB); (try clear hK K)))
  refine bool_eq ?_
  (try simp only [farM, Bool.and_eq_true, Bool.or_eq_true, Bool.not_eq_true', Bool.not_eq_false', decide_eq_true_eq, decide_eq_false_iff_not, ge_iff_le, gt_iff_lt, beq_iff_eq, bne_iff_ne, ne_eq, Bool.or_eq_false_iff, Bool.and_eq_false_imp, Bool.not_true, Bool.not_false])
  try omega
theorem rule_neutral (o : Int) : ∃ a b c, ruleE o = [.val (.string (opNm o)), PI a, PI b, PI c] ∧ (decide (1 ≤ o ∧ o ≤ 12) && ((b == 1 || b == 3) && (c == 2 || c == 3))) = neutralM o := by
  by_cases h : 1 ≤ o ∧ o ≤ 12
  · have : o = 1 ∨ o = 2 ∨ o = 3 ∨ o = 4 ∨ o = 5 ∨ o = 6 ∨ o = 7 ∨ o = 8 ∨ o = 9 ∨ o = 10 ∨ o = 11 ∨ o = 12 := by omega
    rcases this with rfl | rfl | rfl | rfl | rfl | rfl | rfl | rfl | rfl | rfl | rfl | rfl <;> exact ⟨_, _, _, rfl, by decide +kernel⟩
  · obtain ⟨a, b, c, e, _⟩ := opNm_spec o
    refine ⟨a, b, c, e, ?_⟩
    rw [decide_eq_false h, Bool.false_and, neutralM]
    exact (decide_eq_false (by omega)).symm
theorem neutral_spec (o : Int) : Pure Sg 179 [I o] (fun x => x = .b (B (neutralM o))) := by
  obtain ⟨a, b, c, he, hn⟩ := rule_neutral o
  have hf := find_spec o
  rw [he] at hf
  rw [← hn]
  refine pure_of Tryz.func179 rfl (rs := [.tmp 2]) rfl rfl mixed (by decide +kernel) (Nat.le_of_ble_eq_true rfl) (argsLt_mem (by simp (maxSteps := 1000000) (disch := omega) only [go_sem])) ?_
  repeat' (first | with_reducible exact tr_a | refine un_a ?_ | ((first | refine st_a (fun K hK => ?_) | refine rg_a ?_ | refine call_c (hf) ?_ | refine gcall_c (fun hg => hf) ?_); (repeat' (refine And.intro ?_ ?_)); (all_goals first | (refine hK _ ?_; clear hK K) | exact auto_cl | skip)) | ((first | apply cw_ite | apply cw_iteN); (case hf => rfl); (case hc => exact ev_a); (all_goals first | (intro hb; (try simp only [hbs] at hb)) | skip)) | exact atN_intro | (refine if_a (fun hb => ?_) (fun hb => ?_); (all_goals (try first | with_reducible exact True.intro | (exfalso; omega)))) | refine cw_blocks (fun KB hB => ?_) | (refine hB _ ?_; clear hB KB) | refine exit_by (S := Sg) (by assumption) ?_ | (refine ret_a ?_; (try clear hB KB); (try clear hK K)))
  rw [Bool.and_assoc]
theorem rneutral_spec (o : Int) : Pure Sg 173 [I o] (fun x => x = .b (B (neutralM o))) := by
  refine pure_of Tryz.func173 rfl (rs := [.tmp 2]) rfl rfl mixed (by decide +kernel) (Nat.le_of_ble_eq_true rfl) (argsLt_mem (by simp (maxSteps := 1000000) (disch := omega) only [go_sem])) ?_
  repeat' (first | with_reducible exact tr_a | refine un_a ?_ | ((first | refine st_a (fun K hK => ?_) | refine rg_a ?_); (repeat' (refine And.intro ?_ ?_)); (all_goals first | (refine hK _ ?_; clear hK K) | exact auto_cl | skip)) | ((first | apply cw_ite | apply cw_iteN); (case hf => rfl); (case hc => exact ev_a); (all_goals first | (intro hb; (try simp only [hbs] at hb)) | skip)) | exact atN_intro | (refine if_a (fun hb => ?_) (fun hb => ?_); (all_goals (try first | with_reducible exact True.intro | (exfalso; omega)))) | refine cw_blocks (fun KB hB => ?_) | (refine hB _ ?_; clear hB KB) | refine exit_by (S := Sg) (by assumption) ?_ | (refine ret_a ?_; (try clear hB KB); (try clear hK K)))
  refine bool_eq ?_
  (try simp only [neutralM, Bool.and_eq_true, Bool.or_eq_true, Bool.not_eq_true', Bool.not_eq_false', decide_eq_true_eq, decide_eq_false_iff_not, ge_iff_le, gt_iff_lt, beq_iff_eq, bne_iff_ne, ne_eq, Bool.or_eq_false_iff, Bool.and_eq_false_imp, Bool.not_true, Bool.not_false])
  try omega
def rectL (l : List Rect) : PV := .lst 4 l.length (fnOf rectE l)
attribute [go_sem] rectL
theorem far_le {v : Int} (h : farM v = false) : -1099511627776 ≤ v ∧ v ≤ 1099511627776 := by
  simp only [farM, decide_eq_false_iff_not] at h; omega
theorem placed_spec (s : Script) (i x y : Int) (hs : ScriptLen s) : Pure Sg 198 [ag (scriptE s), I i, I x, I y] (fun r => r = .b (ag (rectE (placedM s i x y)))) := by
  obtain ⟨h1, h2, h3⟩ := id hs
  refine pure_of Tryz.func198 rfl (rs := [.cell 8 32]) rfl rfl mixed (by decide +kernel) (Nat.le_of_ble_eq_true rfl) (argsLt_mem (by simp (maxSteps := 1000000) (disch := omega) only [go_sem])) ?_
  cases hfar : (farM x || farM y || farM (s.images.getD i.toNat default).w || farM (s.images.getD i.toNat default).h) with
  | true =>
    repeat' (first | with_reducible exact tr_a | refine dec_a hfar ?_ | refine un_a ?_ | ((first | refine st_a (fun K hK => ?_) | refine rg_a ?_ | refine call_c (bfar_spec x) ?_ | refine gcall_c (fun hg => bfar_spec x) ?_ | refine call_c (bfar_spec y) ?_ | refine gcall_c (fun hg => bfar_spec y) ?_ | refine call_c (bfar_spec (s.images.getD i.toNat default).w) ?_ | refine gcall_c (fun hg => bfar_spec (s.images.getD i.toNat default).w) ?_ | refine call_c (bfar_spec (s.images.getD i.toNat default).h) ?_ | refine gcall_c (fun hg => bfar_spec (s.images.getD i.toNat default).h) ?_); (repeat' (refine And.intro ?_ ?_)); (all_goals first | (refine hK _ ?_; clear hK K) | exact auto_cl | skip)) | ((first | apply cw_ite | apply cw_iteN); (case hf => rfl); (case hc => exact ev_a); (all_goals first | (intro hb; (try simp only [hbs] at hb)) | skip)) | exact atN_intro | (refine if_a (fun hb => ?_) (fun hb => ?_); (all_goals (try first | with_reducible exact True.intro | (exfalso; omega)))) | refine cw_blocks (fun KB hB => ?_) | (refine hB _ ?_; clear hB KB) | refine exit_by (S := Sg) (by assumption) ?_ | (refine ret_a ?_; (try clear hB KB); (try clear hK K)))
    · rw [placedM, if_pos (by omega)]; rfl
    · rw [placedM, if_neg (by omega), if_pos hfar]; rfl
  | false =>
    have hq := hfar
    simp only [Bool.or_eq_false_iff] at hq
    have f1 := far_le hq.1.1.1
    have f2 := far_le hq.1.1.2
    have f3 := far_le hq.1.2
    have f4 := far_le hq.2
    repeat' (first | with_reducible exact tr_a | refine dec_a hfar ?_ | refine un_a ?_ | ((first | refine st_a (fun K hK => ?_) | refine rg_a ?_ | refine call_c (bfar_spec x) ?_ | refine gcall_c (fun hg => bfar_spec x) ?_ | refine call_c (bfar_spec y) ?_ | refine gcall_c (fun hg => bfar_spec y) ?_ | refine call_c (bfar_spec (s.images.getD i.toNat default).w) ?_ | refine gcall_c (fun hg => bfar_spec (s.images.getD i.toNat default).w) ?_ | refine call_c (bfar_spec (s.images.getD i.toNat default).h) ?_ | refine gcall_c (fun hg => bfar_spec (s.images.getD i.toNat default).h) ?_ | refine call_c (isect_spec ⟨x, y, x + (s.images.getD i.toNat default).w, y + (s.images.getD i.toNat default).h⟩ s.canvas) ?_ | refine gcall_c (fun hg => isect_spec ⟨x, y, x + (s.images.getD i.toNat default).w, y + (s.images.getD i.toNat default).h⟩ s.canvas) ?_); (repeat' (refine And.intro ?_ ?_)); (all_goals first | (refine hK _ ?_; clear hK K) | exact auto_cl | skip)) | ((first | apply cw_ite | apply cw_iteN); (case hf => rfl); (case hc => exact ev_a); (all_goals first | (intro hb; (try simp only [hbs] at hb)) | skip)) | exact atN_intro | (refine if_a (fun hb => ?_) (fun hb => ?_); (all_goals (try first | with_reducible exact True.intro | (exfalso; omega)))) | refine cw_blocks (fun KB hB => ?_) | (refine hB _ ?_; clear hB KB) | refine exit_by (S := Sg) (by assumption) ?_ | (refine ret_a ?_; (try clear hB KB); (try clear hK K)))
    · rw [placedM, if_pos (by omega)]; rfl
    · rw [placedM, if_neg (by omega), if_neg (by rw [hfar]; simp)]; rfl
theorem imageRect_spec (s : Script) (o : Op) (hs : ScriptLen s) : Pure Sg 172 [ag (scriptE s), ag (opE o)] (fun r => r = .b (ag (rectE (imageRectM s o)))) := by
  refine pure_of Tryz.func172 rfl (rs := [.cell 4 32]) rfl rfl mixed (by decide +kernel) (Nat.le_of_ble_eq_true rfl) (argsLt_mem (by simp (maxSteps := 1000000) (disch := omega) only [go_sem])) ?_
  repeat' (first | with_reducible exact tr_a | refine un_a ?_ | ((first | refine st_a (fun K hK => ?_) | refine rg_a ?_ | refine call_c (placed_spec s o.image o.x o.y hs) ?_ | refine gcall_c (fun hg => placed_spec s o.image o.x o.y hs) ?_); (repeat' (refine And.intro ?_ ?_)); (all_goals first | (refine hK _ ?_; clear hK K) | exact auto_cl | skip)) | ((first | apply cw_ite | apply cw_iteN); (case hf => rfl); (case hc => exact ev_a); (all_goals first | (intro hb; (try simp only [hbs] at hb)) | skip)) | exact atN_intro | (refine if_a (fun hb => ?_) (fun hb => ?_); (all_goals (try first | with_reducible exact True.intro | (exfalso; omega)))) | refine cw_blocks (fun KB hB => ?_) | (refine hB _ ?_; clear hB KB) | refine exit_by (S := Sg) (by assumption) ?_ | (refine ret_a ?_; (try clear hB KB); (try clear hK K)))
  · rw [imageRectM, if_neg (by omega)]; rfl
  · rw [imageRectM, if_pos (by omega)]; rfl
theorem maskRect_spec (s : Script) (o : Op) (hs : ScriptLen s) (hm : 0 ≤ o.mask ∧ o.mask ≤ 1000000) : Pure Sg 197 [ag (scriptE s), ag (opE o)] (fun r => r = .b (ag (rectE (maskRectM s o)))) := by
  obtain ⟨m1, m2⟩ := hm
  refine pure_of Tryz.func197 rfl (rs := [.cell 4 32]) rfl rfl mixed (by decide +kernel) (Nat.le_of_ble_eq_true rfl) (argsLt_mem (by simp (maxSteps := 1000000) (disch := omega) only [go_sem])) ?_
  repeat' (first | with_reducible exact tr_a | refine un_a ?_ | ((first | refine st_a (fun K hK => ?_) | refine rg_a ?_ | refine call_c (isect_spec s.canvas s.canvas) ?_ | refine gcall_c (fun hg => isect_spec s.canvas s.canvas) ?_ | refine call_c (placed_spec s (o.mask - 1) o.maskX o.maskY hs) ?_ | refine gcall_c (fun hg => placed_spec s (o.mask - 1) o.maskX o.maskY hs) ?_); (repeat' (refine And.intro ?_ ?_)); (all_goals first | (refine hK _ ?_; clear hK K) | exact auto_cl | skip)) | ((first | apply cw_ite | apply cw_iteN); (case hf => rfl); (case hc => exact ev_a); (all_goals first | (intro hb; (try simp only [hbs] at hb)) | skip)) | exact atN_intro | (refine if_a (fun hb => ?_) (fun hb => ?_); (all_goals (try first | with_reducible exact True.intro | (exfalso; omega)))) | refine cw_blocks (fun KB hB => ?_) | (refine hB _ ?_; clear hB KB) | refine exit_by (S := Sg) (by assumption) ?_ | (refine ret_a ?_; (try clear hB KB); (try clear hK K)))
  · rw [maskRectM, if_pos (by omega)]; rfl
  · rw [maskRectM, if_neg (by omega)]; rfl
def four (a b c d : Int) (k : Nat) : Int := [a, b, c, d].getD k 0
theorem four_far {a b c d : Int} {k : Nat} (hk : k < 4) (h : farM (four a b c d k) = true) : (farM c || farM d || farM a || farM b) = true := by
  have : k = 0 ∨ k = 1 ∨ k = 2 ∨ k = 3 := by omega
  rcases this with rfl | rfl | rfl | rfl <;> simp only [four, List.getD_cons_zero, List.getD_cons_succ] at h <;> simp [h]
theorem four_near {a b c d : Int} (h : ∀ j, j < 4 → farM (four a b c d j) = false) : farM a = false ∧ farM b = false ∧ farM c = false ∧ farM d = false :=
  ⟨h 0 (by omega), h 1 (by omega), h 2 (by omega), h 3 (by omega)⟩
theorem rplaced_spec (s : Script) (i x y : Int) (hs : ScriptLen s) : Pure Sg 199 [ag (scriptE s), I i, I x, I y] (fun r => r = .b (ag (rectE (placedM s i x y)))) := by
  obtain ⟨h1, h2, h3⟩ := id hs
  refine pure_of Tryz.func199 rfl (rs := [.cell 8 32]) rfl rfl mixed (by decide +kernel) (Nat.le_of_ble_eq_true rfl) (argsLt_mem (by simp (maxSteps := 1000000) (disch := omega) only [go_sem])) ?_
  repeat' (first | with_reducible exact tr_a | refine un_a ?_ | ((first | refine st_a (fun K hK => ?_) | refine rg_a ?_); (repeat' (refine And.intro ?_ ?_)); (all_goals first | (refine hK _ ?_; clear hK K) | exact auto_cl | skip)) | ((first | apply cw_ite | apply cw_iteN); (case hf => rfl); (case hc => exact ev_a); (all_goals first | (intro hb; (try simp only [hbs] at hb)) | skip)) | exact atN_intro | (refine if_a (fun hb => ?_) (fun hb => ?_); (all_goals (try first | with_reducible exact True.intro | (exfalso; omega)))) | refine cw_blocks (fun KB hB => ?_) | (refine hB _ ?_; clear hB KB) | refine exit_by (S := Sg) (by assumption) ?_ | (refine ret_a ?_; (try clear hB KB); (try clear hK K)))
  · rw [placedM, if_pos (by omega)]; rfl
  refine cw_loop (X := Nat) (fun k => mkSt [(2, .b (I x)), (3, .b (I y)), (4, .b (.c (.ptr 0 0))), (8, .b (.c (.ptr 1 0))), (9, .b (.c (.own 2 4))), (10, .b (I k))]
    [(0, .fix ((scriptE s).map CV.p)), (1, .fix ((rectE zeroR).map CV.p)), (2, .arr 3 1 4 (fun a _ => PI (four (s.images.getD i.toNat default).w (s.images.getD i.toNat default).h x y a)))] 3)
    (fun k => k ≤ 4 ∧ ∀ j, j < k → farM (four (s.images.getD i.toNat default).w (s.images.getD i.toNat default).h x y j) = false) (fun k => 4 - k) 0 ?_ ?_ ?_
  · exact ⟨by omega, fun j hj => absurd hj (Nat.not_lt_zero _)⟩
  · refine le_a [(1, some 1), (2, some 2)] ?_ ?_
    repeat' (refine And.intro ?_ ?_)
    all_goals first | exact le_cl | skip
    refine .inr fun a ha j hj => ?_
    have h2 : j = 0 := by omega
    subst h2
    have h1 : a = 0 ∨ a = 1 ∨ a = 2 ∨ a = 3 := by omega
    rcases h1 with rfl | rfl | rfl | rfl <;> exact fun _ _ _ h => h
  · rintro k ⟨hk, hf⟩
    rcases Nat.lt_or_ge k 4 with hk4 | hk4
    · repeat' (first | with_reducible exact tr_a | refine un_a ?_ | ((first | refine st_a (fun K hK => ?_) | refine rg_a ?_); (repeat' (refine And.intro ?_ ?_)); (all_goals first | (refine hK _ ?_; clear hK K) | exact auto_cl | skip)) | ((first | apply cw_ite | apply cw_iteN); (case hf => rfl); (case hc => exact ev_a); (all_goals first | (intro hb; (try simp only [hbs] at hb)) | skip)) | exact atN_intro | (refine if_a (fun hb => ?_) (fun hb => ?_); (all_goals (try first | with_reducible exact True.intro | (exfalso; omega)))) | refine cw_blocks (fun KB hB => ?_) | (refine hB _ ?_; clear hB KB) | refine exit_by (S := Sg) (by assumption) ?_ | (refine ret_a ?_; (try clear hB KB); (try clear hK K)))
      · rw [placedM, if_neg (by omega), if_pos (four_far hk4 (by simp only [Int.toNat_natCast] at hb; simp only [farM, decide_eq_true_eq]; omega))]; rfl
      · rw [thenQ_normal]
        refine wk_loop (k + 1) ?_ ⟨by omega, fun j hj => ?_⟩ (by omega)
        · refine le_a [(1, some 1), (2, some 2)] ?_ ?_
          repeat' (refine And.intro ?_ ?_)
          all_goals first | exact le_cl | skip
        · by_cases e : j = k
          · rw [e]; simp only [Int.toNat_natCast] at hb; simp only [farM, decide_eq_false_iff_not]; omega
          · exact hf j (by omega)
    · have hk5 : k = 4 := by omega
      subst hk5
      obtain ⟨n1, n2, n3, n4⟩ := four_near hf
      have f1 := far_le n1
      have f2 := far_le n2
      have f3 := far_le n3
      have f4 := far_le n4
      have e1 : four (s.images.getD i.toNat default).w (s.images.getD i.toNat default).h x y 0 = (s.images.getD i.toNat default).w := rfl
      have e2 : four (s.images.getD i.toNat default).w (s.images.getD i.toNat default).h x y 1 = (s.images.getD i.toNat default).h := rfl
      repeat' (first | with_reducible exact tr_a | refine un_a ?_ | ((first | refine st_a (fun K hK => ?_) | refine rg_a ?_ | refine call_c (risect_spec ⟨x, y, x + (s.images.getD i.toNat default).w, y + (s.images.getD i.toNat default).h⟩ s.canvas) ?_ | refine gcall_c (fun hg => risect_spec ⟨x, y, x + (s.images.getD i.toNat default).w, y + (s.images.getD i.toNat default).h⟩ s.canvas) ?_); (repeat' (refine And.intro ?_ ?_)); (all_goals first | (refine hK _ ?_; clear hK K) | exact auto_cl | skip)) | ((first | apply cw_ite | apply cw_iteN); (case hf => rfl); (case hc => exact ev_a); (all_goals first | (intro hb; (try simp only [hbs] at hb)) | skip)) | exact atN_intro | (refine if_a (fun hb => ?_) (fun hb => ?_); (all_goals (try first | with_reducible exact True.intro | (exfalso; omega)))) | refine cw_blocks (fun KB hB => ?_) | (refine hB _ ?_; clear hB KB) | refine exit_by (S := Sg) (by assumption) ?_ | (refine ret_a ?_; (try clear hB KB); (try clear hK K)))
      rw [placedM, if_neg (by omega), if_neg (by rw [n1, n2, n3, n4]; simp)]; rfl
theorem rimageRect_spec (s : Script) (o : Op) (hs : ScriptLen s) : Pure Sg 175 [ag (scriptE s), ag (opE o)] (fun r => r = .b (ag (rectE (imageRectM s o)))) := by
  refine pure_of Tryz.func175 rfl (rs := [.cell 4 32]) rfl rfl mixed (by decide +kernel) (Nat.le_of_ble_eq_true rfl) (argsLt_mem (by simp (maxSteps := 1000000) (disch := omega) only [go_sem])) ?_
  repeat' (first | with_reducible exact tr_a | refine un_a ?_ | ((first | refine st_a (fun K hK => ?_) | refine rg_a ?_ | refine call_c (rplaced_spec s o.image o.x o.y hs) ?_ | refine gcall_c (fun hg => rplaced_spec s o.image o.x o.y hs) ?_); (repeat' (refine And.intro ?_ ?_)); (all_goals first | (refine hK _ ?_; clear hK K) | exact auto_cl | skip)) | ((first | apply cw_ite | apply cw_iteN); (case hf => rfl); (case hc => exact ev_a); (all_goals first | (intro hb; (try simp only [hbs] at hb)) | skip)) | exact atN_intro | (refine if_a (fun hb => ?_) (fun hb => ?_); (all_goals (try first | with_reducible exact True.intro | (exfalso; omega)))) | refine cw_blocks (fun KB hB => ?_) | (refine hB _ ?_; clear hB KB) | refine exit_by (S := Sg) (by assumption) ?_ | (refine ret_a ?_; (try clear hB KB); (try clear hK K)))
  · rw [imageRectM, if_neg (by omega)]; rfl
  · rw [imageRectM, if_pos (by omega)]; rfl
theorem rmaskRect_spec (s : Script) (o : Op) (hs : ScriptLen s) (hm : 0 ≤ o.mask ∧ o.mask ≤ 1000000) : Pure Sg 200 [ag (scriptE s), ag (opE o)] (fun r => r = .b (ag (rectE (maskRectM s o)))) := by
  obtain ⟨m1, m2⟩ := hm
  refine pure_of Tryz.func200 rfl (rs := [.cell 4 32]) rfl rfl mixed (by decide +kernel) (Nat.le_of_ble_eq_true rfl) (argsLt_mem (by simp (maxSteps := 1000000) (disch := omega) only [go_sem])) ?_
  repeat' (first | with_reducible exact tr_a | refine un_a ?_ | ((first | refine st_a (fun K hK => ?_) | refine rg_a ?_ | refine call_c (risect_spec s.canvas s.canvas) ?_ | refine gcall_c (fun hg => risect_spec s.canvas s.canvas) ?_ | refine call_c (rplaced_spec s (o.mask - 1) o.maskX o.maskY hs) ?_ | refine gcall_c (fun hg => rplaced_spec s (o.mask - 1) o.maskX o.maskY hs) ?_); (repeat' (refine And.intro ?_ ?_)); (all_goals first | (refine hK _ ?_; clear hK K) | exact auto_cl | skip)) | ((first | apply cw_ite | apply cw_iteN); (case hf => rfl); (case hc => exact ev_a); (all_goals first | (intro hb; (try simp only [hbs] at hb)) | skip)) | exact atN_intro | (refine if_a (fun hb => ?_) (fun hb => ?_); (all_goals (try first | with_reducible exact True.intro | (exfalso; omega)))) | refine cw_blocks (fun KB hB => ?_) | (refine hB _ ?_; clear hB KB) | refine exit_by (S := Sg) (by assumption) ?_ | (refine ret_a ?_; (try clear hB KB); (try clear hK K)))
  · rw [maskRectM, if_pos (by omega)]; rfl
  · rw [maskRectM, if_neg (by omega)]; rfl
end Go.Proofs.YtbpplplnkgmhlaaGreatDoor

set_option maxHeartbeats 8000000
set_option maxRecDepth 16000
namespace Go.Proofs.YtbpplplnkgmhlaaGreatDoor
open Go Go.SL
open Go.RowKit (wrap64)

def pixC (k : Nat) (p : Pixel) : Int := match k with
  | 0 => p.c0
  | 1 => p.c1
  | 2 => p.c2
  | 3 => p.a
  | _ => p.f
def planeOf (w h : Int) (l : List Pixel) (k : Nat) : Plane := ⟨w, h, w, l.map (pixC k)⟩
def imageOf (w h : Int) (l : List Pixel) : Image := ⟨w, h, false, ⟨0, 0, 0, 0, 0⟩, planeOf w h l 0, planeOf w h l 1, planeOf w h l 2, planeOf w h l 3, planeOf w h l 4⟩
def noPlane : Plane := ⟨0, 0, 0, []⟩
def noImage : Image := ⟨0, 0, false, ⟨0, 0, 0, 0, 0⟩, noPlane, noPlane, noPlane, noPlane, noPlane⟩
def imageOk (w h : Int) (n : Nat) : Bool := fitsM w h && decide ((n : Int) = w * h)
def imageOfM (w h : Int) (l : List Pixel) : Image := if imageOk w h l.length = true then imageOf w h l else noImage
theorem fits_bound {w h : Int} (hf : fitsM w h = true) : 1 ≤ w ∧ 1 ≤ h ∧ 1 ≤ w * h ∧ w * h ≤ 16777216 ∧ w ≤ 16777216 ∧ h ≤ 16777216 := by
  simp only [fitsM, decide_eq_true_eq] at hf
  obtain ⟨h1, h2, h3, h4⟩ := hf
  have h5 : w * h ≤ w * (16777216 / w) := Int.mul_le_mul_of_nonneg_left h4 (by omega)
  have h6 : w * (16777216 / w) ≤ 16777216 := Int.mul_ediv_self_le (by omega)
  have h7 : 1 * 1 ≤ w * h := Int.mul_le_mul h1 h2 (by omega) (by omega)
  have h8 : 16777216 / w ≤ 16777216 := Int.ediv_le_self _ (by omega)
  omega

def planeF (l : List Pixel) (q i k : Nat) : Nat → Nat → PV := fun a _ => PU (if a < i ∨ a = i ∧ q < k then pixC q (l.getD a default) else 0)
def plCells (w h : Int) (x q n : Nat) : List CV := if q < x then [.p (PI w), .p (PI h), .p (PI w), .own (2 + q) n] else [.p (PI 0), .p (PI 0), .p (PI 0), .p Nil]
def imCells (w h : Int) (n x : Nat) : List CV := [.p (PI w), .p (PI h), .p (PB false), .p (PU 0), .p (PU 0), .p (PU 0), .p (PU 0), .p (PU 0)] ++ plCells w h x 0 n ++ plCells w h x 1 n ++ plCells w h x 2 n ++ plCells w h x 3 n ++ plCells w h x 4 n
def imBoxes (w h : Int) (n x : Nat) (l : List Pixel) : List (Nat × Bx) := [(0, .fix ((imageE noImage).map CV.p)), (1, .fix (imCells w h n x))] ++ (if 0 < x then [(2, .arr 49 1 n (planeF l 0 0 0))] else []) ++ (if 1 < x then [(3, .arr 49 1 n (planeF l 1 0 0))] else []) ++ (if 2 < x then [(4, .arr 49 1 n (planeF l 2 0 0))] else []) ++ (if 3 < x then [(5, .arr 49 1 n (planeF l 3 0 0))] else []) ++ (if 4 < x then [(6, .arr 49 1 n (planeF l 4 0 0))] else [])

theorem planeF_zero {l : List Pixel} {q a j : Nat} : planeF l q 0 0 a j = PU 0 := by
  rw [planeF, if_neg (by omega)]
theorem planeF_same {l : List Pixel} {q i k : Nat} (h : q ≠ k) : planeF l q i k = planeF l q i (k + 1) := by
  funext a j
  unfold planeF
  by_cases c : a < i ∨ a = i ∧ q < k
  · rw [if_pos c, if_pos (by omega)]
  · rw [if_neg c, if_neg (by omega)]
theorem planeF_set {l : List Pixel} {q i a j : Nat} : (if a = i then PU (pixC q (l.getD i default)) else planeF l q i q a j) = planeF l q i (q + 1) a j := by
  unfold planeF
  by_cases c : a = i
  · rw [if_pos c, if_pos (by omega), c]
  · rw [if_neg c]
    by_cases d : a < i
    · rw [if_pos (by omega), if_pos (by omega)]
    · rw [if_neg (by omega), if_neg (by omega)]
theorem planeF_next {l : List Pixel} {q i : Nat} (h : q < 3) : planeF l q i 3 = planeF l q (i + 1) 0 := by
  funext a j
  unfold planeF
  by_cases c : a < i ∨ a = i ∧ q < 3
  · rw [if_pos c, if_pos (by omega)]
  · rw [if_neg c, if_neg (by omega)]
theorem planeF_last {l : List Pixel} {q i a j : Nat} (h : 3 ≤ q) : (if a = i then PU (pixC q (l.getD i default)) else planeF l q i 3 a j) = planeF l q (i + 1) 0 a j := by
  unfold planeF
  by_cases c : a = i
  · rw [if_pos c, if_pos (by omega), c]
  · rw [if_neg c]
    by_cases d : a < i
    · rw [if_pos (by omega), if_pos (by omega)]
    · rw [if_neg (by omega), if_neg (by omega)]

theorem plane_le {w h : Int} {l : List Pixel} {q : Nat} : PV.le (.lst 1 l.length (planeF l q l.length 0)) (.lst 1 (planeOf w h l q).s.length (fnOf u16E (planeOf w h l q).s)) := by
  have e : (planeOf w h l q).s.length = l.length := by simp [planeOf]
  rw [e]
  refine lst_le fun a ha j hj => ?_
  have : j = 0 := by omega
  subst this
  have e2 : (planeOf w h l q).s.getD a default = pixC q (l.getD a default) := by
    simp only [planeOf, List.getD_eq_getElem?_getD, List.getElem?_map, List.getElem?_eq_getElem ha, Option.map_some, Option.getD_some]
  rw [planeF, if_pos (by omega), fnOf, e2]
  rfl

theorem imageOf_spec (w h : Int) (l : List Pixel) (hl : l.length ≤ 4611686018427387904) :
    Pure Sg 82 [I w, I h, .c (.p (pixL l))] (fun r => r = .tup [ag (imageE (imageOfM w h l)), B (imageOk w h l.length)]) := by
  refine pure_le ?_
  refine pure_of Tryz.func82 rfl (rs := [.cell 6 79, .tmp 7]) rfl rfl mixed (by decide +kernel) (Nat.le_of_ble_eq_true rfl) (argsLt_mem (by simp (maxSteps := 1000000) (disch := omega) only [go_sem])) ?_
  repeat' (first | with_reducible exact tr_a | refine un_a ?_ | ((first | refine st_a (fun K hK => ?_) | refine rg_a ?_ | refine call_c (r13fits_spec _ _) ?_ | refine gcall_c (fun hg => r13fits_spec _ _) ?_); (repeat' (refine And.intro ?_ ?_)); (all_goals first | (refine hK _ ?_; clear hK K) | exact auto_cl | skip)) | ((first | apply cw_ite | apply cw_iteN); (case hf => rfl); (case hc => exact ev_a); (all_goals first | (intro hb; (try simp only [hbs] at hb)) | skip)) | exact atN_intro | (refine if_a (fun hb => ?_) (fun hb => ?_); (all_goals (try first | with_reducible exact True.intro | (exfalso; omega)))) | refine cw_blocks (fun KB hB => ?_) | (refine hB _ ?_; clear hB KB) | refine exit_by (S := Sg) (by assumption) ?_ | (refine ret_a ?_; (try clear hB KB); (try clear hK K)))
  · have hok : imageOk w h l.length = false := by
      cases hf : fitsM w h with
      | false => rw [imageOk, hf]; rfl
      | true =>
        have hb2 := fits_bound hf
        rw [hf, w64' (n := w * h) (by omega) (by omega)] at hb
        rw [imageOk, hf, decide_eq_false (by simpa using hb)]; rfl
    rw [hok, imageOfM, if_neg (by rw [hok]; simp)]
    refine sle_tup ⟨ble_agg ?_, ble_rfl trivial, trivial⟩
    simp only [List.map_cons, List.map_nil, cleL_cons, cleL_nil]
    repeat' (refine And.intro ?_ ?_)
    all_goals first | exact .inl rfl | exact .inl trivial | exact .inr nil_le | trivial | skip
  refine cw_loop (X := Nat) (fun x => mkSt [(0, .b (I w)), (1, .b (I h)), (2, .b (.c (.p (pixL l)))), (6, .b (.c (.ptr 0 0))), (8, .b (.c (.ptr 1 0))), (9, .b (I x))] (imBoxes w h l.length x l) (2 + x)) (fun x => x ≤ 5) (fun x => 5 - x) 0 ?_ ?_ ?_
  · omega
  · simp only [imBoxes, imCells, plCells]
    refine le_a [(1, some 1)] ?_ ?_
    repeat' (refine And.intro ?_ ?_)
    all_goals first | exact le_cl | skip
    all_goals exact nil_le
  · intro x hx
    have hw : IntKind.i64.wrap (w * h) = w * h := by
      have := fits_bound hb.1
      exact w64' (by omega) (by omega)
    have hb2 := fits_bound hb.1
    rw [hw] at hb
    have hx' : x = 0 ∨ x = 1 ∨ x = 2 ∨ x = 3 ∨ x = 4 ∨ x = 5 := by omega
    rcases hx' with rfl | rfl | rfl | rfl | rfl | rfl
    · simp only [imBoxes, imCells, plCells]
      repeat' (first | with_reducible exact tr_a | refine un_a ?_ | ((first | refine st_a (fun K hK => ?_) | refine rg_a ?_); (repeat' (refine And.intro ?_ ?_)); (all_goals first | (refine hK _ ?_; clear hK K) | exact auto_cl | skip)) | ((first | apply cw_ite | apply cw_iteN); (case hf => rfl); (case hc => exact ev_a); (all_goals first | (intro hb; (try simp only [hbs] at hb)) | skip)) | exact atN_intro | (refine if_a (fun hb => ?_) (fun hb => ?_); (all_goals (try first | with_reducible exact True.intro | (exfalso; omega)))) | refine cw_blocks (fun KB hB => ?_) | (refine hB _ ?_; clear hB KB) | refine exit_by (S := Sg) (by assumption) ?_ | (refine ret_a ?_; (try clear hB KB); (try clear hK K)))
      rw [thenQ_normal]
      refine wk_loop 1 ?_ (by omega) (by omega)
      refine le_a [(1, some 1), (2, some 2)] ?_ ?_
      repeat' (refine And.intro ?_ ?_)
      all_goals first | exact le_cl | skip
      refine .inr fun a ha j hj => ?_
      have : j = 0 := by omega
      subst this
      rw [planeF_zero]; exact PV.le_refl _
    · simp only [imBoxes, imCells, plCells]
      repeat' (first | with_reducible exact tr_a | refine un_a ?_ | ((first | refine st_a (fun K hK => ?_) | refine rg_a ?_); (repeat' (refine And.intro ?_ ?_)); (all_goals first | (refine hK _ ?_; clear hK K) | exact auto_cl | skip)) | ((first | apply cw_ite | apply cw_iteN); (case hf => rfl); (case hc => exact ev_a); (all_goals first | (intro hb; (try simp only [hbs] at hb)) | skip)) | exact atN_intro | (refine if_a (fun hb => ?_) (fun hb => ?_); (all_goals (try first | with_reducible exact True.intro | (exfalso; omega)))) | refine cw_blocks (fun KB hB => ?_) | (refine hB _ ?_; clear hB KB) | refine exit_by (S := Sg) (by assumption) ?_ | (refine ret_a ?_; (try clear hB KB); (try clear hK K)))
      rw [thenQ_normal]
      refine wk_loop 2 ?_ (by omega) (by omega)
      refine le_a [(1, some 1), (2, some 2), (3, some 3)] ?_ ?_
      repeat' (refine And.intro ?_ ?_)
      all_goals first | exact le_cl | skip
      refine .inr fun a ha j hj => ?_
      have : j = 0 := by omega
      subst this
      rw [planeF_zero]; exact PV.le_refl _
    · simp only [imBoxes, imCells, plCells]
      repeat' (first | with_reducible exact tr_a | refine un_a ?_ | ((first | refine st_a (fun K hK => ?_) | refine rg_a ?_); (repeat' (refine And.intro ?_ ?_)); (all_goals first | (refine hK _ ?_; clear hK K) | exact auto_cl | skip)) | ((first | apply cw_ite | apply cw_iteN); (case hf => rfl); (case hc => exact ev_a); (all_goals first | (intro hb; (try simp only [hbs] at hb)) | skip)) | exact atN_intro | (refine if_a (fun hb => ?_) (fun hb => ?_); (all_goals (try first | with_reducible exact True.intro | (exfalso; omega)))) | refine cw_blocks (fun KB hB => ?_) | (refine hB _ ?_; clear hB KB) | refine exit_by (S := Sg) (by assumption) ?_ | (refine ret_a ?_; (try clear hB KB); (try clear hK K)))
      rw [thenQ_normal]
      refine wk_loop 3 ?_ (by omega) (by omega)
      refine le_a [(1, some 1), (2, some 2), (3, some 3), (4, some 4)] ?_ ?_
      repeat' (refine And.intro ?_ ?_)
      all_goals first | exact le_cl | skip
      refine .inr fun a ha j hj => ?_
      have : j = 0 := by omega
      subst this
      rw [planeF_zero]; exact PV.le_refl _
    · simp only [imBoxes, imCells, plCells]
      repeat' (first | with_reducible exact tr_a | refine un_a ?_ | ((first | refine st_a (fun K hK => ?_) | refine rg_a ?_); (repeat' (refine And.intro ?_ ?_)); (all_goals first | (refine hK _ ?_; clear hK K) | exact auto_cl | skip)) | ((first | apply cw_ite | apply cw_iteN); (case hf => rfl); (case hc => exact ev_a); (all_goals first | (intro hb; (try simp only [hbs] at hb)) | skip)) | exact atN_intro | (refine if_a (fun hb => ?_) (fun hb => ?_); (all_goals (try first | with_reducible exact True.intro | (exfalso; omega)))) | refine cw_blocks (fun KB hB => ?_) | (refine hB _ ?_; clear hB KB) | refine exit_by (S := Sg) (by assumption) ?_ | (refine ret_a ?_; (try clear hB KB); (try clear hK K)))
      rw [thenQ_normal]
      refine wk_loop 4 ?_ (by omega) (by omega)
      refine le_a [(1, some 1), (2, some 2), (3, some 3), (4, some 4), (5, some 5)] ?_ ?_
      repeat' (refine And.intro ?_ ?_)
      all_goals first | exact le_cl | skip
      refine .inr fun a ha j hj => ?_
      have : j = 0 := by omega
      subst this
      rw [planeF_zero]; exact PV.le_refl _
    · simp only [imBoxes, imCells, plCells]
      repeat' (first | with_reducible exact tr_a | refine un_a ?_ | ((first | refine st_a (fun K hK => ?_) | refine rg_a ?_); (repeat' (refine And.intro ?_ ?_)); (all_goals first | (refine hK _ ?_; clear hK K) | exact auto_cl | skip)) | ((first | apply cw_ite | apply cw_iteN); (case hf => rfl); (case hc => exact ev_a); (all_goals first | (intro hb; (try simp only [hbs] at hb)) | skip)) | exact atN_intro | (refine if_a (fun hb => ?_) (fun hb => ?_); (all_goals (try first | with_reducible exact True.intro | (exfalso; omega)))) | refine cw_blocks (fun KB hB => ?_) | (refine hB _ ?_; clear hB KB) | refine exit_by (S := Sg) (by assumption) ?_ | (refine ret_a ?_; (try clear hB KB); (try clear hK K)))
      rw [thenQ_normal]
      refine wk_loop 5 ?_ (by omega) (by omega)
      refine le_a [(1, some 1), (2, some 2), (3, some 3), (4, some 4), (5, some 5), (6, some 6)] ?_ ?_
      repeat' (refine And.intro ?_ ?_)
      all_goals first | exact le_cl | skip
      refine .inr fun a ha j hj => ?_
      have : j = 0 := by omega
      subst this
      rw [planeF_zero]; exact PV.le_refl _
    simp only [imBoxes, imCells, plCells]
    repeat' (first | with_reducible exact tr_a | refine un_a ?_ | ((first | refine st_a (fun K hK => ?_) | refine rg_a ?_); (repeat' (refine And.intro ?_ ?_)); (all_goals first | (refine hK _ ?_; clear hK K) | exact auto_cl | skip)) | ((first | apply cw_ite | apply cw_iteN); (case hf => rfl); (case hc => exact ev_a); (all_goals first | (intro hb; (try simp only [hbs] at hb)) | skip)) | exact atN_intro | (refine if_a (fun hb => ?_) (fun hb => ?_); (all_goals (try first | with_reducible exact True.intro | (exfalso; omega)))) | refine cw_blocks (fun KB hB => ?_) | (refine hB _ ?_; clear hB KB) | refine exit_by (S := Sg) (by assumption) ?_ | (refine ret_a ?_; (try clear hB KB); (try clear hK K)))
    refine cw_loop (X := Nat) (fun i => mkSt [(0, .b (I w)), (1, .b (I h)), (2, .b (.c (.p (pixL l)))), (6, .b (.c (.ptr 0 0))), (8, .b (.c (.ptr 1 0))), (10, .b (I i))] [(0, .fix ((imageE noImage).map CV.p)), (1, .fix ([.p (PI w), .p (PI h), .p (PB false), .p (PU 0), .p (PU 0), .p (PU 0), .p (PU 0), .p (PU 0), .p (PI w), .p (PI h), .p (PI w), .own 2 l.length, .p (PI w), .p (PI h), .p (PI w), .own 3 l.length, .p (PI w), .p (PI h), .p (PI w), .own 4 l.length, .p (PI w), .p (PI h), .p (PI w), .own 5 l.length, .p (PI w), .p (PI h), .p (PI w), .own 6 l.length])), (2, .arr 49 1 l.length (planeF l 0 i 0)), (3, .arr 49 1 l.length (planeF l 1 i 0)), (4, .arr 49 1 l.length (planeF l 2 i 0)), (5, .arr 49 1 l.length (planeF l 3 i 0)), (6, .arr 49 1 l.length (planeF l 4 i 0))] 7) (fun i => i ≤ l.length) (fun i => l.length - i) 0 ?_ ?_ ?_
    · omega
    · refine le_a [(1, some 1), (2, some 2), (3, some 3), (4, some 4), (5, some 5), (6, some 6)] ?_ ?_
      repeat' (refine And.intro ?_ ?_)
      all_goals first | exact le_cl | skip
    · intro i hi
      repeat' (first | with_reducible exact tr_a | refine un_a ?_ | ((first | refine st_a (fun K hK => ?_) | refine rg_a ?_); (repeat' (refine And.intro ?_ ?_)); (all_goals first | (refine hK _ ?_; clear hK K) | exact auto_cl | skip)) | ((first | apply cw_ite | apply cw_iteN); (case hf => rfl); (case hc => exact ev_a); (all_goals first | (intro hb; (try simp only [hbs] at hb)) | skip)) | exact atN_intro | (refine if_a (fun hb => ?_) (fun hb => ?_); (all_goals (try first | with_reducible exact True.intro | (exfalso; omega)))) | refine cw_blocks (fun KB hB => ?_) | (refine hB _ ?_; clear hB KB) | refine exit_by (S := Sg) (by assumption) ?_ | (refine ret_a ?_; (try clear hB KB); (try clear hK K)))
      · refine cw_loop (X := Nat) (fun k => mkSt [(0, .b (I w)), (1, .b (I h)), (2, .b (.c (.p (pixL l)))), (6, .b (.c (.ptr 0 0))), (8, .b (.c (.ptr 1 0))), (10, .b (I i)), (11, .b (I k))] [(0, .fix ((imageE noImage).map CV.p)), (1, .fix ([.p (PI w), .p (PI h), .p (PB false), .p (PU 0), .p (PU 0), .p (PU 0), .p (PU 0), .p (PU 0), .p (PI w), .p (PI h), .p (PI w), .own 2 l.length, .p (PI w), .p (PI h), .p (PI w), .own 3 l.length, .p (PI w), .p (PI h), .p (PI w), .own 4 l.length, .p (PI w), .p (PI h), .p (PI w), .own 5 l.length, .p (PI w), .p (PI h), .p (PI w), .own 6 l.length])), (2, .arr 49 1 l.length (planeF l 0 i k)), (3, .arr 49 1 l.length (planeF l 1 i k)), (4, .arr 49 1 l.length (planeF l 2 i k)), (5, .arr 49 1 l.length (planeF l 3 i k)), (6, .arr 49 1 l.length (planeF l 4 i k))] 7) (fun k => k ≤ 3) (fun k => 3 - k) 0 ?_ ?_ ?_
        · omega
        · refine le_a [(1, some 1), (2, some 2), (3, some 3), (4, some 4), (5, some 5), (6, some 6)] ?_ ?_
          repeat' (refine And.intro ?_ ?_)
          all_goals first | exact le_cl | skip
        · intro k hk
          have hk' : k = 0 ∨ k = 1 ∨ k = 2 ∨ k = 3 := by omega
          rcases hk' with rfl | rfl | rfl | rfl
          · repeat' (first | with_reducible exact tr_a | refine un_a ?_ | ((first | refine st_a (fun K hK => ?_) | refine rg_a ?_); (repeat' (refine And.intro ?_ ?_)); (all_goals first | (refine hK _ ?_; clear hK K) | exact auto_cl | skip)) | ((first | apply cw_ite | apply cw_iteN); (case hf => rfl); (case hc => exact ev_a); (all_goals first | (intro hb; (try simp only [hbs] at hb)) | skip)) | exact atN_intro | (refine if_a (fun hb => ?_) (fun hb => ?_); (all_goals (try first | with_reducible exact True.intro | (exfalso; omega)))) | refine cw_blocks (fun KB hB => ?_) | (refine hB _ ?_; clear hB KB) | refine exit_by (S := Sg) (by assumption) ?_ | (refine ret_a ?_; (try clear hB KB); (try clear hK K)))
            rw [thenQ_normal]
            refine wk_loop 1 ?_ (by omega) (by omega)
            refine le_a [(1, some 1), (2, some 2), (3, some 3), (4, some 4), (5, some 5), (6, some 6)] ?_ ?_
            repeat' (refine And.intro ?_ ?_)
            all_goals first | exact le_cl | skip
            · refine .inr fun a ha j hj => ?_
              have : j = 0 := by omega
              subst this
              rw [← planeF_set]
              simp only [Int.toNat_natCast]
              by_cases h : a = i
              · rw [if_pos h, if_pos h]
                split
                · exact PV.le_refl _
                · rename_i hn
                  exact absurd ⟨Nat.le_refl _, by decide +kernel⟩ hn
              · rw [if_neg h, if_neg h]; exact PV.le_refl _
            · exact .inl (planeF_same (by decide))
            · exact .inl (planeF_same (by decide))
            · exact .inl (planeF_same (by decide))
            · exact .inl (planeF_same (by decide))
          · repeat' (first | with_reducible exact tr_a | refine un_a ?_ | ((first | refine st_a (fun K hK => ?_) | refine rg_a ?_); (repeat' (refine And.intro ?_ ?_)); (all_goals first | (refine hK _ ?_; clear hK K) | exact auto_cl | skip)) | ((first | apply cw_ite | apply cw_iteN); (case hf => rfl); (case hc => exact ev_a); (all_goals first | (intro hb; (try simp only [hbs] at hb)) | skip)) | exact atN_intro | (refine if_a (fun hb => ?_) (fun hb => ?_); (all_goals (try first | with_reducible exact True.intro | (exfalso; omega)))) | refine cw_blocks (fun KB hB => ?_) | (refine hB _ ?_; clear hB KB) | refine exit_by (S := Sg) (by assumption) ?_ | (refine ret_a ?_; (try clear hB KB); (try clear hK K)))
            rw [thenQ_normal]
            refine wk_loop 2 ?_ (by omega) (by omega)
            refine le_a [(1, some 1), (2, some 2), (3, some 3), (4, some 4), (5, some 5), (6, some 6)] ?_ ?_
            repeat' (refine And.intro ?_ ?_)
            all_goals first | exact le_cl | skip
            · exact .inl (planeF_same (by decide))
            · refine .inr fun a ha j hj => ?_
              have : j = 0 := by omega
              subst this
              rw [← planeF_set]
              simp only [Int.toNat_natCast]
              by_cases h : a = i
              · rw [if_pos h, if_pos h]
                split
                · exact PV.le_refl _
                · rename_i hn
                  exact absurd ⟨Nat.le_refl _, by decide +kernel⟩ hn
              · rw [if_neg h, if_neg h]; exact PV.le_refl _
            · exact .inl (planeF_same (by decide))
            · exact .inl (planeF_same (by decide))
            · exact .inl (planeF_same (by decide))
          · repeat' (first | with_reducible exact tr_a | refine un_a ?_ | ((first | refine st_a (fun K hK => ?_) | refine rg_a ?_); (repeat' (refine And.intro ?_ ?_)); (all_goals first | (refine hK _ ?_; clear hK K) | exact auto_cl | skip)) | ((first | apply cw_ite | apply cw_iteN); (case hf => rfl); (case hc => exact ev_a); (all_goals first | (intro hb; (try simp only [hbs] at hb)) | skip)) | exact atN_intro | (refine if_a (fun hb => ?_) (fun hb => ?_); (all_goals (try first | with_reducible exact True.intro | (exfalso; omega)))) | refine cw_blocks (fun KB hB => ?_) | (refine hB _ ?_; clear hB KB) | refine exit_by (S := Sg) (by assumption) ?_ | (refine ret_a ?_; (try clear hB KB); (try clear hK K)))
            rw [thenQ_normal]
            refine wk_loop 3 ?_ (by omega) (by omega)
            refine le_a [(1, some 1), (2, some 2), (3, some 3), (4, some 4), (5, some 5), (6, some 6)] ?_ ?_
            repeat' (refine And.intro ?_ ?_)
            all_goals first | exact le_cl | skip
            · exact .inl (planeF_same (by decide))
            · exact .inl (planeF_same (by decide))
            · refine .inr fun a ha j hj => ?_
              have : j = 0 := by omega
              subst this
              rw [← planeF_set]
              simp only [Int.toNat_natCast]
              by_cases h : a = i
              · rw [if_pos h, if_pos h]
                split
                · exact PV.le_refl _
                · rename_i hn
                  exact absurd ⟨Nat.le_refl _, by decide +kernel⟩ hn
              · rw [if_neg h, if_neg h]; exact PV.le_refl _
            · exact .inl (planeF_same (by decide))
            · exact .inl (planeF_same (by decide))
          · repeat' (first | with_reducible exact tr_a | ((first | ((with_reducible refine cw_stepDK (id := 15) [(87, 2), (74, 1), (85, 3)] (by decide +kernel) (by decide +kernel) ?_ (fun K hK => ?_)); exact wf_a) | ((with_reducible refine cw_lastDK (id := 15) [(87, 2), (74, 1), (85, 3)] (by decide +kernel) (by decide +kernel) ?_ (fun K hK => ?_)); exact wf_a)); (try simp (maxSteps := 1000000) (disch := omega) only [go_sem]); (repeat' (refine And.intro ?_ ?_)); (all_goals first | (refine hK _ (by simp (maxSteps := 1000000) (disch := omega) only [go_sem]) ?_; clear hK K) | exact auto_cl | skip)) | refine un_a ?_ | ((first | refine st_a (fun K hK => ?_) | refine rg_a ?_); (repeat' (refine And.intro ?_ ?_)); (all_goals first | (refine hK _ ?_; clear hK K) | exact auto_cl | skip)) | ((first | apply cw_ite | apply cw_iteN); (case hf => rfl); (case hc => exact ev_a); (all_goals first | (intro hb; (try simp only [hbs] at hb)) | skip)) | exact atN_intro | (refine if_a (fun hb => ?_) (fun hb => ?_); (all_goals (try first | with_reducible exact True.intro | (exfalso; omega)))) | refine cw_blocks (fun KB hB => ?_) | (refine hB _ ?_; clear hB KB) | refine exit_by (S := Sg) (by assumption) ?_ | (refine ret_a ?_; (try clear hB KB); (try clear hK K)))
            rw [thenQ_normal]
            refine wk_loop (i + 1) ?_ (by omega) (by omega)
            refine le_a [(1, some 1), (2, some 2), (3, some 3), (4, some 4), (5, some 5), (6, some 6)] ?_ ?_
            repeat' (refine And.intro ?_ ?_)
            all_goals first | exact le_cl | skip
            · exact .inl (planeF_next (by decide))
            · exact .inl (planeF_next (by decide))
            · exact .inl (planeF_next (by decide))
            · refine .inr fun a ha j hj => ?_
              have : j = 0 := by omega
              subst this
              rw [← planeF_last (by decide)]
              simp only [Int.toNat_natCast]
              by_cases h : a = i
              · rw [if_pos h, if_pos h]; exact PV.le_refl _
              · rw [if_neg h, if_neg h]; exact PV.le_refl _
            · refine .inr fun a ha j hj => ?_
              have : j = 0 := by omega
              subst this
              rw [← planeF_last (by decide)]
              simp only [Int.toNat_natCast]
              by_cases h : a = i
              · rw [if_pos h, if_pos h]; exact PV.le_refl _
              · rw [if_neg h, if_neg h]; exact PV.le_refl _
      · have hok : imageOk w h l.length = true := by
          rw [imageOk, (by assumption : fitsM w h = true ∧ _).1, decide_eq_true (by omega)]; rfl
        rw [hok, imageOfM, if_pos hok]
        have hi2 : i = l.length := by omega
        rw [hi2]
        refine sle_tup ⟨ble_agg ?_, ble_rfl trivial, trivial⟩
        simp only [List.map_cons, List.map_nil, cleL_cons, cleL_nil]
        repeat' (refine And.intro ?_ ?_)
        all_goals first | exact .inl rfl | exact .inl trivial | exact .inr nil_le | trivial | skip
        all_goals exact .inr plane_le
end Go.Proofs.YtbpplplnkgmhlaaGreatDoor

set_option maxHeartbeats 8000000
set_option maxRecDepth 16000
namespace Go.Proofs.YtbpplplnkgmhlaaGreatDoor
open Go Go.SL
open Go.RowKit (wrap64)

def gW (p : Pic) (c : Rect) : Int := if p.w.tdiv 5 % 3 = 0 then c.x1 - c.x0 else 1 + p.w % 5
def gH (p : Pic) (c : Rect) : Int := if p.w.tdiv 5 % 3 = 0 then c.y1 - c.y0 else 1 + p.h % 4
def solidOf (w h : Int) (p : Pixel) : Image := ⟨w, h, true, p, noPlane, noPlane, noPlane, noPlane, noPlane⟩
def gImage (p : Pic) (c : Rect) (m : Int) : Image :=
  if p.solid % 2 = 0 then solidOf (gW p c) (gH p c) (gPix p.row m 0) else imageOf (gW p c) (gH p c) (gPixels p.row (gW p c * gH p c).toNat m)
structure PicOk (p : Pic) : Prop where
  w : i64 p.w
  h : i64 p.h
  solid : i64 p.solid
  row : RowOk p.row
structure Small (c : Rect) : Prop where
  x0 : -10 ≤ c.x0
  x1 : c.x1 ≤ 20
  y0 : -10 ≤ c.y0
  y1 : c.y1 ≤ 20
  w : 1 ≤ c.x1 - c.x0 ∧ c.x1 - c.x0 ≤ 5
  h : 1 ≤ c.y1 - c.y0 ∧ c.y1 - c.y0 ≤ 4

theorem gW_le {p : Pic} {c : Rect} (hc : Small c) : 1 ≤ gW p c ∧ gW p c ≤ 5 ∧ 1 ≤ gH p c ∧ gH p c ≤ 4 ∧ 1 ≤ gW p c * gH p c ∧ gW p c * gH p c ≤ 20 := by
  have hw := hc.w
  have hh := hc.h
  have h1 : 1 ≤ gW p c ∧ gW p c ≤ 5 ∧ 1 ≤ gH p c ∧ gH p c ≤ 4 := by
    unfold gW gH; split <;> omega
  have h2 : gW p c * gH p c ≤ 5 * 4 := Int.mul_le_mul h1.2.1 h1.2.2.2 (by omega) (by omega)
  have h3 : 1 * 1 ≤ gW p c * gH p c := Int.mul_le_mul h1.1 h1.2.2.1 (by omega) (by omega)
  omega
theorem gImage_ok {w h : Int} {n : Nat} (hw : 1 ≤ w ∧ w ≤ 5) (hh : 1 ≤ h ∧ h ≤ 4) (hn : n = (w * h).toNat) : imageOk w h n = true := by
  have hp : 0 ≤ w * h := Int.mul_nonneg (by omega) (by omega)
  have hf : fitsM w h = true := by
    rw [fitsM, decide_eq_true_eq]
    have : w = 1 ∨ w = 2 ∨ w = 3 ∨ w = 4 ∨ w = 5 := by omega
    rcases this with rfl | rfl | rfl | rfl | rfl <;> omega
  rw [imageOk, hf, decide_eq_true (by omega)]; rfl

theorem image_spec (p : Pic) (c : Rect) (m : Int) (hp : PicOk p) (hc : Small c) (hm : u16 m) : Pure Sg 48 [ag (picE p), ag (rectE c), U m] (fun r => r = .b (ag (imageE (gImage p c m)))) := by
  obtain ⟨⟨a1, a2⟩, ⟨b1, b2⟩, ⟨c1, c2⟩, hr⟩ := hp
  have hl := gW_le (p := p) hc
  obtain ⟨x0, x1, y0, y1, hw, hh⟩ := hc
  have hd := i64_wrap (p.w.tdiv 5)
  rw [wtdiv a1 a2 (by omega)] at hd
  refine pure_of Tryz.func48 rfl (rs := [.cell 6 79]) rfl rfl mixed (by decide +kernel) (Nat.le_of_ble_eq_true rfl) (argsLt_mem (by simp (maxSteps := 1000000) (disch := omega) only [go_sem])) ?_
  repeat' (first | with_reducible exact tr_a | refine un_a ?_ | ((with_reducible refine cw_stepV (id := 4) (fun K hW => ?_)); (try simp (maxSteps := 1000000) (disch := omega) only [go_sem]); (repeat' (refine And.intro ?_ ?_)); (all_goals first | (refine hK _ ?_; clear hK K) | exact auto_cl | skip)) | ((first | refine st_a (fun K hK => ?_) | refine rg_a ?_ | refine call_c (modp_spec _ _ (by omega) (by omega)) ?_ | refine gcall_c (fun hg => modp_spec _ _ (by omega) (by omega)) ?_); (repeat' (refine And.intro ?_ ?_)); (all_goals first | (refine hK _ ?_; clear hK K) | exact auto_cl | skip)) | ((first | apply cw_ite | apply cw_iteN); (case hf => rfl); (case hc => exact ev_a); (all_goals first | (intro hb; (try simp only [hbs] at hb)) | skip)) | exact atN_intro | (refine if_a (fun hb => ?_) (fun hb => ?_); (all_goals (try first | with_reducible exact True.intro | (exfalso; omega)))) | refine cw_blocks (fun KB hB => ?_) | (refine hB _ ?_; clear hB KB) | refine exit_by (S := Sg) (by assumption) ?_ | (refine ret_a ?_; (try clear hB KB); (try clear hK K)))
  have hlen : (gPixels p.row (gW p c * gH p c).toNat m).length = (gW p c * gH p c).toNat := by simp [gPixels]
  refine call_as ?_ ?_ (by simp (maxSteps := 1000000) (disch := omega) only [go_sem]) (pixels_spec p.row (gW p c * gH p c) m hr (by omega) (by omega) hm)
  try simp (maxSteps := 1000000) (disch := omega) only [go_sem]
  try (refine hK _ ?_; clear hK K)
  · refine hW _ (mkSt [(2, .b (U m)), (3, .b (.c (.ptr 0 0))), (4, .b (.c (.ptr 1 0))), (6, .b (.c (.ptr 2 0))), (7, .b (I (gW p c))), (8, .b (I (gH p c))), (9, .b (.c (.p (pixL (gPixels p.row (gW p c * gH p c).toNat m)))))]
      [(0, .fix ((picE p).map CV.p)), (1, .fix ((rectE c).map CV.p)), (2, .fix ((List.range 28).map fun _ => CV.p .any))] 3) ?_ ?_
    · clear hW
      refine le_a [(1, some 1), (2, some 2)] ?_ ?_
      repeat' (refine And.intro ?_ ?_)
      all_goals first | exact le_cl | skip
    · clear hW
      have hpl : 0 < (gPixels p.row (gW p c * gH p c).toNat m).length := by omega
      repeat' (first | with_reducible exact tr_a | refine un_a ?_ | ((first | refine st_a (fun K hK => ?_) | refine rg_a ?_ | refine call_c (modp_spec _ _ (by omega) (by omega)) ?_ | refine gcall_c (fun hg => modp_spec _ _ (by omega) (by omega)) ?_ | refine call_c (solid_spec _ _ _) ?_ | refine gcall_c (fun hg => solid_spec _ _ _) ?_ | refine call_c (imageOf_spec _ _ _ (by omega)) ?_ | refine gcall_c (fun hg => imageOf_spec _ _ _ (by omega)) ?_); (repeat' (refine And.intro ?_ ?_)); (all_goals first | (refine hK _ ?_; clear hK K) | exact auto_cl | skip)) | ((first | apply cw_ite | apply cw_iteN); (case hf => rfl); (case hc => exact ev_a); (all_goals first | (intro hb; (try simp only [hbs] at hb)) | skip)) | exact atN_intro | (refine if_a (fun hb => ?_) (fun hb => ?_); (all_goals (try first | with_reducible exact True.intro | (exfalso; omega)))) | refine cw_blocks (fun KB hB => ?_) | (refine hB _ ?_; clear hB KB) | refine exit_by (S := Sg) (by assumption) ?_ | (refine ret_a ?_; (try clear hB KB); (try clear hK K)))
      · have e2 : gImage p c m = solidOf (gW p c) (gH p c) (gPix p.row m 0) := by rw [gImage, if_pos hb]
        have e : (gPixels p.row (gW p c * gH p c).toNat m).getD 0 default = gPix p.row m 0 := by
          have : 0 < (gW p c * gH p c).toNat := by omega
          simp [gPixels, this]
        rw [e2, e]; rfl
      · have e2 : gImage p c m = imageOf (gW p c) (gH p c) (gPixels p.row (gW p c * gH p c).toNat m) := by rw [gImage, if_neg hb]
        rw [e2, imageOfM, if_pos (gImage_ok (by omega) (by omega) hlen)]; rfl
  · have e : IntKind.i64.wrap (gW p c * gH p c) = gW p c * gH p c := w64' (by omega) (by omega)
    show [_, I (IntKind.i64.wrap (gW p c * gH p c)), _] = _
    rw [e]; rfl
end Go.Proofs.YtbpplplnkgmhlaaGreatDoor

set_option maxRecDepth 8000
namespace Go.Proofs.YtbpplplnkgmhlaaGreatDoor
open Go Go.SL
open Go.RowKit (wrap64)

def popOp : Op := ⟨3, 0, 0, 0, 0, 0, 0, 0, 0, 0, false, false⟩
def gCanvas (s : Scene) : Rect := ⟨s.x % 13 - 6, s.y % 13 - 6, s.x % 13 - 6 + (1 + s.w % 5), s.y % 13 - 6 + (1 + s.h % 4)⟩
def gTileW (s : Scene) : Int := 1 + s.tileW % (1 + s.w % 5)
def gTileH (s : Scene) : Int := 1 + s.tileH % (1 + s.h % 4)
def gImages0 (s : Scene) : List Image := (s.pics.take 4).map fun p => gImage p (gCanvas s) (gMax s.bits)
def gImages (s : Scene) : List Image := if (gImages0 s).length = 0 then [solidOf (1 + s.w % 5) (1 + s.h % 4) ⟨gMax s.bits, 0, 0, gMax s.bits, gMax s.bits⟩] else gImages0 s
def gStep (n : Int) (c : Rect) (m : Int) (st : List Op × List Op) (r : Raw) : List Op × List Op :=
  if r.kind % 8 = 0 ∧ 0 < st.2.length then (st.1 ++ [popOp], st.2.dropLast)
  else (st.1 ++ [gOp r (decide (r.kind % 8 < 3)) n c.x0 c.y0 (ctxOk st.2) m], if r.kind % 8 < 3 then st.2 ++ [gOp r (decide (r.kind % 8 < 3)) n c.x0 c.y0 (ctxOk st.2) m] else st.2)
def gOps (s : Scene) : List Op × List Op := (s.ops.take 9).foldl (gStep (gImages s).length (gCanvas s) (gMax s.bits)) ([], [])
def gScript (s : Scene) : Script :=
  { bits := if gMax s.bits > 255 then 16 else 8
    canvas := gCanvas s
    tileW := gTileW s
    tileH := gTileH s
    order := gPerm s.order (tilesX (gCanvas s) (gTileW s) (gTileH s) * tilesY (gCanvas s) (gTileW s) (gTileH s))
    images := gImages s
    ops := (gOps s).1 ++ List.replicate (gOps s).2.length popOp }
structure SceneOk (s : Scene) : Prop where
  bits : i64 s.bits
  x : i64 s.x
  y : i64 s.y
  w : i64 s.w
  h : i64 s.h
  tileW : i64 s.tileW
  tileH : i64 s.tileH
  order : s.order.length ≤ 4611686018427387904
  pics : s.pics.length ≤ 4611686018427387904
  ops : s.ops.length ≤ 4611686018427387904
  pic : ∀ i, i < s.pics.length → PicOk (s.pics.getD i default)
  op : ∀ i, i < s.ops.length → RawOk (s.ops.getD i default)
theorem gCanvas_small (s : Scene) : Small (gCanvas s) := by
  unfold gCanvas
  exact ⟨by dsimp only; omega, by dsimp only; omega, by dsimp only; omega, by dsimp only; omega, ⟨by dsimp only; omega, by dsimp only; omega⟩, ⟨by dsimp only; omega, by dsimp only; omega⟩⟩
theorem gMax_u (n : Int) : gMax n = 255 ∨ gMax n = 65535 := by unfold gMax; split <;> omega

end Go.Proofs.YtbpplplnkgmhlaaGreatDoor

set_option maxRecDepth 8000
namespace Go.Proofs.YtbpplplnkgmhlaaGreatDoor
open Go Go.SL

/-! Every script of the generator is valid. -/
theorem nodup_inj {l : List Int} {i j : Nat} {hi : i < l.length} {hj : j < l.length} (h : l.Nodup) : l[i] = l[j] ↔ i = j := by
  refine ⟨fun e => ?_, fun e => by subst e; rfl⟩
  have hp := List.pairwise_iff_getElem.1 h
  rcases Nat.lt_trichotomy i j with q | q | q
  · exact absurd e (hp i j hi hj q)
  · exact q
  · exact absurd e.symm (hp j i hj hi q)
theorem permGo_ok {l : List Int} : ∀ (k i : Nat) (rest : List Int), rest.length = k → rest.Nodup → (permGo l k i rest).length = k ∧ (permGo l k i rest).Nodup ∧ ∀ v ∈ permGo l k i rest, v ∈ rest
  | 0, i, rest, _, _ => ⟨rfl, List.nodup_nil, fun v hv => by simp [permGo] at hv⟩
  | k + 1, i, rest, hl, hn => by
    have h1 := Int.emod_nonneg (gAt l i) (show (rest.length : Int) ≠ 0 by omega)
    have h2 := Int.emod_lt_of_pos (gAt l i) (show (0 : Int) < rest.length by omega)
    have h3 : (gAt l i % rest.length).toNat < rest.length := by omega
    obtain ⟨a, b, c⟩ := permGo_ok (l := l) k (i + 1) (rest.eraseIdx (gAt l i % rest.length).toNat) (by rw [List.length_eraseIdx, if_pos h3]; omega) (List.Pairwise.sublist (List.eraseIdx_sublist ..) hn)
    have hg : rest.getD (gAt l i % rest.length).toNat 0 = rest[(gAt l i % rest.length).toNat] := by
      rw [List.getD_eq_getElem?_getD, List.getElem?_eq_getElem h3]; rfl
    refine ⟨by simp only [permGo, List.length_cons, a], ?_, fun v hv => ?_⟩
    · simp only [permGo]
      refine List.nodup_cons.2 ⟨fun hm => ?_, b⟩
      have := c _ hm
      rw [List.mem_eraseIdx_iff_getElem] at this
      obtain ⟨j, hj, hne, he⟩ := this
      rw [hg] at he
      exact hne ((nodup_inj hn).1 he)
    · simp only [permGo] at hv
      rcases List.mem_cons.1 hv with rfl | hv
      · rw [hg]; exact List.getElem_mem _
      · exact List.mem_of_mem_eraseIdx (c v hv)
theorem iota_nodup (n : Nat) : (iota n).Nodup := by
  unfold iota
  refine List.Pairwise.map _ (fun a b h => ?_) List.nodup_range
  intro e
  exact h (by omega)
theorem small_empty {c : Rect} (h : Small c) : emptyR c = false := by
  obtain ⟨h1, h2, h3, h4, h5, h6⟩ := h
  unfold emptyR validR
  simp
  omega
theorem gTile_ok (s : Scene) : tilesOk (gCanvas s) (gTileW s) (gTileH s) = true := by
  rw [tilesOk, small_empty (gCanvas_small s)]
  unfold gTileW gTileH gCanvas
  simp only [Bool.not_false, Bool.true_and, decide_eq_true_eq]
  have hw0 : 1 ≤ 1 + s.w % 5 ∧ 1 + s.w % 5 ≤ 5 := by omega
  have hh0 : 1 ≤ 1 + s.h % 4 ∧ 1 + s.h % 4 ≤ 4 := by omega
  have bw := Int.emod_nonneg s.tileW (show 1 + s.w % 5 ≠ 0 by omega)
  have bw2 := Int.emod_lt_of_pos s.tileW (show 0 < 1 + s.w % 5 by omega)
  have bh := Int.emod_nonneg s.tileH (show 1 + s.h % 4 ≠ 0 by omega)
  have bh2 := Int.emod_lt_of_pos s.tileH (show 0 < 1 + s.h % 4 by omega)
  omega
theorem tiles_le (s : Scene) : 0 ≤ tilesX (gCanvas s) (gTileW s) (gTileH s) * tilesY (gCanvas s) (gTileW s) (gTileH s) ∧ tilesX (gCanvas s) (gTileW s) (gTileH s) * tilesY (gCanvas s) (gTileW s) (gTileH s) ≤ 64 := by
  refine ⟨(tiles_wrap _ _ _).2, ?_⟩
  have ht := gTile_ok s
  rw [tilesX, tilesY, if_pos ht, if_pos ht]
  obtain ⟨h1, h2, h3, h4, h5, h6⟩ := gCanvas_small s
  simp only [tilesOk, Bool.and_eq_true, decide_eq_true_eq] at ht
  obtain ⟨_, t1, t2, t3, t4⟩ := ht
  have b1 : 0 ≤ ((gCanvas s).x1 - (gCanvas s).x0 - 1) / gTileW s := Int.ediv_nonneg (by omega) (by omega)
  have b2 : ((gCanvas s).x1 - (gCanvas s).x0 - 1) / gTileW s ≤ (gCanvas s).x1 - (gCanvas s).x0 - 1 := Int.ediv_le_self _ (by omega)
  have c1 : 0 ≤ ((gCanvas s).y1 - (gCanvas s).y0 - 1) / gTileH s := Int.ediv_nonneg (by omega) (by omega)
  have c2 : ((gCanvas s).y1 - (gCanvas s).y0 - 1) / gTileH s ≤ (gCanvas s).y1 - (gCanvas s).y0 - 1 := Int.ediv_le_self _ (by omega)
  have : (((gCanvas s).x1 - (gCanvas s).x0 - 1) / gTileW s + 1) * (((gCanvas s).y1 - (gCanvas s).y0 - 1) / gTileH s + 1) ≤ 5 * 4 := Int.mul_le_mul (by omega) (by omega) (by omega) (by omega)
  omega
theorem gImages_le (s : Scene) : 1 ≤ (gImages s).length ∧ (gImages s).length ≤ 4 := by
  unfold gImages
  split
  · simp
  · have : (gImages0 s).length ≤ 4 := by simp [gImages0]; omega
    omega
theorem maxOf_g (s : Scene) : maxOf (gScript s).bits = gMax s.bits := by
  have hm := gMax_u s.bits
  unfold gScript maxOf
  dsimp only
  rcases hm with h | h <;> rw [h] <;> rfl

def okAll (b : Int) (n : Nat) : List Op → List Op → Prop
  | [], _ => True
  | o :: r, l => opErr b n o l = 0 ∧ okAll b n r (nextOpen l o)
def openAfter (ops l : List Op) : List Op := ops.foldl nextOpen l
theorem okAll_append {b : Int} {n : Nat} : ∀ {a c l : List Op}, okAll b n (a ++ c) l ↔ okAll b n a l ∧ okAll b n c (openAfter a l)
  | [], c, l => by simp [okAll, openAfter]
  | o :: r, c, l => by
    simp only [List.cons_append, okAll, okAll_append (a := r), and_assoc]
    rfl
theorem openAfter_append {a c l : List Op} : openAfter (a ++ c) l = openAfter c (openAfter a l) := List.foldl_append
theorem pops_ok {b : Int} {n : Nat} : ∀ (k : Nat) (l : List Op), l.length = k → okAll b n (List.replicate k popOp) l ∧ openAfter (List.replicate k popOp) l = []
  | 0, l, hl => ⟨trivial, List.eq_nil_of_length_eq_zero hl⟩
  | k + 1, l, hl => by
    rw [List.replicate_succ]
    have hp := pops_ok (b := b) (n := n) k l.dropLast (by rw [List.length_dropLast]; omega)
    have hn : nextOpen l popOp = l.dropLast := rfl
    refine ⟨⟨?_, by rw [hn]; exact hp.1⟩, ?_⟩
    · rw [opErr, if_neg (by decide), if_neg (by decide), if_neg (fun q => by omega)]; rfl
    · show openAfter _ (nextOpen l popOp) = []
      rw [hn]; exact hp.2
structure OpTame (m : Int) (o : Op) : Prop where
  x : -30 ≤ o.x ∧ o.x ≤ 30
  y : -30 ≤ o.y ∧ o.y ≤ 30
  op : 0 ≤ o.opacity ∧ o.opacity ≤ m
  mx : -30 ≤ o.maskX ∧ o.maskX ≤ 30
  my : -30 ≤ o.maskY ∧ o.maskY ≤ 30
theorem gOp_ok {s : Scene} {r : Raw} {l : List Op} (hl : l.length ≤ 9) :
    opErr (gScript s).bits (gImages s).length (gOp r (decide (r.kind % 8 < 3)) (gImages s).length (gCanvas s).x0 (gCanvas s).y0 (ctxOk l) (gMax s.bits)) l = 0 ∧
    OpTame (gMax s.bits) (gOp r (decide (r.kind % 8 < 3)) (gImages s).length (gCanvas s).x0 (gCanvas s).y0 (ctxOk l) (gMax s.bits)) := by
  have hi := gImages_le s
  have hm := gMax_u s.bits
  obtain ⟨h1, h2, h3, h4, h5, h6⟩ := gCanvas_small s
  have q1 := gOffset_le r.x (gCanvas s).x0
  have q2 := gOffset_le r.y (gCanvas s).y0
  have q3 := gOffset_le r.maskX (gCanvas s).x0
  have q4 := gOffset_le r.maskY (gCanvas s).y0
  have q5 := gSample_le (r.opacity.tdiv 2) (gMax s.bits) (by omega)
  have q6 := Int.emod_nonneg (r.mask.tdiv 4) (show ((gImages s).length : Int) ≠ 0 by omega)
  have q7 := Int.emod_lt_of_pos (r.mask.tdiv 4) (show (0 : Int) < (gImages s).length by omega)
  have q8 := Int.emod_nonneg r.image (show ((gImages s).length : Int) ≠ 0 by omega)
  have q9 := Int.emod_lt_of_pos r.image (show (0 : Int) < (gImages s).length by omega)
  generalize hc : ctxOk l = free
  have hmx := maxOf_g s
  constructor
  · rw [opErr, hmx]
    by_cases hp : r.kind % 8 < 3
    · rw [decide_eq_true hp]
      rw [if_neg (by simp [gOp]), if_neg ?qa, if_neg (by simp [gOp]), if_neg (by simp [gOp]), if_neg ?qb, if_neg ?qc, if_neg ?qd, if_neg ?qe, if_neg ?qf, if_neg ?qg, if_neg (by omega)]
      case qa =>
        simp only [gOp, fieldsM]
        by_cases hk : r.mask % 4 = 0
        · simp [hk]; omega
        · simp [hk]
      case qb =>
        simp only [gOp]
        by_cases hk : r.mask % 4 = 0
        · simp [hk]; omega
        · simp [hk]
      case qc =>
        simp only [gOp, withinM]
        by_cases hk : r.mask % 4 = 0
        · simp [hk]; omega
        · simp [hk]
      case qd =>
        simp only [gOp]
        split <;> omega
      case qe =>
        simp only [gOp, isOp]
        split <;> simp <;> omega
      case qf =>
        simp only [gOp, isOp]
        split <;> simp <;> omega
      case qg =>
        simp only [gOp, hc]
        intro q
        rw [q.2] at q
        simp at q
    · rw [decide_eq_false hp]
      rw [if_neg (by simp [gOp]), if_neg ?qa, if_neg (by simp [gOp]), if_neg (by simp [gOp]), if_neg ?qb, if_neg ?qc, if_neg ?qd, if_neg ?qe, if_neg ?qf, if_neg ?qg, if_neg (by simp [gOp])]
      case qa =>
        simp only [gOp, fieldsM]
        by_cases hk : r.mask % 4 = 0
        · simp [hk]; omega
        · simp [hk]
      case qb =>
        simp only [gOp]
        by_cases hk : r.mask % 4 = 0
        · simp [hk]; omega
        · simp [hk]; omega
      case qc =>
        simp only [gOp, withinM]
        by_cases hk : r.mask % 4 = 0
        · simp [hk]; omega
        · simp [hk]; omega
      case qd =>
        simp only [gOp]
        split <;> omega
      case qe =>
        simp only [gOp, isOp]
        split <;> simp <;> omega
      case qf =>
        simp only [gOp, isOp]
        split <;> simp <;> omega
      case qg =>
        simp only [gOp, hc]
        intro q
        rw [q.2] at q
        simp at q
  · refine ⟨?_, ?_, ?_, ?_, ?_⟩ <;> simp only [gOp] <;> (repeat' split) <;> omega
structure GInv (s : Scene) (k : Nat) (st : List Op × List Op) : Prop where
  ok : okAll (gScript s).bits (gImages s).length st.1 []
  op : openAfter st.1 [] = st.2
  l1 : st.1.length ≤ k
  l2 : st.2.length ≤ k
  tame : ∀ o ∈ st.1, OpTame (gMax s.bits) o
theorem popTame {m : Int} (h : 0 ≤ m) : OpTame m popOp := ⟨by decide, by decide, ⟨by decide, h⟩, by decide, by decide⟩
theorem gInv_step {s : Scene} {k : Nat} {st : List Op × List Op} {r : Raw} (h : GInv s k st) (hk : k ≤ 9) : GInv s (k + 1) (gStep (gImages s).length (gCanvas s) (gMax s.bits) st r) := by
  obtain ⟨h1, h2, h3, h4, h5⟩ := h
  have hm := gMax_u s.bits
  unfold gStep
  split
  · rename_i hc
    refine ⟨okAll_append.2 ⟨h1, ?_, trivial⟩, ?_, by simp; omega, by rw [List.length_dropLast]; omega, fun o ho => ?_⟩
    · rw [h2, opErr, if_neg (by decide), if_neg (by decide), if_neg (fun q => by omega)]; rfl
    · rw [openAfter_append, h2]; rfl
    · rcases List.mem_append.1 ho with ho | ho
      · exact h5 o ho
      · rw [List.mem_singleton.1 ho]; exact popTame (by omega)
  · have hg := gOp_ok (s := s) (r := r) (l := st.2) (by omega)
    refine ⟨okAll_append.2 ⟨h1, by rw [h2]; exact hg.1, trivial⟩, ?_, by simp; omega, ?_, fun o ho => ?_⟩
    · rw [openAfter_append, h2]
      show nextOpen st.2 _ = _
      by_cases hp : r.kind % 8 < 3
      · rw [if_pos hp, nextOpen, if_pos (by simp [gOp, hp])]
      · rw [if_neg hp, nextOpen, if_neg (by simp [gOp, hp]), if_neg (by simp [gOp, hp])]
    · dsimp only
      split
      · simp; omega
      · omega
    · rcases List.mem_append.1 ho with ho | ho
      · exact h5 o ho
      · rw [List.mem_singleton.1 ho]; exact hg.2
theorem gInv_fold {s : Scene} : ∀ (l : List Raw) (k : Nat) (st : List Op × List Op), GInv s k st → k + l.length ≤ 9 → GInv s (k + l.length) (l.foldl (gStep (gImages s).length (gCanvas s) (gMax s.bits)) st)
  | [], k, st, h, _ => h
  | r :: l, k, st, h, hk => by
    rw [List.length_cons] at hk ⊢
    have := gInv_fold l (k + 1) _ (gInv_step (r := r) h (by omega)) (by omega)
    rw [show k + (l.length + 1) = k + 1 + l.length by omega]
    exact this
theorem gInv_ops (s : Scene) : GInv s 9 (gOps s) := by
  have h := gInv_fold (s := s) (s.ops.take 9) 0 ([], []) ⟨trivial, rfl, Nat.le_refl _, Nat.le_refl _, fun o ho => by simp at ho⟩ (by rw [List.length_take]; omega)
  have hl : 0 + (s.ops.take 9).length ≤ 9 := by rw [List.length_take]; omega
  exact ⟨h.1, h.2, Nat.le_trans h.3 hl, Nat.le_trans h.4 hl, h.5⟩
structure GGood (s : Scene) (ops : List Op) : Prop where
  ok : okAll (gScript s).bits (gImages s).length ops []
  op : openAfter ops [] = []
  len : ops.length ≤ 18
  tame : ∀ o ∈ ops, OpTame (gMax s.bits) o
theorem gScript_good (s : Scene) : GGood s (gScript s).ops := by
  obtain ⟨h1, h2, h3, h4, h5⟩ := gInv_ops s
  have hm := gMax_u s.bits
  have hp := pops_ok (b := (gScript s).bits) (n := (gImages s).length) (gOps s).2.length (gOps s).2 rfl
  refine ⟨okAll_append.2 ⟨h1, by rw [h2]; exact hp.1⟩, ?_, ?_, fun o ho => ?_⟩
  · show openAfter ((gOps s).1 ++ _) [] = []
    rw [openAfter_append, h2]; exact hp.2
  · show ((gOps s).1 ++ _).length ≤ 18
    rw [List.length_append, List.length_replicate]; omega
  · rcases List.mem_append.1 ho with ho | ho
    · exact h5 o ho
    · rw [(List.mem_replicate.1 ho).2]; exact popTame (by omega)
end Go.Proofs.YtbpplplnkgmhlaaGreatDoor

/- When an operation is fine in its context; the lengths of a generated script. -/
set_option maxRecDepth 8000
namespace Go.Proofs.YtbpplplnkgmhlaaGreatDoor
open Go Go.SL

theorem opErr_zero {b : Int} {n : Nat} {o : Op} {l : List Op} : opErr b n o l = 0 ↔ (1 ≤ o.kind ∧ o.kind ≤ 3) ∧ fieldsM o = true ∧ (o.kind = 3 → 0 < l.length) ∧
    (o.kind ≠ 3 → ¬ (o.kind = 1 ∧ (o.image < 0 ∨ n ≤ o.image) ∨ o.mask < 0 ∨ n < o.mask) ∧ withinM 1048576 [o.x, o.y, o.maskX, o.maskY] = true ∧ o.opacity ≤ maxOf b ∧ isOp o.operator = true ∧ isOp o.mode = true ∧ (o.operator ≠ 4 → ctxOk l = true) ∧ (o.kind = 2 → l.length < 64)) := by
  unfold opErr
  by_cases h1 : ¬ (1 ≤ o.kind ∧ o.kind ≤ 3)
  · rw [if_pos h1]; exact ⟨fun h => by omega, fun h => absurd h.1 h1⟩
  rw [if_neg h1]
  rw [Decidable.not_not] at h1
  by_cases h2 : fieldsM o = false
  · rw [if_pos h2]; exact ⟨fun h => by omega, fun h => by rw [h2] at h; simp at h⟩
  rw [if_neg h2]
  rw [Bool.not_eq_false] at h2
  by_cases h3 : o.kind = 3
  · by_cases h4 : l.length = 0
    · rw [if_pos ⟨h3, h4⟩]; exact ⟨fun h => by omega, fun h => by have := h.2.2.1 h3; omega⟩
    · rw [if_neg (fun q => h4 q.2), if_pos h3]; exact ⟨fun _ => ⟨h1, h2, fun _ => by omega, fun q => absurd h3 q⟩, fun _ => rfl⟩
  rw [if_neg (fun q => h3 q.1), if_neg h3]
  by_cases h5 : o.kind = 1 ∧ (o.image < 0 ∨ n ≤ o.image) ∨ o.mask < 0 ∨ n < o.mask
  · rw [if_pos h5]; exact ⟨fun h => by omega, fun h => absurd h5 (h.2.2.2 h3).1⟩
  rw [if_neg h5]
  by_cases h6 : withinM 1048576 [o.x, o.y, o.maskX, o.maskY] = false
  · rw [if_pos h6]; exact ⟨fun h => by omega, fun h => by have := (h.2.2.2 h3).2.1; rw [h6] at this; cases this⟩
  rw [if_neg h6]
  rw [Bool.not_eq_false] at h6
  by_cases h7 : maxOf b < o.opacity
  · rw [if_pos h7]; exact ⟨fun h => by omega, fun h => by have := (h.2.2.2 h3).2.2.1; omega⟩
  rw [if_neg h7]
  by_cases h8 : isOp o.operator = false
  · rw [if_pos h8]; exact ⟨fun h => by omega, fun h => by have := (h.2.2.2 h3).2.2.2.1; rw [h8] at this; cases this⟩
  rw [if_neg h8]
  rw [Bool.not_eq_false] at h8
  by_cases h9 : isOp o.mode = false
  · rw [if_pos h9]; exact ⟨fun h => by omega, fun h => by have := (h.2.2.2 h3).2.2.2.2.1; rw [h9] at this; cases this⟩
  rw [if_neg h9]
  rw [Bool.not_eq_false] at h9
  by_cases h10 : o.operator ≠ 4 ∧ ctxOk l = false
  · rw [if_pos h10]; exact ⟨fun h => by omega, fun h => by have := (h.2.2.2 h3).2.2.2.2.2.1 h10.1; rw [h10.2] at this; cases this⟩
  rw [if_neg h10]
  by_cases h11 : o.kind = 2 ∧ 64 ≤ l.length
  · rw [if_pos h11]; exact ⟨fun h => by omega, fun h => by have := (h.2.2.2 h3).2.2.2.2.2.2 h11.1; omega⟩
  rw [if_neg h11]
  exact ⟨fun _ => ⟨h1, h2, fun q => absurd q h3, fun _ => ⟨h5, h6, by omega, h8, h9, fun q => by
    cases hc : ctxOk l with
    | true => rfl
    | false => exact absurd ⟨q, hc⟩ h10, fun q => by
      rcases Nat.lt_or_ge l.length 64 with h | h
      · exact h
      · exact absurd ⟨q, h⟩ h11⟩⟩, fun _ => rfl⟩

theorem gorder_len (s : Scene) : (gScript s).order.length ≤ 64 := by
  have ht := tiles_le s
  show (gPerm s.order _).length ≤ 64
  unfold gPerm
  split
  · exact Nat.zero_le _
  · rw [(permGo_ok (l := s.order) _ 0 _ (iota_len _) (iota_nodup _)).1]
    omega
theorem g_len (s : Scene) {t : Script} (ho : t.order = (gScript s).order) (hi : t.images.length ≤ 64) (hp : t.ops.length ≤ 4096) : ScriptLen t :=
  ⟨by rw [ho]; exact Nat.le_trans (gorder_len s) (by decide), by omega, by omega⟩
theorem gimages_len (s : Scene) : (gScript s).images.length ≤ 64 := by
  have := gImages_le s
  show (gImages s).length ≤ 64
  omega
theorem gops_len (s : Scene) : (gScript s).ops.length ≤ 18 := (gScript_good s).len
theorem gScript_len (s : Scene) : ScriptLen (gScript s) := g_len s rfl (gimages_len s) (Nat.le_trans (gops_len s) (by decide))
end Go.Proofs.YtbpplplnkgmhlaaGreatDoor

/- What the answer OK of the check of the operations says; two lists of operations, their common ends; what lies between two scripts. -/
set_option maxRecDepth 8000
namespace Go.Proofs.YtbpplplnkgmhlaaGreatDoor
open Go Go.SL

theorem opsGo_zero {b : Int} {n : Nat} : ∀ {ops l : List Op} {i : Nat}, (opsGo b n i ops l).1 = 0 → okAll b n ops l ∧ openAfter ops l = []
  | [], l, i, h => by
    refine ⟨trivial, ?_⟩
    rw [opsGo] at h
    split at h
    · cases h
    · exact (List.eq_nil_of_length_eq_zero (by omega) : l = [])
  | o :: r, l, i, h => by
    rw [opsGo] at h
    split at h
    · rename_i h0
      obtain ⟨h1, h2⟩ := opsGo_zero h
      exact ⟨⟨h0, h1⟩, h2⟩
    · rename_i h0; exact absurd h h0
theorem okAll_at {b : Int} {n : Nat} {ops : List Op} (h : okAll b n ops []) {i : Nat} (hi : i < ops.length) : opErr b n (opAt ops i) (openAfter (ops.take i) []) = 0 := by
  have e : ops = ops.take i ++ ops.drop i := (List.take_append_drop i ops).symm
  rw [e, okAll_append, List.drop_eq_getElem_cons hi] at h
  have : opAt ops i = ops[i] := by rw [opAt, List.getD_eq_getElem?_getD, List.getElem?_eq_getElem hi]; rfl
  rw [this]
  exact h.2.1
theorem open_take {ops : List Op} : ∀ (i : Nat), i ≤ ops.length → openAfter (ops.take i) [] = (stk ops i).reverse.map (opAt ops)
  | 0, _ => rfl
  | i + 1, hi => by
    have ih := open_take (ops := ops) i (by omega)
    have e : opAt ops i = ops[i] := by rw [opAt, List.getD_eq_getElem?_getD, List.getElem?_eq_getElem (by omega)]; rfl
    rw [List.take_add_one, List.getElem?_eq_getElem (by omega), openAfter_append, ih]
    show nextOpen _ ops[i] = _
    rw [← e, nextOpen, stk]
    split
    · rw [List.reverse_cons, List.map_append]; rfl
    split
    · rw [← List.map_dropLast, List.dropLast_reverse]
    · rfl

structure VOps (s : Script) : Prop where
  wf : Wf s.ops
  ok : ∀ i, i < s.ops.length → opErr s.bits s.images.length (opAt s.ops i) ((stk s.ops i).reverse.map (opAt s.ops)) = 0
  imgs : s.images.length ≤ 64
  cnt : s.ops.length ≤ 4096
  frame : frameM s = 0
theorem vops_of {s : Script} (h : (opsM s).1 = 0) : VOps s := by
  rw [opsM] at h
  split at h
  · rename_i hf
    obtain ⟨h1, h2⟩ := opsGo_zero h
    have hl := frameM_ok hf
    have ok : ∀ i, i < s.ops.length → opErr s.bits s.images.length (opAt s.ops i) ((stk s.ops i).reverse.map (opAt s.ops)) = 0 := fun i hi => by
      rw [← open_take i (by omega)]; exact okAll_at h1 hi
    refine ⟨⟨fun i hi => ?_, fun i hi hk he => ?_, ?_⟩, ok, hl.1, hl.2, hf⟩
    · have := (opErr_zero.1 (ok i hi)).1; omega
    · have := (opErr_zero.1 (ok i hi)).2.2.1 hk
      rw [he] at this; simp at this
    · have := open_take (ops := s.ops) s.ops.length (Nat.le_refl _)
      rw [List.take_length, h2] at this
      have := congrArg List.length this
      simp at this
      exact List.eq_nil_of_length_eq_zero this.symm
  · rename_i hf; exact absurd h hf

/-! Two lists -/
theorem opAt_ext {a b : List Op} (hl : a.length = b.length) (h : ∀ k, k < a.length → opAt a k = opAt b k) : a = b := by
  refine List.ext_getElem hl fun i h1 h2 => ?_
  have := h i h1
  rw [opAt, opAt, List.getD_eq_getElem?_getD, List.getD_eq_getElem?_getD, List.getElem?_eq_getElem h1, List.getElem?_eq_getElem h2] at this
  exact this
end Go.Proofs.YtbpplplnkgmhlaaGreatDoor

/- The ends of the groups, as the reference computes them. -/
set_option maxHeartbeats 1000000
set_option maxRecDepth 16000
namespace Go.Proofs.YtbpplplnkgmhlaaGreatDoor
open Go Go.SL
open Go.RowKit (wrap64)

def natsF (n : Nat) (f : Nat → Nat) : PV := .lst 1 n (fun a _ => PI (f a))
attribute [go_sem] natsF
theorem pred_cast2 {n : Nat} : (((n + 1 : Nat) : Int) - 1) = (n : Int) := by omega
attribute [local go_sem] pred_cast2 Int.toNat_natCast
def stF (l junk : List Nat) (a : Nat) : Nat := (l.reverse ++ junk).getD a 0
theorem stF_top {p : Nat} {t junk : List Nat} : stF (p :: t) junk t.length = p := by
  rw [stF, List.reverse_cons, List.append_assoc, List.getD_eq_getElem?_getD, List.getElem?_append_right (by simp)]
  simp
theorem stF_pop {p : Nat} {t junk : List Nat} : stF (p :: t) junk = stF t (p :: junk) := by
  funext a; rw [stF, stF, List.reverse_cons, List.append_assoc]; rfl
theorem stF_old {l : List Nat} {i a : Nat} {junk : List Nat} (h : a < l.length) : stF (i :: l) [] a = stF l junk a := by
  rw [stF, stF, List.reverse_cons, List.append_nil, List.getD_eq_getElem?_getD, List.getD_eq_getElem?_getD, List.getElem?_append_left (by simpa using h), List.getElem?_append_left (by simpa using h)]
theorem stk_len (ops : List Op) : ∀ i, (stk ops i).length ≤ i
  | 0 => Nat.le_refl _
  | i + 1 => by
    have := stk_len ops i
    rw [stk]
    split
    · simp; omega
    split
    · rw [List.length_tail]; omega
    · omega
attribute [local go_sem] stF_top
theorem ends_spec (s : Script) (V : VOps s) : Pure Sg 114 [.c (.p (opL s.ops))] (fun x => x = .tup [.c (.p (natsF s.ops.length (endsM s.ops))), I 0]) := by
  have hn := V.cnt
  have W := V.wf
  refine pure_of Tryz.func114 rfl (rs := [.tmp 2, .tmp 3]) rfl rfl mixed (by decide +kernel) (Nat.le_of_ble_eq_true rfl) (argsLt_mem (by simp (maxSteps := 1000000) (disch := omega) only [go_sem])) ?_
  repeat' (first | with_reducible exact tr_a | refine un_a ?_ | ((first | refine st_a (fun K hK => ?_) | refine rg_a ?_); (repeat' (refine And.intro ?_ ?_)); (all_goals first | (refine hK _ ?_; clear hK K) | exact auto_cl | skip)) | ((first | apply cw_ite | apply cw_iteN); (case hf => rfl); (case hc => exact ev_a); (all_goals first | (intro hb; (try simp only [hbs] at hb)) | skip)) | exact atN_intro | (refine if_a (fun hb => ?_) (fun hb => ?_); (all_goals (try first | with_reducible exact True.intro | (exfalso; omega)))) | refine cw_blocks (fun KB hB => ?_) | (refine hB _ ?_; clear hB KB) | refine exit_by (S := Sg) (by assumption) ?_ | (refine ret_a ?_; (try clear hB KB); (try clear hK K)))
  refine cw_loop (X := Nat × List Nat) (fun x => mkSt [(0, .b (.c (.p (opL s.ops)))), (2, .b (.c (.p (.val (.slice none 0 0))))), (3, .b (I 0)), (4, .b (.c (.own 0 s.ops.length))), (5, .b (.c (.own 1 (stk s.ops x.1).length))), (6, .b (I x.1))]
    [(0, .arr 3 1 s.ops.length (fun a _ => PI (eAt s.ops x.1 a))), (1, .arr 3 1 ((stk s.ops x.1).length + x.2.length) (fun a _ => PI (stF (stk s.ops x.1) x.2 a)))] 2)
    (fun x => x.1 ≤ s.ops.length) (fun x => s.ops.length - x.1) (0, []) ?_ ?_ ?_
  · exact Nat.zero_le _
  · refine le_a [(1, none)] ?_ ?_
    repeat' (refine And.intro ?_ ?_)
    all_goals first | exact le_cl | skip
    refine .inr fun a ha j hj => ?_
    have h2 : j = 0 := by omega
    subst h2
    exact fun _ _ _ h => h
  · rintro ⟨i, junk⟩ hi
    dsimp only at hi ⊢
    have hsl := stk_len s.ops i
    rcases Nat.lt_or_ge i s.ops.length with hlt | hge
    · rcases W.kinds i hlt with hk | hk | hk
      · have hk2 : (s.ops.getD i default).kind = 1 := hk
        repeat' (first | with_reducible exact tr_a | refine un_a ?_ | ((first | refine st_a (fun K hK => ?_) | refine rg_a ?_); (repeat' (refine And.intro ?_ ?_)); (all_goals first | (refine hK _ ?_; clear hK K) | exact auto_cl | skip)) | ((first | apply cw_ite | apply cw_iteN); (case hf => rfl); (case hc => exact ev_a); (all_goals first | (intro hb; (try simp only [hbs] at hb)) | skip)) | exact atN_intro | (refine if_a (fun hb => ?_) (fun hb => ?_); (all_goals (try first | with_reducible exact True.intro | (exfalso; omega)))) | refine cw_blocks (fun KB hB => ?_) | (refine hB _ ?_; clear hB KB) | refine exit_by (S := Sg) (by assumption) ?_ | (refine ret_a ?_; (try clear hB KB); (try clear hK K)))
        rw [thenQ_normal]
        refine wk_loop (i + 1, junk) ?_ (by dsimp only; omega) (by dsimp only; omega)
        dsimp only
        rw [stk_draw hk]
        refine le_a [(1, some 1)] ?_ ?_
        repeat' (refine And.intro ?_ ?_)
        all_goals first | exact le_cl | skip
        refine .inr fun a ha j hj => ?_
        have h2 : j = 0 := by omega
        subst h2
        by_cases e : a = i
        · rw [if_pos e, if_pos (by omega), e, eAt, if_neg (by omega), upd_self]; exact fun _ _ _ h => h
        · rw [if_neg e, eAt, if_neg (by omega), upd_ne _ _ e]; exact fun _ _ _ h => h
      · have hk2 : (s.ops.getD i default).kind = 2 := hk
        repeat' (first | with_reducible exact tr_a | refine un_a ?_ | ((first | refine st_a (fun K hK => ?_) | refine rg_a ?_); (repeat' (refine And.intro ?_ ?_)); (all_goals first | (refine hK _ ?_; clear hK K) | exact auto_cl | skip)) | ((first | apply cw_ite | apply cw_iteN); (case hf => rfl); (case hc => exact ev_a); (all_goals first | (intro hb; (try simp only [hbs] at hb)) | skip)) | exact atN_intro | (refine if_a (fun hb => ?_) (fun hb => ?_); (all_goals (try first | with_reducible exact True.intro | (exfalso; omega)))) | refine cw_blocks (fun KB hB => ?_) | (refine hB _ ?_; clear hB KB) | refine exit_by (S := Sg) (by assumption) ?_ | (refine ret_a ?_; (try clear hB KB); (try clear hK K)))
        rw [thenQ_normal]
        refine wk_loop (i + 1, []) ?_ (by dsimp only; omega) (by dsimp only; omega)
        dsimp only
        rw [stk_push hk]
        refine le_a [(1, some 3)] ?_ ?_
        repeat' (refine And.intro ?_ ?_)
        all_goals first | exact le_cl | skip
        · refine .inr fun a ha j hj => ?_
          have h2 : j = 0 := by omega
          subst h2
          by_cases e : a = i
          · rw [if_pos e, if_pos (by omega), e, eAt, if_neg (by omega), upd_self]; exact fun _ _ _ h => h
          · rw [if_neg e, eAt, if_neg (by omega), upd_ne _ _ e]; exact fun _ _ _ h => h
        refine .inr fun a ha j hj => ?_
        have h2 : j = 0 := by omega
        subst h2
        unfold appF
        by_cases h : a < (stk s.ops i).length
        · rw [if_pos h, stF_old h]; exact fun _ _ _ h => h
        · have ea : a = (stk s.ops i).length := by omega
          rw [if_neg h, ea, stF_top, Nat.sub_self]; exact fun _ _ _ h => h
      · have hk2 : (s.ops.getD i default).kind = 3 := hk
        cases hs : stk s.ops i with
        | nil => exact absurd hs (W.pops i hlt hk)
        | cons p t =>
          have hp : p < i := stk_lt (ops := s.ops) (by rw [hs]; exact List.mem_cons_self ..)
          have htl : t.length ≤ 4096 := by rw [hs] at hsl; simp at hsl; omega
          repeat' (first | with_reducible exact tr_a | refine un_a ?_ | ((first | refine st_a (fun K hK => ?_) | refine rg_a ?_); (repeat' (refine And.intro ?_ ?_)); (all_goals first | (refine hK _ ?_; clear hK K) | exact auto_cl | skip)) | ((first | apply cw_ite | apply cw_iteN); (case hf => rfl); (case hc => exact ev_a); (all_goals first | (intro hb; (try simp only [hbs] at hb)) | skip)) | exact atN_intro | (refine if_a (fun hb => ?_) (fun hb => ?_); (all_goals (try first | with_reducible exact True.intro | (exfalso; omega)))) | refine cw_blocks (fun KB hB => ?_) | (refine hB _ ?_; clear hB KB) | refine exit_by (S := Sg) (by assumption) ?_ | (refine ret_a ?_; (try clear hB KB); (try clear hK K)))
          rw [thenQ_normal]
          refine wk_loop (i + 1, p :: junk) ?_ (by dsimp only; omega) (by dsimp only; omega)
          dsimp only
          rw [stk_pop hk, hs]
          refine le_a [(1, some 1)] ?_ ?_
          repeat' (refine And.intro ?_ ?_)
          all_goals first | exact le_cl | skip
          · refine .inr fun a ha j hj => ?_
            have h2 : j = 0 := by omega
            subst h2
            rw [eAt, if_pos hk, hs]
            dsimp only [List.headD]
            by_cases e : a = p
            · rw [if_pos e, e, upd_self]; exact fun _ _ _ h => h
            · rw [if_neg e, upd_ne _ _ e]
              by_cases e2 : a = i
              · rw [if_pos e2, e2, upd_self]; exact fun _ _ _ h => h
              · rw [if_neg e2, upd_ne _ _ e2]; exact fun _ _ _ h => h
          · show _ = t.length + (junk.length + 1); omega
          · exact .inl (by rw [stF_pop]; rfl)
    · have hi2 : i = s.ops.length := by omega
      subst hi2
      rw [W.fin]
      repeat' (first | with_reducible exact tr_a | refine un_a ?_ | ((first | refine st_a (fun K hK => ?_) | refine rg_a ?_); (repeat' (refine And.intro ?_ ?_)); (all_goals first | (refine hK _ ?_; clear hK K) | exact auto_cl | skip)) | ((first | apply cw_ite | apply cw_iteN); (case hf => rfl); (case hc => exact ev_a); (all_goals first | (intro hb; (try simp only [hbs] at hb)) | skip)) | exact atN_intro | (refine if_a (fun hb => ?_) (fun hb => ?_); (all_goals (try first | with_reducible exact True.intro | (exfalso; omega)))) | refine cw_blocks (fun KB hB => ?_) | (refine hB _ ?_; clear hB KB) | refine exit_by (S := Sg) (by assumption) ?_ | (refine ret_a ?_; (try clear hB KB); (try clear hK K)))
      rfl
end Go.Proofs.YtbpplplnkgmhlaaGreatDoor

/- Small functions that the rules ask. -/
set_option maxHeartbeats 2000000
set_option maxRecDepth 16000
namespace Go.Proofs.YtbpplplnkgmhlaaGreatDoor
open Go Go.SL
open Go.RowKit (wrap64)

def coversR (r q : Rect) : Bool := emptyR q || !emptyR r && decide (r.x0 ≤ q.x0) && decide (r.y0 ≤ q.y0) && decide (q.x1 ≤ r.x1) && decide (q.y1 ≤ r.y1)
theorem covers_spec (r q : Rect) : Pure Sg 202 [ag (rectE r), ag (rectE q)] (fun x => x = .b (B (coversR r q))) := by
  have h1 := rempty_spec q
  have h2 := rempty_spec r
  refine pure_of Tryz.func202 rfl (rs := [.tmp 4]) rfl rfl mixed (by decide +kernel) (Nat.le_of_ble_eq_true rfl) (argsLt_mem (by simp (maxSteps := 1000000) (disch := omega) only [go_sem])) ?_
  repeat' (first | with_reducible exact tr_a | refine un_a ?_ | ((first | refine st_a (fun K hK => ?_) | refine rg_a ?_ | refine call_c (h1) ?_ | refine gcall_c (fun hg => h1) ?_ | refine call_c (h2) ?_ | refine gcall_c (fun hg => h2) ?_); (repeat' (refine And.intro ?_ ?_)); (all_goals first | (refine hK _ ?_; clear hK K) | exact auto_cl | skip)) | ((first | apply cw_ite | apply cw_iteN); (case hf => rfl); (case hc => exact ev_a); (all_goals first | (intro hb; (try simp only [hbs] at hb)) | skip)) | exact atN_intro | (refine if_a (fun hb => ?_) (fun hb => ?_); (all_goals (try first | with_reducible exact True.intro | (exfalso; omega)))) | refine cw_blocks (fun KB hB => ?_) | (refine hB _ ?_; clear hB KB) | refine exit_by (S := Sg) (by assumption) ?_ | (refine ret_a ?_; (try clear hB KB); (try clear hK K)))
  rfl
def clearP (p : Pixel) : Bool := decide (p.c0 = 0 ∧ p.c1 = 0 ∧ p.c2 = 0 ∧ p.a = 0 ∧ p.f = 0)
theorem transparent_spec (p : Pixel) : Pure Sg 181 [ag (pixE p)] (fun x => x = .b (B (clearP p))) := by
  refine pure_of Tryz.func181 rfl (rs := [.tmp 2]) rfl rfl mixed (by decide +kernel) (Nat.le_of_ble_eq_true rfl) (argsLt_mem (by simp (maxSteps := 1000000) (disch := omega) only [go_sem])) ?_
  repeat' (first | with_reducible exact tr_a | refine un_a ?_ | ((first | refine st_a (fun K hK => ?_) | refine rg_a ?_); (repeat' (refine And.intro ?_ ?_)); (all_goals first | (refine hK _ ?_; clear hK K) | exact auto_cl | skip)) | ((first | apply cw_ite | apply cw_iteN); (case hf => rfl); (case hc => exact ev_a); (all_goals first | (intro hb; (try simp only [hbs] at hb)) | skip)) | exact atN_intro | (refine if_a (fun hb => ?_) (fun hb => ?_); (all_goals (try first | with_reducible exact True.intro | (exfalso; omega)))) | refine cw_blocks (fun KB hB => ?_) | (refine hB _ ?_; clear hB KB) | refine exit_by (S := Sg) (by assumption) ?_ | (refine ret_a ?_; (try clear hB KB); (try clear hK K)))
  refine bool_eq ?_
  (try simp only [clearP, Bool.and_eq_true, Bool.or_eq_true, Bool.not_eq_true', Bool.not_eq_false', decide_eq_true_eq, decide_eq_false_iff_not, ge_iff_le, gt_iff_lt, beq_iff_eq, bne_iff_ne, ne_eq, Bool.or_eq_false_iff, Bool.and_eq_false_imp, Bool.not_true, Bool.not_false])
  try omega
  simp only [and_true, and_assoc]
def freshM (o : Int) : Bool := decide (o = 2 ∨ o = 4 ∨ o = 5 ∨ o = 8 ∨ o = 11 ∨ o = 12)
theorem rule_fresh (o : Int) : ∃ a b c, ruleE o = [.val (.string (opNm o)), PI a, PI b, PI c] ∧ (decide (1 ≤ o ∧ o ≤ 12) && ((a == 1 || a == 3) && (c == 1 || c == 3))) = freshM o := by
  by_cases h : 1 ≤ o ∧ o ≤ 12
  · have : o = 1 ∨ o = 2 ∨ o = 3 ∨ o = 4 ∨ o = 5 ∨ o = 6 ∨ o = 7 ∨ o = 8 ∨ o = 9 ∨ o = 10 ∨ o = 11 ∨ o = 12 := by omega
    rcases this with rfl | rfl | rfl | rfl | rfl | rfl | rfl | rfl | rfl | rfl | rfl | rfl <;> exact ⟨_, _, _, rfl, by decide +kernel⟩
  · obtain ⟨a, b, c, e, _⟩ := opNm_spec o
    refine ⟨a, b, c, e, ?_⟩
    rw [decide_eq_false h, Bool.false_and, freshM]
    exact (decide_eq_false (by omega)).symm
theorem fresh_spec (o : Int) : Pure Sg 187 [I o] (fun x => x = .b (B (freshM o))) := by
  obtain ⟨a, b, c, he, hn⟩ := rule_fresh o
  have hf := find_spec o
  rw [he] at hf
  rw [← hn]
  refine pure_of Tryz.func187 rfl (rs := [.tmp 2]) rfl rfl mixed (by decide +kernel) (Nat.le_of_ble_eq_true rfl) (argsLt_mem (by simp (maxSteps := 1000000) (disch := omega) only [go_sem])) ?_
  repeat' (first | with_reducible exact tr_a | refine un_a ?_ | ((first | refine st_a (fun K hK => ?_) | refine rg_a ?_ | refine call_c (hf) ?_ | refine gcall_c (fun hg => hf) ?_); (repeat' (refine And.intro ?_ ?_)); (all_goals first | (refine hK _ ?_; clear hK K) | exact auto_cl | skip)) | ((first | apply cw_ite | apply cw_iteN); (case hf => rfl); (case hc => exact ev_a); (all_goals first | (intro hb; (try simp only [hbs] at hb)) | skip)) | exact atN_intro | (refine if_a (fun hb => ?_) (fun hb => ?_); (all_goals (try first | with_reducible exact True.intro | (exfalso; omega)))) | refine cw_blocks (fun KB hB => ?_) | (refine hB _ ?_; clear hB KB) | refine exit_by (S := Sg) (by assumption) ?_ | (refine ret_a ?_; (try clear hB KB); (try clear hK K)))
  rw [Bool.and_assoc]
attribute [local go_sem] pred_cast2 Int.toNat_natCast stF_top
theorem tends_spec (s : Script) (V : VOps s) : Pure Sg 127 [.c (.p (opL s.ops))] (fun x => x = .tup [.c (.p (natsF s.ops.length (endsM s.ops))), I 0]) := by
  have hn := V.cnt
  have W := V.wf
  refine pure_of Tryz.func127 rfl (rs := [.tmp 2, .tmp 3]) rfl rfl mixed (by decide +kernel) (Nat.le_of_ble_eq_true rfl) (argsLt_mem (by simp (maxSteps := 1000000) (disch := omega) only [go_sem])) ?_
  repeat' (first | with_reducible exact tr_a | refine un_a ?_ | ((first | refine st_a (fun K hK => ?_) | refine rg_a ?_); (repeat' (refine And.intro ?_ ?_)); (all_goals first | (refine hK _ ?_; clear hK K) | exact auto_cl | skip)) | ((first | apply cw_ite | apply cw_iteN); (case hf => rfl); (case hc => exact ev_a); (all_goals first | (intro hb; (try simp only [hbs] at hb)) | skip)) | exact atN_intro | (refine if_a (fun hb => ?_) (fun hb => ?_); (all_goals (try first | with_reducible exact True.intro | (exfalso; omega)))) | refine cw_blocks (fun KB hB => ?_) | (refine hB _ ?_; clear hB KB) | refine exit_by (S := Sg) (by assumption) ?_ | (refine ret_a ?_; (try clear hB KB); (try clear hK K)))
  refine cw_loop (X := Nat × List Nat) (fun x => mkSt [(2, .b (.c (.p (.val (.slice none 0 0))))), (3, .b (I 0)), (4, .b (.c (.own 0 s.ops.length))), (5, .b (.c (.own 1 (stk s.ops x.1).length))), (11, .b (.c (.p (opL s.ops)))), (12, .b (I s.ops.length)), (13, .b (I x.1))]
    [(0, .arr 3 1 s.ops.length (fun a _ => PI (eAt s.ops x.1 a))), (1, .arr 3 1 ((stk s.ops x.1).length + x.2.length) (fun a _ => PI (stF (stk s.ops x.1) x.2 a)))] 2)
    (fun x => x.1 ≤ s.ops.length) (fun x => s.ops.length - x.1) (0, []) ?_ ?_ ?_
  · exact Nat.zero_le _
  · refine le_a [(1, none)] ?_ ?_
    repeat' (refine And.intro ?_ ?_)
    all_goals first | exact le_cl | skip
    refine .inr fun a ha j hj => ?_
    have h2 : j = 0 := by omega
    subst h2
    exact fun _ _ _ h => h
  · rintro ⟨i, junk⟩ hi
    dsimp only at hi ⊢
    have hsl := stk_len s.ops i
    rcases Nat.lt_or_ge i s.ops.length with hlt | hge
    · rcases W.kinds i hlt with hk | hk | hk
      · have hk2 : (s.ops.getD i default).kind = 1 := hk
        repeat' (first | with_reducible exact tr_a | refine un_a ?_ | ((first | refine st_a (fun K hK => ?_) | refine rg_a ?_); (repeat' (refine And.intro ?_ ?_)); (all_goals first | (refine hK _ ?_; clear hK K) | exact auto_cl | skip)) | ((first | apply cw_ite | apply cw_iteN); (case hf => rfl); (case hc => exact ev_a); (all_goals first | (intro hb; (try simp only [hbs] at hb)) | skip)) | exact atN_intro | (refine if_a (fun hb => ?_) (fun hb => ?_); (all_goals (try first | with_reducible exact True.intro | (exfalso; omega)))) | refine cw_blocks (fun KB hB => ?_) | (refine hB _ ?_; clear hB KB) | refine exit_by (S := Sg) (by assumption) ?_ | (refine ret_a ?_; (try clear hB KB); (try clear hK K)))
        rw [thenQ_normal]
        refine wk_loop (i + 1, junk) ?_ (by dsimp only; omega) (by dsimp only; omega)
        dsimp only
        rw [stk_draw hk]
        refine le_a [(1, some 1)] ?_ ?_
        repeat' (refine And.intro ?_ ?_)
        all_goals first | exact le_cl | skip
        refine .inr fun a ha j hj => ?_
        have h2 : j = 0 := by omega
        subst h2
        by_cases e : a = i
        · rw [if_pos e, if_pos (by omega), e, eAt, if_neg (by omega), upd_self]; exact fun _ _ _ h => h
        · rw [if_neg e, eAt, if_neg (by omega), upd_ne _ _ e]; exact fun _ _ _ h => h
      · have hk2 : (s.ops.getD i default).kind = 2 := hk
        repeat' (first | with_reducible exact tr_a | refine un_a ?_ | ((first | refine st_a (fun K hK => ?_) | refine rg_a ?_); (repeat' (refine And.intro ?_ ?_)); (all_goals first | (refine hK _ ?_; clear hK K) | exact auto_cl | skip)) | ((first | apply cw_ite | apply cw_iteN); (case hf => rfl); (case hc => exact ev_a); (all_goals first | (intro hb; (try simp only [hbs] at hb)) | skip)) | exact atN_intro | (refine if_a (fun hb => ?_) (fun hb => ?_); (all_goals (try first | with_reducible exact True.intro | (exfalso; omega)))) | refine cw_blocks (fun KB hB => ?_) | (refine hB _ ?_; clear hB KB) | refine exit_by (S := Sg) (by assumption) ?_ | (refine ret_a ?_; (try clear hB KB); (try clear hK K)))
        rw [thenQ_normal]
        refine wk_loop (i + 1, []) ?_ (by dsimp only; omega) (by dsimp only; omega)
        dsimp only
        rw [stk_push hk]
        refine le_a [(1, some 4)] ?_ ?_
        repeat' (refine And.intro ?_ ?_)
        all_goals first | exact le_cl | skip
        · refine .inr fun a ha j hj => ?_
          have h2 : j = 0 := by omega
          subst h2
          by_cases e : a = i
          · rw [if_pos e, if_pos (by omega), e, eAt, if_neg (by omega), upd_self]; exact fun _ _ _ h => h
          · rw [if_neg e, eAt, if_neg (by omega), upd_ne _ _ e]; exact fun _ _ _ h => h
        refine .inr fun a ha j hj => ?_
        have h2 : j = 0 := by omega
        subst h2
        unfold appF
        by_cases h : a < (stk s.ops i).length
        · rw [if_pos h, stF_old h]; exact fun _ _ _ h => h
        · have ea : a = (stk s.ops i).length := by omega
          rw [if_neg h, ea, stF_top, Nat.sub_self]; exact fun _ _ _ h => h
      · have hk2 : (s.ops.getD i default).kind = 3 := hk
        cases hs : stk s.ops i with
        | nil => exact absurd hs (W.pops i hlt hk)
        | cons p t =>
          have hp : p < i := stk_lt (ops := s.ops) (by rw [hs]; exact List.mem_cons_self ..)
          have htl : t.length ≤ 4096 := by rw [hs] at hsl; simp at hsl; omega
          repeat' (first | with_reducible exact tr_a | refine un_a ?_ | ((first | refine st_a (fun K hK => ?_) | refine rg_a ?_); (repeat' (refine And.intro ?_ ?_)); (all_goals first | (refine hK _ ?_; clear hK K) | exact auto_cl | skip)) | ((first | apply cw_ite | apply cw_iteN); (case hf => rfl); (case hc => exact ev_a); (all_goals first | (intro hb; (try simp only [hbs] at hb)) | skip)) | exact atN_intro | (refine if_a (fun hb => ?_) (fun hb => ?_); (all_goals (try first | with_reducible exact True.intro | (exfalso; omega)))) | refine cw_blocks (fun KB hB => ?_) | (refine hB _ ?_; clear hB KB) | refine exit_by (S := Sg) (by assumption) ?_ | (refine ret_a ?_; (try clear hB KB); (try clear hK K)))
          rw [thenQ_normal]
          refine wk_loop (i + 1, p :: junk) ?_ (by dsimp only; omega) (by dsimp only; omega)
          dsimp only
          rw [stk_pop hk, hs]
          refine le_a [(1, some 1)] ?_ ?_
          repeat' (refine And.intro ?_ ?_)
          all_goals first | exact le_cl | skip
          · refine .inr fun a ha j hj => ?_
            have h2 : j = 0 := by omega
            subst h2
            rw [eAt, if_pos hk, hs]
            dsimp only [List.headD]
            by_cases e : a = p
            · rw [if_pos e, e, upd_self]; exact fun _ _ _ h => h
            · rw [if_neg e, upd_ne _ _ e]
              by_cases e2 : a = i
              · rw [if_pos e2, e2, upd_self]; exact fun _ _ _ h => h
              · rw [if_neg e2, upd_ne _ _ e2]; exact fun _ _ _ h => h
          · show _ = t.length + (junk.length + 1); omega
          · exact .inl (by rw [stF_pop]; rfl)
    · have hi2 : i = s.ops.length := by omega
      subst hi2
      rw [W.fin]
      repeat' (first | with_reducible exact tr_a | refine un_a ?_ | ((first | refine st_a (fun K hK => ?_) | refine rg_a ?_); (repeat' (refine And.intro ?_ ?_)); (all_goals first | (refine hK _ ?_; clear hK K) | exact auto_cl | skip)) | ((first | apply cw_ite | apply cw_iteN); (case hf => rfl); (case hc => exact ev_a); (all_goals first | (intro hb; (try simp only [hbs] at hb)) | skip)) | exact atN_intro | (refine if_a (fun hb => ?_) (fun hb => ?_); (all_goals (try first | with_reducible exact True.intro | (exfalso; omega)))) | refine cw_blocks (fun KB hB => ?_) | (refine hB _ ?_; clear hB KB) | refine exit_by (S := Sg) (by assumption) ?_ | (refine ret_a ?_; (try clear hB KB); (try clear hK K)))
      rfl
end Go.Proofs.YtbpplplnkgmhlaaGreatDoor

/- Where a rule applies and what it does, in plain Lean. -/
set_option maxRecDepth 8000
set_option maxHeartbeats 2000000
namespace Go.Proofs.YtbpplplnkgmhlaaGreatDoor
open Go Go.SL

def topAt (ops : List Op) (i : Nat) : Int := match stk ops i with | [] => -1 | p :: _ => p
def grpM (ops : List Op) (i : Nat) : Int := if (opAt ops i).kind = 3 then topAt ops (i + 1) else topAt ops i
def kidsTo (ops : List Op) : Nat → Int → Nat
  | 0, _ => 0
  | i + 1, g => kidsTo ops i g + if (opAt ops i).kind ≠ 3 ∧ topAt ops i = g then 1 else 0
def kidsM (ops : List Op) (g : Int) : Nat := kidsTo ops ops.length g
def firstM (ops : List Op) (i : Nat) : Bool := decide ((opAt ops i).kind ≠ 3 ∧ kidsTo ops i (topAt ops i) = 0)
theorem stk_suf {ops : List Op} : ∀ {i : Nat} {l t : List Nat} {p : Nat}, stk ops i = l ++ p :: t → stk ops p = t
  | 0, l, t, p, h => by cases l <;> simp [stk] at h
  | i + 1, l, t, p, h => by
    rw [stk] at h
    split at h
    · cases l with
      | nil => simp only [List.nil_append, List.cons.injEq] at h; rw [← h.1, h.2]
      | cons a l => simp only [List.cons_append, List.cons.injEq] at h; exact stk_suf h.2
    split at h
    · cases hs : stk ops i with
      | nil => rw [hs] at h; cases l <;> simp at h
      | cons q r => rw [hs] at h; exact stk_suf (l := q :: l) (by rw [hs]; exact congrArg (q :: ·) h)
    · exact stk_suf h
theorem topAt_nil {ops : List Op} {i : Nat} (h : stk ops i = []) : topAt ops i = -1 := by rw [topAt, h]
theorem topAt_cons {ops : List Op} {i p : Nat} {t : List Nat} (h : stk ops i = p :: t) : topAt ops i = p := by rw [topAt, h]
theorem topAt_of {ops : List Op} {i j : Nat} (h : stk ops i = stk ops j) : topAt ops i = topAt ops j := by rw [topAt, topAt, h]
theorem topAt_lt (ops : List Op) (i : Nat) : -1 ≤ topAt ops i ∧ topAt ops i < i := by
  cases h : stk ops i with
  | nil => rw [topAt_nil h]; omega
  | cons p t =>
    have := stk_lt (ops := ops) (i := i) (p := p) (by rw [h]; exact List.mem_cons_self ..)
    rw [topAt_cons h]; omega
theorem kidsTo_le (ops : List Op) (g : Int) : ∀ i, kidsTo ops i g ≤ i
  | 0 => Nat.le_refl _
  | i + 1 => by
    have := kidsTo_le ops g i
    rw [kidsTo]; split <;> omega
theorem stk_ends {ops : List Op} (W : Wf ops) {i : Nat} (hi : i < ops.length) (hk : (opAt ops i).kind ≠ 3) : stk ops (endsM ops i + 1) = stk ops i := by
  rcases W.kinds i hi with h | h | h
  · rw [ends_draw W hi h, stk_draw h]
  · have hm : i ∈ stk ops (i + 1) := by rw [stk_push h]; exact List.mem_cons_self ..
    obtain ⟨j, t, h1, h2, h3, h4⟩ := pop_of W (p := i) (ops.length - (i + 1)) (i + 1) (by omega) hm
    rw [ends_pop W h2 h3 h4, stk_pop h3, h4]
    exact (stk_suf (l := []) h4).symm
  · exact absurd h hk
theorem ends_ge {ops : List Op} (W : Wf ops) {i : Nat} (hi : i < ops.length) : i ≤ endsM ops i := by
  rcases W.kinds i hi with h | h | h
  · rw [ends_draw W hi h]; exact Nat.le_refl _
  · have := ends_push W hi h; omega
  · rw [ends_self W hi h]; exact Nat.le_refl _

def isoM (s : Script) (i : Nat) : Bool := decide (grpM s.ops i < 0) || (opAt s.ops (grpM s.ops i).toNat).isolated
def koM (s : Script) (i : Nat) : Bool := !decide (grpM s.ops i < 0) && (opAt s.ops (grpM s.ops i).toNat).knockout
def plnM (s : Script) (i : Nat) : Bool := isoM s i && !koM s i
def unscM (s : Script) (o : Op) : Bool := decide (o.mask = 0) && decide (o.opacity = maxOf s.bits)
def imgM (s : Script) (k : Int) : Image := s.images.getD k.toNat default
def smA (s : Script) (o : Op) : Int := if o.mask = 0 then 0 else (imgM s (o.mask - 1)).color.a
def smB (s : Script) (o : Op) : Bool := !decide (o.mask = 0) && (imgM s (o.mask - 1)).solid
def fullM (s : Script) (o : Op) : Bool := smB s o && decide (smA s o = maxOf s.bits) && coversR (maskRectM s o) s.canvas
def voidM (s : Script) (o : Op) : Bool := !decide (o.mask = 0) && (smB s o && decide (smA s o = 0) || emptyR (maskRectM s o))
def invM (s : Script) (i : Nat) : Bool := neutralM (opAt s.ops i).operator && (decide ((opAt s.ops i).opacity = 0) || voidM s (opAt s.ops i) ||
  if (opAt s.ops i).kind = 2 then decide (kidsM s.ops i = 0) else emptyR (imageRectM s (opAt s.ops i)) || (imgM s (opAt s.ops i).image).solid && clearP (imgM s (opAt s.ops i).image).color)
def dstM (s : Script) (i : Nat) : Bool := decide ((opAt s.ops i).operator = 3)
def nthM (s : Script) (i : Nat) : Bool := decide ((opAt s.ops i).operator = 6 ∨ (opAt s.ops i).operator = 7 ∨ (opAt s.ops i).operator = 9 ∨ (opAt s.ops i).operator = 10) && (firstM s.ops i && plnM s i)
def cvM (s : Script) (j : Nat) : Bool := decide ((opAt s.ops j).operator = 1) && !koM s j ||
  unscM s (opAt s.ops j) && (imgM s (opAt s.ops j).image).solid && coversR (imageRectM s (opAt s.ops j)) s.canvas &&
  if koM s j = true then decide ((imgM s (opAt s.ops j).image).color.f = maxOf s.bits)
  else decide ((opAt s.ops j).mode = 1) && (decide ((opAt s.ops j).operator = 2) || decide ((opAt s.ops j).operator = 4) && decide ((imgM s (opAt s.ops j).image).color.a = maxOf s.bits))
def cdGo (s : Script) : Nat → Nat → Bool
  | 0, _ => false
  | f + 1, j => decide (j < s.ops.length) && !decide ((opAt s.ops j).kind = 3) && (decide ((opAt s.ops j).kind = 1) && cvM s j || cdGo s f (endsM s.ops j + 1))
def cdM (s : Script) (i : Nat) : Bool := cdGo s s.ops.length (endsM s.ops i + 1)
def mskM (s : Script) (i : Nat) : Bool := fullM s (opAt s.ops i)
def iseM (s : Script) (i : Nat) : Bool := decide ((opAt s.ops i).kind = 2) && !(opAt s.ops i).isolated && isoM s i && (firstM s.ops i || koM s i)
def nrmM (s : Script) (i : Nat) : Bool := isoM s i && if koM s i = true then !decide ((opAt s.ops i).mode = 1) else firstM s.ops i && freshM (opAt s.ops i).operator && (!decide ((opAt s.ops i).operator = 4) || !decide ((opAt s.ops i).mode = 1))
def sngM (s : Script) (i : Nat) : Bool := decide ((opAt s.ops i).kind = 2) && (opAt s.ops i).knockout && decide (kidsM s.ops i = 1)
def unwM (s : Script) (i : Nat) : Bool := decide ((opAt s.ops i).kind = 2) && (opAt s.ops i).isolated && decide (kidsM s.ops i = 1) &&
  (decide ((opAt s.ops (i + 1)).operator = 4) && decide ((opAt s.ops (i + 1)).mode = 1) && (unscM s (opAt s.ops (i + 1)) || unscM s (opAt s.ops i)))
def ruleM (s : Script) : Nat → Nat → Bool
  | 1, i => invM s i
  | 2, i => dstM s i
  | 3, i => nthM s i
  | 4, i => cdM s i
  | 5, i => mskM s i
  | 6, i => iseM s i
  | 7, i => nrmM s i
  | 8, i => sngM s i
  | 9, i => unwM s i
  | _, _ => false
def apM (s : Script) (n i : Int) : Bool := decide (1 ≤ n) && decide (n < 10) && decide (0 ≤ i) && decide (i < s.ops.length) && !decide ((opAt s.ops i.toNat).kind = 3) && ruleM s n.toNat i.toNat

def chgOp (n : Nat) (o : Op) : Op :=
  if n = 5 then { o with mask := 0, maskX := 0, maskY := 0 } else if n = 6 then { o with isolated := true } else if n = 7 then { o with operator := 4, mode := 1 } else { o with knockout := false }
def unw1 (s : Script) (o k : Op) : Op := if unscM s k = true then { k with mask := o.mask, maskX := o.maskX, maskY := o.maskY, opacity := o.opacity } else k
def unw2 (o k : Op) : Op := { k with operator := o.operator, mode := o.mode }
def unw3 (k : Op) : Op := if k.kind = 2 then { k with isolated := true } else k
def unwOp (s : Script) (i : Nat) : Op := unw3 (unw2 (opAt s.ops i) (unw1 s (opAt s.ops i) (opAt s.ops (i + 1))))
def cutOps (s : Script) (i : Nat) : List Op := s.ops.take i ++ s.ops.drop (endsM s.ops i + 1)
def unwOps (s : Script) (i : Nat) : List Op := s.ops.take i ++ [unwOp s i] ++ (s.ops.take (endsM s.ops i)).drop (i + 2) ++ s.ops.drop (endsM s.ops i + 1)
def rwM (s : Script) (n i : Nat) : List Op := if n ≤ 4 then cutOps s i else if n = 9 then unwOps s i else s.ops.set i (chgOp n (opAt s.ops i))

abbrev Rx := Int × Int
def rxAt (s : Script) (i k : Nat) : List Rx := ((List.range k).filter (fun n : Nat => apM s n i)).map (fun n : Nat => ((n : Int), (i : Int)))
def rxTo (s : Script) (i : Nat) : List Rx := (List.range i).flatMap (fun a => rxAt s a 10)
def redM (s : Script) : List Rx := if (opsM s).1 = 0 then rxTo s s.ops.length else []
def cntM (ops : List Op) : Nat := (ops.filter (fun o => decide (o.kind = 1 ∨ o.kind = 2))).length
def withOps (s : Script) (l : List Op) : Script := { s with ops := l }
def runGo : Nat → Script → List Op × List Rx
  | 0, s => (s.ops, [])
  | f + 1, s => match (redM s).head? with
    | none => (s.ops, [])
    | some r => ((runGo f (withOps s (rwM s r.1.toNat r.2.toNat))).1, r :: (runGo f (withOps s (rwM s r.1.toNat r.2.toNat))).2)
end Go.Proofs.YtbpplplnkgmhlaaGreatDoor

/- What a rule does to the number of operations; a redex of a deleting rule outlasts the changing rules that come first. Plain Lean. -/
set_option maxRecDepth 8000
set_option maxHeartbeats 2000000
namespace Go.Proofs.YtbpplplnkgmhlaaGreatDoor
open Go Go.SL

theorem opAt_eq {ops : List Op} {i : Nat} (h : i < ops.length) : opAt ops i = ops[i] := by rw [opAt, List.getD_eq_getElem?_getD, List.getElem?_eq_getElem h]; rfl
theorem ops_cut {ops : List Op} {i : Nat} (h : i < ops.length) : ops = ops.take i ++ opAt ops i :: ops.drop (i + 1) := by
  rw [opAt_eq h, ← List.drop_eq_getElem_cons h, List.take_append_drop]

def wtOp (o : Op) : Nat := (if o.mask = 0 then 0 else 1) + (if o.kind = 2 ∧ o.isolated = false then 1 else 0) + (if o.operator = 4 ∧ o.mode = 1 then 0 else 1) + (if o.knockout = true then 1 else 0) + (if o.kind = 3 then 0 else 1)
def sumW (w : Op → Nat) (l : List Op) : Nat := (l.map w).sum
theorem sumW_app (w : Op → Nat) (a b : List Op) : sumW w (a ++ b) = sumW w a + sumW w b := by rw [sumW, List.map_append, List.sum_append]; rfl
theorem sumW_cons (w : Op → Nat) (a : Op) (b : List Op) : sumW w (a :: b) = w a + sumW w b := by rw [sumW, List.map_cons, List.sum_cons]; rfl
theorem sumW_nil (w : Op → Nat) : sumW w [] = 0 := rfl
theorem sumW_take (w : Op → Nat) (l : List Op) (i : Nat) : sumW w (l.take i) + sumW w (l.drop i) = sumW w l := by rw [← sumW_app, List.take_append_drop]
theorem sumW_drop (w : Op → Nat) (l : List Op) (i : Nat) : sumW w (l.drop i) ≤ sumW w l := by have := sumW_take w l i; omega
theorem sumW_dropLe (w : Op → Nat) (l : List Op) {i j : Nat} (h : i ≤ j) : sumW w (l.drop j) ≤ sumW w (l.drop i) := by
  have := sumW_drop w (l.drop i) (j - i)
  rw [List.drop_drop, show i + (j - i) = j by omega] at this
  exact this
def cOp (o : Op) : Nat := if o.kind = 1 ∨ o.kind = 2 then 1 else 0
theorem cnt_sum : ∀ l : List Op, cntM l = sumW cOp l
  | [] => rfl
  | o :: l => by
    have ih := cnt_sum l
    rw [sumW_cons, ← ih, cntM, List.filter_cons, cOp]
    by_cases h : o.kind = 1 ∨ o.kind = 2
    · rw [if_pos (decide_eq_true h), if_pos h, List.length_cons, cntM, Nat.add_comm]
    · rw [if_neg (by simp [h]), if_neg h, cntM, Nat.zero_add]
theorem sum_cut (w : Op → Nat) {s : Script} (W : Wf s.ops) {i : Nat} (hi : i < s.ops.length) : sumW w (cutOps s i) + w (opAt s.ops i) ≤ sumW w s.ops := by
  have e := ops_cut hi
  have h1 : sumW w s.ops = sumW w (s.ops.take i) + (w (opAt s.ops i) + sumW w (s.ops.drop (i + 1))) := by rw [e, sumW_app, sumW_cons, ← e]
  have h2 := sumW_dropLe w s.ops (i := i + 1) (j := endsM s.ops i + 1) (by have := ends_ge W hi; omega)
  rw [cutOps, sumW_app]
  omega
theorem sum_unw (w : Op → Nat) {s : Script} (W : Wf s.ops) {i : Nat} (hi : i + 1 < s.ops.length) (hk : (opAt s.ops i).kind = 2) (he : i + 2 ≤ endsM s.ops i) :
    sumW w (unwOps s i) + w (opAt s.ops i) + w (opAt s.ops (i + 1)) ≤ sumW w s.ops + w (unwOp s i) := by
  have e := ops_cut (ops := s.ops) (i := i) (by omega)
  have h1 : sumW w s.ops = sumW w (s.ops.take i) + (w (opAt s.ops i) + sumW w (s.ops.drop (i + 1))) := by rw [e, sumW_app, sumW_cons, ← e]
  have h2 : sumW w (s.ops.drop (i + 1)) = w (opAt s.ops (i + 1)) + sumW w (s.ops.drop (i + 2)) := by
    rw [opAt_eq hi, List.drop_eq_getElem_cons hi, sumW_cons]
  have hl := ends_lt W (i := i) (by omega)
  have h3 : sumW w ((s.ops.take (endsM s.ops i)).drop (i + 2)) + sumW w (s.ops.drop (endsM s.ops i)) = sumW w (s.ops.drop (i + 2)) := by
    rw [List.drop_take]
    have := sumW_take w (s.ops.drop (i + 2)) (endsM s.ops i - (i + 2))
    rw [List.drop_drop, show i + 2 + (endsM s.ops i - (i + 2)) = endsM s.ops i by omega] at this
    exact this
  have h4 := sumW_dropLe w s.ops (i := endsM s.ops i) (j := endsM s.ops i + 1) (by omega)
  rw [unwOps, sumW_app, sumW_app, sumW_app, sumW_cons, sumW_nil]
  omega
theorem sum_set (w : Op → Nat) {l : List Op} {i : Nat} (hi : i < l.length) (o : Op) : sumW w (l.set i o) + w (opAt l i) = sumW w l + w o := by
  have e := ops_cut hi
  have h1 : sumW w l = sumW w (l.take i) + (w (opAt l i) + sumW w (l.drop (i + 1))) := by rw [e, sumW_app, sumW_cons, ← e]
  rw [List.set_eq_take_append_cons_drop, if_pos hi, sumW_app, sumW_cons]
  omega

theorem apM_lt {s : Script} {n i : Int} (h : apM s n i = true) : (1 ≤ n ∧ n ≤ 9) ∧ 0 ≤ i ∧ i.toNat < s.ops.length ∧ (opAt s.ops i.toNat).kind ≠ 3 ∧ ruleM s n.toNat i.toNat = true := by
  simp only [apM, Bool.and_eq_true, Bool.not_eq_true', decide_eq_true_eq, decide_eq_false_iff_not] at h
  obtain ⟨⟨⟨⟨⟨h1, h2⟩, h3⟩, h4⟩, h5⟩, h6⟩ := h
  exact ⟨⟨h1, by omega⟩, h3, by omega, h5, h6⟩
theorem kid_next {s : Script} (W : Wf s.ops) {i : Nat} (hi : i < s.ops.length) (hk : (opAt s.ops i).kind = 2) (h1 : 1 ≤ kidsM s.ops i) : i + 2 ≤ endsM s.ops i ∧ (opAt s.ops (i + 1)).kind ≠ 3 := by
  have hl := ends_lt W hi
  have hp := ends_push W hi hk
  have hm : i ∈ stk s.ops (i + 1) := by rw [stk_push hk]; exact List.mem_cons_self ..
  have key : (opAt s.ops (i + 1)).kind ≠ 3 := by
    intro h3
    have e : stk s.ops (i + 1) = i :: stk s.ops i := stk_push hk
    have hout : i ∉ stk s.ops (i + 2) := by
      rw [stk_pop h3, e, List.tail_cons]
      intro hc
      have := stk_lt hc
      omega
    have hz : ∀ j, kidsTo s.ops j i = 0 := by
      intro j
      induction j with
      | zero => rfl
      | succ j ih =>
        rw [kidsTo, ih, if_neg]
        rintro ⟨a, b⟩
        have hmem : i ∈ stk s.ops j := by
          cases hs : stk s.ops j with
          | nil => rw [topAt_nil hs] at b; omega
          | cons p t => rw [topAt_cons hs] at b; have : p = i := by omega
                        rw [this]; exact List.mem_cons_self ..
        have := stk_lt hmem
        rcases Nat.lt_or_ge j (i + 2) with h | h
        · have : j = i + 1 := by omega
          rw [this] at a; exact a h3
        · exact stk_keep W (p := i) (i := i + 2) (by omega) hout j h hmem
    unfold kidsM at h1
    rw [hz] at h1
    omega
  refine ⟨?_, key⟩
  have e3 : (opAt s.ops (endsM s.ops i)).kind = 3 := by
    obtain ⟨j, t, h1, h2, h3, h4⟩ := pop_of W (p := i) (s.ops.length - (i + 1)) (i + 1) (by omega) hm
    rw [ends_pop W h2 h3 h4]; exact h3
  rcases Nat.lt_or_ge (i + 1) (endsM s.ops i) with h | h
  · omega
  · have : endsM s.ops i = i + 1 := by omega
    rw [this] at e3; exact absurd e3 key
theorem chg_kind (n : Nat) (o : Op) : (chgOp n o).kind = o.kind := by
  unfold chgOp
  split
  · rfl
  split
  · rfl
  split <;> rfl
theorem cnt_same {s : Script} {n i : Int} (h : apM s n i = true) (hn : 5 ≤ n) (hn2 : n ≤ 8) : cntM (rwM s n.toNat i.toNat) = cntM s.ops ∧ (rwM s n.toNat i.toNat).length = s.ops.length := by
  obtain ⟨h1, h2, h3, h4, h5⟩ := apM_lt h
  rw [rwM, if_neg (by omega), if_neg (by omega)]
  refine ⟨?_, List.length_set⟩
  rw [cnt_sum, cnt_sum]
  have := sum_set cOp h3 (chgOp n.toNat (opAt s.ops i.toNat))
  have e : cOp (chgOp n.toNat (opAt s.ops i.toNat)) = cOp (opAt s.ops i.toNat) := by rw [cOp, cOp, chg_kind]
  omega
theorem wt_pos {o : Op} (h : o.kind ≠ 3) : 1 ≤ wtOp o := by rw [wtOp, if_neg h]; omega
theorem wt_unw (s : Script) (o k : Op) (ho : o.kind = 2) (hi : o.isolated = true) (h4 : k.operator = 4) (h1 : k.mode = 1) : wtOp (unw3 (unw2 o (unw1 s o k))) < wtOp o + wtOp k := by
  have e1 : (unw1 s o k).kind = k.kind := by unfold unw1; split <;> rfl
  have e2 : (unw1 s o k).knockout = k.knockout := by unfold unw1; split <;> rfl
  have e3 : (if (unw1 s o k).mask = 0 then 0 else 1) ≤ (if o.mask = 0 then 0 else 1) + (if k.mask = 0 then 0 else 1) := by
    unfold unw1
    split
    · dsimp only; exact Nat.le_add_right _ _
    · exact Nat.le_add_left _ _
  have e : wtOp (unw3 (unw2 o (unw1 s o k))) ≤ (if (unw1 s o k).mask = 0 then 0 else 1) + (if k.kind = 2 ∧ k.isolated = false then 1 else 0) + (if o.operator = 4 ∧ o.mode = 1 then 0 else 1) + (if k.knockout = true then 1 else 0) + (if k.kind = 3 then 0 else 1) := by
    unfold unw3
    have k1 : (unw2 o (unw1 s o k)).kind = k.kind := e1
    by_cases hk : k.kind = 2
    · rw [if_pos (by rw [k1]; exact hk)]
      simp only [wtOp, unw2, e1, e2]
      rw [if_neg (c := k.kind = 2 ∧ true = false) (by simp)]
      omega
    · rw [if_neg (by rw [k1]; exact hk)]
      simp only [wtOp, unw2, e1, e2, hk, false_and]
      exact Nat.le_refl _
  have f1 : wtOp o = (if o.mask = 0 then 0 else 1) + 0 + (if o.operator = 4 ∧ o.mode = 1 then 0 else 1) + (if o.knockout = true then 1 else 0) + 1 := by
    rw [wtOp, if_neg (c := o.kind = 2 ∧ _) (by simp [hi]), if_neg (c := o.kind = 3) (by omega)]
  have f2 : wtOp k = (if k.mask = 0 then 0 else 1) + (if k.kind = 2 ∧ k.isolated = false then 1 else 0) + 0 + (if k.knockout = true then 1 else 0) + (if k.kind = 3 then 0 else 1) := by
    rw [wtOp, if_pos (c := k.operator = 4 ∧ _) ⟨h4, h1⟩]
  omega
theorem wt5 {o : Op} (h : o.mask ≠ 0) : wtOp (chgOp 5 o) < wtOp o := by
  have e : wtOp (chgOp 5 o) = (if (0 : Int) = 0 then 0 else 1) + (if o.kind = 2 ∧ o.isolated = false then 1 else 0) + (if o.operator = 4 ∧ o.mode = 1 then 0 else 1) + (if o.knockout = true then 1 else 0) + (if o.kind = 3 then 0 else 1) := rfl
  have f : wtOp o = (if o.mask = 0 then 0 else 1) + (if o.kind = 2 ∧ o.isolated = false then 1 else 0) + (if o.operator = 4 ∧ o.mode = 1 then 0 else 1) + (if o.knockout = true then 1 else 0) + (if o.kind = 3 then 0 else 1) := rfl
  rw [e, f, if_neg h, if_pos rfl]; omega
theorem wt6 {o : Op} (h : o.kind = 2) (h2 : o.isolated = false) : wtOp (chgOp 6 o) < wtOp o := by
  have e : wtOp (chgOp 6 o) = (if o.mask = 0 then 0 else 1) + (if o.kind = 2 ∧ true = false then 1 else 0) + (if o.operator = 4 ∧ o.mode = 1 then 0 else 1) + (if o.knockout = true then 1 else 0) + (if o.kind = 3 then 0 else 1) := rfl
  have f : wtOp o = (if o.mask = 0 then 0 else 1) + (if o.kind = 2 ∧ o.isolated = false then 1 else 0) + (if o.operator = 4 ∧ o.mode = 1 then 0 else 1) + (if o.knockout = true then 1 else 0) + (if o.kind = 3 then 0 else 1) := rfl
  rw [e, f, if_pos (c := o.kind = 2 ∧ o.isolated = false) ⟨h, h2⟩, if_neg (c := o.kind = 2 ∧ true = false) (by simp)]; omega
theorem wt7 {o : Op} (h : ¬ (o.operator = 4 ∧ o.mode = 1)) : wtOp (chgOp 7 o) < wtOp o := by
  have e : wtOp (chgOp 7 o) = (if o.mask = 0 then 0 else 1) + (if o.kind = 2 ∧ o.isolated = false then 1 else 0) + (if (4 : Int) = 4 ∧ (1 : Int) = 1 then 0 else 1) + (if o.knockout = true then 1 else 0) + (if o.kind = 3 then 0 else 1) := rfl
  have f : wtOp o = (if o.mask = 0 then 0 else 1) + (if o.kind = 2 ∧ o.isolated = false then 1 else 0) + (if o.operator = 4 ∧ o.mode = 1 then 0 else 1) + (if o.knockout = true then 1 else 0) + (if o.kind = 3 then 0 else 1) := rfl
  rw [e, f, if_neg h, if_pos (c := (4 : Int) = 4 ∧ (1 : Int) = 1) (by decide)]; omega
theorem wt8 {o : Op} (h : o.knockout = true) : wtOp (chgOp 8 o) < wtOp o := by
  have e : wtOp (chgOp 8 o) = (if o.mask = 0 then 0 else 1) + (if o.kind = 2 ∧ o.isolated = false then 1 else 0) + (if o.operator = 4 ∧ o.mode = 1 then 0 else 1) + (if false = true then 1 else 0) + (if o.kind = 3 then 0 else 1) := rfl
  have f : wtOp o = (if o.mask = 0 then 0 else 1) + (if o.kind = 2 ∧ o.isolated = false then 1 else 0) + (if o.operator = 4 ∧ o.mode = 1 then 0 else 1) + (if o.knockout = true then 1 else 0) + (if o.kind = 3 then 0 else 1) := rfl
  rw [e, f, if_pos h, if_neg (c := false = true) (by decide)]; omega
theorem wt_less {s : Script} (W : Wf s.ops) {n i : Int} (h : apM s n i = true) : sumW wtOp (rwM s n.toNat i.toNat) < sumW wtOp s.ops := by
  obtain ⟨h1, h2, h3, h4, h5⟩ := apM_lt h
  have hn : n = 1 ∨ n = 2 ∨ n = 3 ∨ n = 4 ∨ n = 5 ∨ n = 6 ∨ n = 7 ∨ n = 8 ∨ n = 9 := by omega
  have hcut : n ≤ 4 → sumW wtOp (rwM s n.toNat i.toNat) < sumW wtOp s.ops := by
    intro hn
    rw [rwM, if_pos (by omega)]
    have := sum_cut wtOp W h3
    have := wt_pos h4
    omega
  have hset : (5 ≤ n ∧ n ≤ 8) → wtOp (chgOp n.toNat (opAt s.ops i.toNat)) < wtOp (opAt s.ops i.toNat) → sumW wtOp (rwM s n.toNat i.toNat) < sumW wtOp s.ops := by
    intro hn hw
    rw [rwM, if_neg (by omega), if_neg (by omega)]
    have := sum_set wtOp h3 (chgOp n.toNat (opAt s.ops i.toNat))
    omega
  rcases hn with hn | hn | hn | hn | hn | hn | hn | hn | hn
  · exact hcut (by omega)
  · exact hcut (by omega)
  · exact hcut (by omega)
  · exact hcut (by omega)
  · refine hset (by omega) ?_
    subst hn
    have hu : mskM s i.toNat = true := h5
    simp only [mskM, fullM, smB, Bool.and_eq_true, Bool.not_eq_true', decide_eq_false_iff_not] at hu
    exact wt5 hu.1.1.1
  · refine hset (by omega) ?_
    subst hn
    have hu : iseM s i.toNat = true := h5
    simp only [iseM, Bool.and_eq_true, Bool.not_eq_true', decide_eq_true_eq] at hu
    exact wt6 hu.1.1.1 hu.1.1.2
  · refine hset (by omega) ?_
    subst hn
    have hu : nrmM s i.toNat = true := h5
    have : ¬ ((opAt s.ops i.toNat).operator = 4 ∧ (opAt s.ops i.toNat).mode = 1) := by
      rintro ⟨a, b⟩
      rw [nrmM, a, b] at hu
      cases koM s i.toNat <;> simp at hu
    exact wt7 this
  · refine hset (by omega) ?_
    subst hn
    have hu : sngM s i.toNat = true := h5
    simp only [sngM, Bool.and_eq_true, decide_eq_true_eq] at hu
    exact wt8 hu.1.2
  · subst hn
    have hu : unwM s i.toNat = true := h5
    simp only [unwM, Bool.and_eq_true, Bool.or_eq_true, decide_eq_true_eq] at hu
    obtain ⟨⟨⟨k1, k2⟩, k3⟩, ⟨k4, k5⟩, k6⟩ := hu
    obtain ⟨he, hk3⟩ := kid_next W h3 k1 (by rw [k3]; exact Nat.le_refl _)
    have hl := ends_lt W h3
    have := sum_unw wtOp W (i := i.toNat) (by omega) k1 he
    show sumW wtOp (rwM s 9 i.toNat) < _
    rw [rwM, if_neg (by decide), if_pos (by decide)]
    have hw : wtOp (unwOp s i.toNat) < wtOp (opAt s.ops i.toNat) + wtOp (opAt s.ops (i.toNat + 1)) := wt_unw s _ _ k1 k2 k4 k5
    omega
end Go.Proofs.YtbpplplnkgmhlaaGreatDoor

/- A redex of a deleting rule outlasts the changing rules that come first; what simplifying comes to. Plain Lean. -/
set_option maxRecDepth 8000
set_option maxHeartbeats 2000000
namespace Go.Proofs.YtbpplplnkgmhlaaGreatDoor
open Go Go.SL

section
variable {a b : List Op} (hk : ∀ j, (opAt a j).kind = (opAt b j).kind)
include hk
end

theorem opAt_set (l : List Op) (i : Nat) (o : Op) (j : Nat) : opAt (l.set i o) j = if i = j ∧ j < l.length then o else opAt l j := by
  unfold opAt
  rw [List.getD_eq_getElem?_getD, List.getD_eq_getElem?_getD, List.getElem?_set]
  by_cases h : i = j
  · subst h
    by_cases h2 : i < l.length
    · rw [if_pos rfl, if_pos h2, if_pos ⟨rfl, h2⟩]; rfl
    · rw [if_pos rfl, if_neg h2, if_neg (fun q => h2 q.2), List.getElem?_eq_none (by omega)]
  · rw [if_neg h, if_neg (fun q => h q.1)]

theorem ops_ok {s : Script} (V : VOps s) : (opsM s).1 = 0 := by
  rw [opsM, if_pos V.frame]
  have key : ∀ (d i : Nat), i + d = s.ops.length → (opsGo s.bits s.images.length i (s.ops.drop i) ((stk s.ops i).reverse.map (opAt s.ops))).1 = 0 := by
    intro d
    induction d with
    | zero =>
      intro i hi
      rw [List.drop_eq_nil_of_le (by omega), show i = s.ops.length by omega, V.wf.fin]
      rfl
    | succ d ih =>
      intro i hi
      rw [opsGo_step (by omega)]
      have h0 : opErr s.bits s.images.length (s.ops.getD i default) ((stk s.ops i).reverse.map (opAt s.ops)) = 0 := V.ok i (by omega)
      rw [if_pos h0]
      have e : nextOpen ((stk s.ops i).reverse.map (opAt s.ops)) (s.ops.getD i default) = (stk s.ops (i + 1)).reverse.map (opAt s.ops) := by
        rw [nextOpen, stk]
        show (if (opAt s.ops i).kind = 2 then _ ++ [opAt s.ops i] else if (opAt s.ops i).kind = 3 then _ else _) = _
        split
        · rw [List.reverse_cons, List.map_append]; rfl
        split
        · rw [← List.map_dropLast, List.dropLast_reverse]
        · rfl
      rw [e]
      exact ih (i + 1) (by omega)
  exact key s.ops.length 0 (by omega)
end Go.Proofs.YtbpplplnkgmhlaaGreatDoor

/- Simplifying: what stays, what becomes less, when it ends. Plain Lean. -/
set_option maxRecDepth 8000
set_option maxHeartbeats 2000000
namespace Go.Proofs.YtbpplplnkgmhlaaGreatDoor
open Go Go.SL

/-! The list of redexes. -/
theorem mem_rxAt {s : Script} {i k : Nat} {r : Rx} : r ∈ rxAt s i k ↔ r.2 = i ∧ 0 ≤ r.1 ∧ r.1 < k ∧ apM s r.1 r.2 = true := by
  simp only [rxAt, List.mem_map, List.mem_filter, List.mem_range]
  constructor
  · rintro ⟨a, ⟨h1, h2⟩, rfl⟩
    exact ⟨rfl, by dsimp only; omega, by dsimp only; omega, h2⟩
  · rintro ⟨h1, h2, h3, h4⟩
    refine ⟨r.1.toNat, ⟨by omega, ?_⟩, ?_⟩
    · rw [← h1, show ((r.1.toNat : Nat) : Int) = r.1 by omega]; exact h4
    · rw [← h1, show ((r.1.toNat : Nat) : Int) = r.1 by omega]
theorem mem_rxTo {s : Script} {k : Nat} {r : Rx} : r ∈ rxTo s k ↔ r.2 < k ∧ apM s r.1 r.2 = true := by
  simp only [rxTo, List.mem_flatMap, List.mem_range, mem_rxAt]
  constructor
  · rintro ⟨a, h1, h2, h3, h4, h5⟩
    exact ⟨by omega, h5⟩
  · rintro ⟨h1, h2⟩
    obtain ⟨g1, g2, g3, g4, g5⟩ := apM_lt h2
    exact ⟨r.2.toNat, by omega, by omega, by omega, by omega, h2⟩
theorem mem_red {s : Script} {r : Rx} : r ∈ redM s ↔ (opsM s).1 = 0 ∧ apM s r.1 r.2 = true := by
  unfold redM
  by_cases h : (opsM s).1 = 0
  · rw [if_pos h, mem_rxTo]
    constructor
    · rintro ⟨_, h2⟩; exact ⟨h, h2⟩
    · rintro ⟨_, h2⟩
      obtain ⟨g1, g2, g3, g4, g5⟩ := apM_lt h2
      exact ⟨by omega, h2⟩
  · rw [if_neg h]
    exact ⟨fun q => absurd q (List.not_mem_nil), fun q => absurd q.1 h⟩
theorem red_sorted (s : Script) : (redM s).Pairwise (fun a b => a.2 < b.2 ∨ a.2 = b.2 ∧ a.1 < b.1) := by
  unfold redM
  split
  · rw [rxTo, List.pairwise_flatMap]
    refine ⟨fun a _ => ?_, ?_⟩
    · rw [rxAt, List.pairwise_map]
      refine List.Pairwise.filter _ ?_
      refine (List.pairwise_lt_range (n := 10)).imp ?_
      intro x y h
      exact .inr ⟨rfl, by dsimp only; omega⟩
    · refine (List.pairwise_lt_range (n := s.ops.length)).imp ?_
      intro x y h p hp q hq
      rw [mem_rxAt] at hp hq
      left; omega
  · exact List.Pairwise.nil
theorem red_head {s : Script} {r : Rx} (h : (redM s).head? = some r) : r ∈ redM s ∧ ∀ q ∈ redM s, r.2 < q.2 ∨ r.2 = q.2 ∧ r.1 ≤ q.1 := by
  have hp := red_sorted s
  cases hl : redM s with
  | nil => rw [hl] at h; cases h
  | cons a t =>
    rw [hl] at h hp
    simp only [List.head?_cons, Option.some.injEq] at h
    subst h
    refine ⟨List.mem_cons_self .., fun q hq => ?_⟩
    rcases List.mem_cons.1 hq with rfl | hq
    · exact .inr ⟨rfl, Int.le_refl _⟩
    · have := (List.pairwise_cons.1 hp).1 q hq
      omega
theorem red_none {s : Script} (h : (redM s).head? = none) : redM s = [] := by
  cases hl : redM s with
  | nil => rfl
  | cons a t => rw [hl] at h; cases h

/-! Simplifying. -/
def nextS (s : Script) (r : Rx) : Script := withOps s (rwM s r.1.toNat r.2.toNat)
theorem run_none {f : Nat} {s : Script} (h : (redM s).head? = none) : runGo f s = (s.ops, []) := by
  cases f with
  | zero => rfl
  | succ f => rw [runGo, h]
theorem run_some {f : Nat} {s : Script} {r : Rx} (h : (redM s).head? = some r) : runGo (f + 1) s = ((runGo f (nextS s r)).1, r :: (runGo f (nextS s r)).2) := by
  rw [runGo, h]; rfl
end Go.Proofs.YtbpplplnkgmhlaaGreatDoor

/- The view of a script: the group of every operation, the number of operations in every group, the first ones; as the rules' walk finds them. -/
set_option maxHeartbeats 2000000
set_option maxRecDepth 16000
namespace Go.Proofs.YtbpplplnkgmhlaaGreatDoor
open Go Go.SL
open Go.RowKit (wrap64)

def viewE (s : Script) : List PV := scriptE s ++ [PU (maxOf s.bits), natsF s.ops.length (endsM s.ops), .lst 1 s.ops.length (fun a _ => PI (grpM s.ops a)), .lst 1 s.ops.length (fun a _ => PI (kidsM s.ops a)), .lst 1 s.ops.length (fun a _ => PB (firstM s.ops a))]
def viewF (s : Script) (j : Nat) : PV := (viewE s).getD j .any
def vP (s : Script) : BV := .c (.ipt 15 (viewF s) 0)
theorem vf0 (s : Script) : viewF s 0 = PI s.bits := rfl
theorem vf1 (s : Script) : viewF s 1 = PI s.canvas.x0 := rfl
theorem vf2 (s : Script) : viewF s 2 = PI s.canvas.y0 := rfl
theorem vf3 (s : Script) : viewF s 3 = PI s.canvas.x1 := rfl
theorem vf4 (s : Script) : viewF s 4 = PI s.canvas.y1 := rfl
theorem vf5 (s : Script) : viewF s 5 = PI s.tileW := rfl
theorem vf6 (s : Script) : viewF s 6 = PI s.tileH := rfl
theorem vf7 (s : Script) : viewF s 7 = ints s.order := rfl
theorem vf8 (s : Script) : viewF s 8 = imgL s.images := rfl
theorem vf9 (s : Script) : viewF s 9 = opL s.ops := rfl
theorem vf10 (s : Script) : viewF s 10 = PU (maxOf s.bits) := rfl
theorem vf11 (s : Script) : viewF s 11 = natsF s.ops.length (endsM s.ops) := rfl
theorem vf12 (s : Script) : viewF s 12 = .lst 1 s.ops.length (fun a _ => PI (grpM s.ops a)) := rfl
theorem vf13 (s : Script) : viewF s 13 = .lst 1 s.ops.length (fun a _ => PI (kidsM s.ops a)) := rfl
theorem vf14 (s : Script) : viewF s 14 = .lst 1 s.ops.length (fun a _ => PB (firstM s.ops a)) := rfl
theorem le0 {n : Nat} (f g : Nat → Nat → PV) (h : ∀ i, f i 0 = g i 0 := by intro _; rfl) : ∀ i, i < n → ∀ j, j < 1 → PV.le (f i j) (g i j) := fun i _ j hj => by
  have h2 : j = 0 := by omega
  subst h2
  rw [h i]
  exact fun _ _ _ h => h
theorem lst_leE {sz n : Nat} {f g : Nat → Nat → PV} (h : ∀ i, i < n → ∀ j, j < sz → PV.le (f i j) (g i j)) : PV.le (.lst sz n f) (.lst sz n g) := fun _ _ u hu => by
  obtain ⟨a, c, e, hn, hb⟩ := hu
  refine ⟨a, c, e, hn, fun h0 => ?_⟩
  obtain ⟨b, o, ha, hok, hc⟩ := hb h0
  refine ⟨b, o, ha, hok, fun i hi j hj => ?_⟩
  obtain ⟨x, h1, h2, h3⟩ := hc i hi j hj
  exact ⟨x, h1, h2, h i hi j hj _ _ _ h3⟩
theorem pi_le {x y : Int} (h : x = y) : PV.le (PI x) (PI y) := by rw [h]; exact fun _ _ _ h => h
theorem pb_le {x y : Bool} (h : x = y) : PV.le (PB x) (PB y) := by rw [h]; exact fun _ _ _ h => h
theorem bvle_iptP {sz off : Nat} {g g' : Nat → PV} (h : ∀ j, j < sz → PV.le (g j) (g' j)) {ρ : Rho} {ok : Nat → Prop} {w : World} {u : Value} (hu : DenC ρ ok w (.ipt sz g off) u) : DenC ρ ok w (.ipt sz g' off) u := by
  obtain ⟨b, o, h1, h2, h3⟩ := hu
  refine ⟨b, o, h1, h2, fun j hj => ?_⟩
  obtain ⟨x, q1, q2, q3⟩ := h3 j hj
  exact ⟨x, q1, q2, h j hj _ _ _ q3⟩
theorem grp_no {ops : List Op} {i : Nat} (h : (opAt ops i).kind ≠ 3) : grpM ops i = topAt ops i := by rw [grpM, if_neg h]
theorem grp_pop {ops : List Op} {i : Nat} (h : (opAt ops i).kind = 3) : grpM ops i = topAt ops (i + 1) := by rw [grpM, if_pos h]
theorem kids_no {ops : List Op} {i : Nat} (h : (opAt ops i).kind ≠ 3) (g : Int) : kidsTo ops (i + 1) g = kidsTo ops i g + if topAt ops i = g then 1 else 0 := by
  rw [kidsTo]
  by_cases hg : topAt ops i = g
  · rw [if_pos ⟨h, hg⟩, if_pos hg]
  · rw [if_neg (fun q => hg q.2), if_neg hg]
theorem kids_pop {ops : List Op} {i : Nat} (h : (opAt ops i).kind = 3) (g : Int) : kidsTo ops (i + 1) g = kidsTo ops i g := by rw [kidsTo, if_neg (fun q => q.1 h)]; rfl
theorem first_no {ops : List Op} {i : Nat} (h : (opAt ops i).kind ≠ 3) : firstM ops i = ((kidsTo ops i (topAt ops i) : Int) == 0) := by
  rw [firstM]
  by_cases hk : kidsTo ops i (topAt ops i) = 0
  · rw [decide_eq_true ⟨h, hk⟩, hk]; rfl
  · rw [decide_eq_false (fun q => hk q.2)]
    exact (beq_eq_false_iff_ne.2 (by omega)).symm
theorem first_pop {ops : List Op} {i : Nat} (h : (opAt ops i).kind = 3) : firstM ops i = false := by rw [firstM]; exact decide_eq_false (fun q => q.1 h)
theorem topAt_push {ops : List Op} {i : Nat} (h : (opAt ops i).kind = 2) : topAt ops (i + 1) = i := topAt_cons (stk_push h)
theorem topAt_pop {ops : List Op} {i p : Nat} {t : List Nat} (h : (opAt ops i).kind = 3) (hs : stk ops i = p :: t) : topAt ops (i + 1) = grpM ops p := by
  have h2 : (opAt ops p).kind = 2 := stk_kind (ops := ops) (i := i) (by rw [hs]; exact List.mem_cons_self ..)
  rw [grp_no (by omega), topAt, topAt, stk_pop h, hs, stk_suf (l := []) hs]; rfl
theorem grp_step {ops : List Op} (i a : Nat) : (if a < i + 1 then grpM ops a else 0) = if a = i then grpM ops i else if a < i then grpM ops a else 0 := by
  by_cases e : a = i
  · rw [if_pos e, if_pos (by omega), e]
  · rw [if_neg e]
    by_cases h : a < i
    · rw [if_pos h, if_pos (by omega)]
    · rw [if_neg h, if_neg (by omega)]
theorem first_step {ops : List Op} (i a : Nat) : (decide (a < i + 1) && firstM ops a) = if a = i then firstM ops i else (decide (a < i) && firstM ops a) := by
  by_cases e : a = i
  · rw [if_pos e, decide_eq_true (show a < i + 1 by omega), e]; rfl
  · rw [if_neg e]
    by_cases h : a < i
    · rw [decide_eq_true h, decide_eq_true (show a < i + 1 by omega)]
    · rw [decide_eq_false h, decide_eq_false (show ¬ a < i + 1 by omega)]
theorem kidw {ops : List Op} {i : Nat} {g : Int} (h : i ≤ 4096) : IntKind.i64.wrap ((kidsTo ops i g : Int) + 1) = (kidsTo ops i g : Int) + 1 := w64' (by have := kidsTo_le ops g i; omega) (by have := kidsTo_le ops g i; omega)
theorem look_no (s : Script) (hs : ScriptLen s) (he : (opsM s).1 ≠ 0) : Pure Sg 74 [ag (scriptE s)] (fun x => x = .tup [.c (.p (.val (.pointer none))), B false]) := by
  have h1 := vops_spec s hs
  refine pure_of Tryz.func74 rfl (rs := [.tmp 2, .tmp 3]) rfl rfl mixed (by decide +kernel) (Nat.le_of_ble_eq_true rfl) (argsLt_mem (by simp (maxSteps := 1000000) (disch := omega) only [go_sem])) ?_
  repeat' (first | with_reducible exact tr_a | refine un_a ?_ | ((first | refine st_a (fun K hK => ?_) | refine rg_a ?_ | refine call_c (h1) ?_ | refine gcall_c (fun hg => h1) ?_); (repeat' (refine And.intro ?_ ?_)); (all_goals first | (refine hK _ ?_; clear hK K) | exact auto_cl | skip)) | ((first | apply cw_ite | apply cw_iteN); (case hf => rfl); (case hc => exact ev_a); (all_goals first | (intro hb; (try simp only [hbs] at hb)) | skip)) | exact atN_intro | (refine if_a (fun hb => ?_) (fun hb => ?_); (all_goals (try first | with_reducible exact True.intro | (exfalso; omega)))) | refine cw_blocks (fun KB hB => ?_) | (refine hB _ ?_; clear hB KB) | refine exit_by (S := Sg) (by assumption) ?_ | (refine ret_a ?_; (try clear hB KB); (try clear hK K)))
def lookF (s : Script) (j : Nat) : PV := (scriptE s ++ [PU (maxOf s.bits), natsF s.ops.length (endsM s.ops), .lst 1 s.ops.length (fun a _ => PI (if a < s.ops.length then grpM s.ops a else 0)), .lst 1 s.ops.length (fun a _ => PI (kidsTo s.ops s.ops.length a)), .lst 1 s.ops.length (fun a _ => PB (decide (a < s.ops.length) && firstM s.ops a))]).getD j .any
theorem look_fin (s : Script) (j : Nat) (hj : j < 15) : PV.le (lookF s j) (viewF s j) := by
  have hv : j < 12 ∨ j = 12 ∨ j = 13 ∨ j = 14 := by omega
  rcases hv with h | rfl | rfl | rfl
  · skip
    have hivl : j = 0 ∨ j = 1 ∨ j = 2 ∨ j = 3 ∨ j = 4 ∨ j = 5 ∨ j = 6 ∨ j = 7 ∨ j = 8 ∨ j = 9 ∨ j = 10 ∨ j = 11 := by omega
    rcases hivl with rfl | rfl | rfl | rfl | rfl | rfl | rfl | rfl | rfl | rfl | rfl | rfl <;> exact fun _ _ _ h => h
  · show PV.le (.lst 1 s.ops.length (fun a _ => PI (if a < s.ops.length then grpM s.ops a else 0))) (.lst 1 s.ops.length (fun a _ => PI (grpM s.ops a)))
    exact lst_leE (fun a ha k hk => pi_le (if_pos ha))
  · exact fun _ _ _ h => h
  · show PV.le (.lst 1 s.ops.length (fun a _ => PB (decide (a < s.ops.length) && firstM s.ops a))) (.lst 1 s.ops.length (fun a _ => PB (firstM s.ops a)))
    exact lst_leE (fun a ha k hk => pb_le (by rw [decide_eq_true ha]; rfl))
end Go.Proofs.YtbpplplnkgmhlaaGreatDoor

/- The walk of look: the view of a rewritable script. -/
set_option maxHeartbeats 2000000
set_option maxRecDepth 16000
namespace Go.Proofs.YtbpplplnkgmhlaaGreatDoor
open Go Go.SL
open Go.RowKit (wrap64)

attribute [local go_sem] Int.toNat_natCast
def lookV (s : Script) : List CV := (scriptE s).map CV.p ++ [.p (PU (maxOf s.bits)), .p (natsF s.ops.length (endsM s.ops)), .own 2 s.ops.length, .own 3 s.ops.length, .own 4 s.ops.length]
attribute [local go_sem] lookV
theorem look_spec (s : Script) (V : VOps s) (hs : ScriptLen s) (he : (opsM s).1 = 0) : Pure Sg 74 [ag (scriptE s)] (fun x => x = .tup [vP s, B true]) := by
  have h1 := vops_spec s hs
  have h2 := tends_spec s V
  have hn := V.cnt
  have W := V.wf
  have hbits : ∃ mx : Int, mx = (if s.bits = 8 then 255 else if s.bits = 16 then 65535 else 0) := ⟨_, rfl⟩
  have h3 := sampleMax_spec s.bits
  refine pure_le ?_
  refine pure_ofO Tryz.func74 rfl (rs := [.tmp 2, .tmp 3]) rfl rfl mixed (by decide +kernel) (Nat.le_of_ble_eq_true rfl) (argsLt_mem (by simp (maxSteps := 1000000) (disch := omega) only [go_sem])) ?_
  repeat' (first | with_reducible exact tr_a | refine un_a ?_ | ((with_reducible refine cw_stepV (id := 6) (fun K hW => ?_)); (try simp (maxSteps := 1000000) (disch := omega) only [go_sem]); (repeat' (refine And.intro ?_ ?_)); (all_goals first | (refine hK _ ?_; clear hK K) | exact auto_cl | skip)) | ((first | refine st_a (fun K hK => ?_) | refine rg_a ?_ | refine call_c (h1) ?_ | refine gcall_c (fun hg => h1) ?_ | refine call_c (h2) ?_ | refine gcall_c (fun hg => h2) ?_ | refine call_c (h3) ?_ | refine gcall_c (fun hg => h3) ?_); (repeat' (refine And.intro ?_ ?_)); (all_goals first | (refine hK _ ?_; clear hK K) | exact auto_cl | skip)) | ((first | apply cw_ite | apply cw_iteN); (case hf => rfl); (case hc => exact ev_a); (all_goals first | (intro hb; (try simp only [hbs] at hb)) | skip)) | exact atN_intro | (refine if_a (fun hb => ?_) (fun hb => ?_); (all_goals (try first | with_reducible exact True.intro | (exfalso; omega)))) | refine cw_blocks (fun KB hB => ?_) | (refine hB _ ?_; clear hB KB) | refine exit_by (S := Sg) (by assumption) ?_ | (refine ret_a ?_; (try clear hB KB); (try clear hK K)))
  refine hW _ (mkSt [(1, .b (.c (.ptr 0 0))), (6, .b (.c (.ptr 1 0)))] [(0, .fix ((scriptE s).map CV.p)), (1, .fix ((scriptE s).map CV.p ++ [.p (PU (maxOf s.bits)), .p (natsF s.ops.length (endsM s.ops)), .p Nil, .p Nil, .p Nil]))] 2) ?_ ?_
  · refine le_a [(1, some 1)] ?_ ?_
    repeat' (refine And.intro ?_ ?_)
    all_goals first | exact le_cl | skip
  clear hW
  refine cw_stepR (id := 7) (.br 0 (.br 1 (.br 2 (.br 3 (.br 4 (.br 5 (.br 7 (.br 11 (.br 6 (.br 15 (.br 16 (.br 8 (.br 9 (.br 10 (.br 12 (.br 13 (.br 17 (.br 18 (.br 19 (.br 20 (.br 14 (.br 21 (.br 22 (.br 23 .leaf .nil) .nil) .nil) .nil) .nil) .nil) .nil) .nil) .nil) (.br 17 (.br 18 (.br 19 (.br 12 (.br 13 (.br 20 (.br 14 (.br 21 (.br 22 (.br 23 .leaf .nil) .nil) .nil) .nil) .nil) .nil) (.br 20 (.br 12 (.br 13 (.br 14 (.br 21 (.br 22 (.br 23 .leaf .nil) .nil) .nil) .nil) .nil) .nil) .nil)) .nil) .nil) .nil)) (.br 12 (.br 13 (.br 17 (.br 10 (.br 18 (.br 19 (.br 20 (.br 14 (.br 21 (.br 22 (.br 23 .leaf .nil) .nil) .nil) .nil) .nil) .nil) .nil) (.br 14 (.br 10 (.br 18 (.br 19 (.br 20 (.br 21 (.br 22 (.br 23 .leaf .nil) .nil) .nil) .nil) .nil) .nil) .nil) .nil)) .nil) .nil) (.br 17 (.br 10 (.br 18 (.br 19 (.br 12 (.br 13 (.br 20 (.br 14 (.br 21 (.br 22 (.br 23 .leaf .nil) .nil) .nil) .nil) .nil) .nil) (.br 20 (.br 12 (.br 13 (.br 14 (.br 21 (.br 22 (.br 23 .leaf .nil) .nil) .nil) .nil) .nil) .nil) .nil)) .nil) .nil) (.br 12 (.br 13 (.br 10 (.br 18 (.br 19 (.br 20 (.br 14 (.br 21 (.br 22 (.br 23 .leaf .nil) .nil) .nil) .nil) .nil) .nil) .nil) (.br 14 (.br 10 (.br 18 (.br 19 (.br 20 (.br 21 (.br 22 (.br 23 .leaf .nil) .nil) .nil) .nil) .nil) .nil) .nil) .nil)) .nil) .nil)) .nil))) .nil) (.br 12 (.br 13 (.br 8 (.br 9 (.br 17 (.br 10 (.br 18 (.br 19 (.br 20 (.br 14 (.br 21 (.br 22 (.br 23 .leaf .nil) .nil) .nil) .nil) .nil) .nil) .nil) (.br 14 (.br 10 (.br 18 (.br 19 (.br 20 (.br 21 (.br 22 (.br 23 .leaf .nil) .nil) .nil) .nil) .nil) .nil) .nil) .nil)) .nil) .nil) (.br 14 (.br 8 (.br 9 (.br 17 (.br 10 (.br 18 (.br 19 (.br 20 (.br 21 (.br 22 (.br 23 .leaf .nil) .nil) .nil) .nil) .nil) .nil) .nil) .nil) .nil) (.br 17 (.br 8 (.br 9 (.br 10 (.br 18 (.br 19 (.br 20 (.br 21 (.br 22 (.br 23 .leaf .nil) .nil) .nil) .nil) .nil) .nil) .nil) .nil) .nil) .nil)) (.br 17 (.br 8 (.br 9 (.br 10 (.br 18 (.br 19 (.br 20 (.br 14 (.br 21 (.br 22 (.br 23 .leaf .nil) .nil) .nil) .nil) .nil) .nil) .nil) (.br 14 (.br 10 (.br 18 (.br 19 (.br 20 (.br 21 (.br 22 (.br 23 .leaf .nil) .nil) .nil) .nil) .nil) .nil) .nil) .nil)) .nil) .nil) .nil))) .nil) (.br 17 (.br 8 (.br 9 (.br 10 (.br 18 (.br 19 (.br 12 (.br 13 (.br 20 (.br 14 (.br 21 (.br 22 (.br 23 .leaf .nil) .nil) .nil) .nil) .nil) .nil) (.br 20 (.br 12 (.br 13 (.br 14 (.br 21 (.br 22 (.br 23 .leaf .nil) .nil) .nil) .nil) .nil) .nil) .nil)) .nil) .nil) (.br 12 (.br 13 (.br 10 (.br 18 (.br 19 (.br 20 (.br 14 (.br 21 (.br 22 (.br 23 .leaf .nil) .nil) .nil) .nil) .nil) .nil) .nil) (.br 14 (.br 10 (.br 18 (.br 19 (.br 20 (.br 21 (.br 22 (.br 23 .leaf .nil) .nil) .nil) .nil) .nil) .nil) .nil) .nil)) .nil) .nil)) .nil) .nil) .nil))) .nil) .nil) (.br 8 (.br 9 (.br 6 (.br 15 (.br 16 (.br 10 (.br 12 (.br 13 (.br 17 (.br 18 (.br 19 (.br 20 (.br 14 (.br 21 (.br 22 (.br 23 .leaf .nil) .nil) .nil) .nil) .nil) .nil) .nil) .nil) .nil) (.br 17 (.br 18 (.br 19 (.br 12 (.br 13 (.br 20 (.br 14 (.br 21 (.br 22 (.br 23 .leaf .nil) .nil) .nil) .nil) .nil) .nil) (.br 20 (.br 12 (.br 13 (.br 14 (.br 21 (.br 22 (.br 23 .leaf .nil) .nil) .nil) .nil) .nil) .nil) .nil)) .nil) .nil) .nil)) (.br 12 (.br 13 (.br 17 (.br 10 (.br 18 (.br 19 (.br 20 (.br 14 (.br 21 (.br 22 (.br 23 .leaf .nil) .nil) .nil) .nil) .nil) .nil) .nil) (.br 14 (.br 10 (.br 18 (.br 19 (.br 20 (.br 21 (.br 22 (.br 23 .leaf .nil) .nil) .nil) .nil) .nil) .nil) .nil) .nil)) .nil) .nil) (.br 17 (.br 10 (.br 18 (.br 19 (.br 12 (.br 13 (.br 20 (.br 14 (.br 21 (.br 22 (.br 23 .leaf .nil) .nil) .nil) .nil) .nil) .nil) (.br 20 (.br 12 (.br 13 (.br 14 (.br 21 (.br 22 (.br 23 .leaf .nil) .nil) .nil) .nil) .nil) .nil) .nil)) .nil) .nil) (.br 12 (.br 13 (.br 10 (.br 18 (.br 19 (.br 20 (.br 14 (.br 21 (.br 22 (.br 23 .leaf .nil) .nil) .nil) .nil) .nil) .nil) .nil) (.br 14 (.br 10 (.br 18 (.br 19 (.br 20 (.br 21 (.br 22 (.br 23 .leaf .nil) .nil) .nil) .nil) .nil) .nil) .nil) .nil)) .nil) .nil)) .nil))) .nil) .nil) (.br 10 (.br 6 (.br 15 (.br 16 (.br 12 (.br 13 (.br 17 (.br 18 (.br 19 (.br 20 (.br 14 (.br 21 (.br 22 (.br 23 .leaf .nil) .nil) .nil) .nil) .nil) .nil) .nil) .nil) .nil) (.br 17 (.br 18 (.br 19 (.br 12 (.br 13 (.br 20 (.br 14 (.br 21 (.br 22 (.br 23 .leaf .nil) .nil) .nil) .nil) .nil) .nil) (.br 20 (.br 12 (.br 13 (.br 14 (.br 21 (.br 22 (.br 23 .leaf .nil) .nil) .nil) .nil) .nil) .nil) .nil)) .nil) .nil) .nil)) .nil) .nil) (.br 12 (.br 13 (.br 6 (.br 15 (.br 16 (.br 17 (.br 18 (.br 19 (.br 20 (.br 14 (.br 21 (.br 22 (.br 23 .leaf .nil) .nil) .nil) .nil) .nil) .nil) .nil) .nil) .nil) .nil) (.br 14 (.br 6 (.br 15 (.br 16 (.br 17 (.br 18 (.br 19 (.br 20 (.br 21 (.br 22 (.br 23 .leaf .nil) .nil) .nil) .nil) .nil) .nil) .nil) .nil) .nil) .nil) .nil)) .nil) .nil)) (.br 12 (.br 13 (.br 6 (.br 15 (.br 16 (.br 17 (.br 10 (.br 18 (.br 19 (.br 20 (.br 14 (.br 21 (.br 22 (.br 23 .leaf .nil) .nil) .nil) .nil) .nil) .nil) .nil) (.br 14 (.br 10 (.br 18 (.br 19 (.br 20 (.br 21 (.br 22 (.br 23 .leaf .nil) .nil) .nil) .nil) .nil) .nil) .nil) .nil)) .nil) .nil) .nil) (.br 10 (.br 6 (.br 15 (.br 16 (.br 17 (.br 18 (.br 19 (.br 20 (.br 14 (.br 21 (.br 22 (.br 23 .leaf .nil) .nil) .nil) .nil) .nil) .nil) .nil) .nil) .nil) .nil) (.br 14 (.br 6 (.br 15 (.br 16 (.br 17 (.br 18 (.br 19 (.br 20 (.br 21 (.br 22 (.br 23 .leaf .nil) .nil) .nil) .nil) .nil) .nil) .nil) .nil) .nil) .nil) .nil)) (.br 14 (.br 6 (.br 15 (.br 16 (.br 17 (.br 10 (.br 18 (.br 19 (.br 20 (.br 21 (.br 22 (.br 23 .leaf .nil) .nil) .nil) .nil) .nil) .nil) .nil) .nil) .nil) .nil) (.br 10 (.br 6 (.br 15 (.br 16 (.br 17 (.br 18 (.br 19 (.br 20 (.br 21 (.br 22 (.br 23 .leaf .nil) .nil) .nil) .nil) .nil) .nil) .nil) .nil) .nil) .nil) .nil)) .nil))) .nil) .nil))) .nil) (.br 12 (.br 13 (.br 6 (.br 15 (.br 16 (.br 8 (.br 9 (.br 17 (.br 10 (.br 18 (.br 19 (.br 20 (.br 14 (.br 21 (.br 22 (.br 23 .leaf .nil) .nil) .nil) .nil) .nil) .nil) .nil) (.br 14 (.br 10 (.br 18 (.br 19 (.br 20 (.br 21 (.br 22 (.br 23 .leaf .nil) .nil) .nil) .nil) .nil) .nil) .nil) .nil)) .nil) .nil) (.br 14 (.br 8 (.br 9 (.br 17 (.br 10 (.br 18 (.br 19 (.br 20 (.br 21 (.br 22 (.br 23 .leaf .nil) .nil) .nil) .nil) .nil) .nil) .nil) .nil) .nil) (.br 17 (.br 8 (.br 9 (.br 10 (.br 18 (.br 19 (.br 20 (.br 21 (.br 22 (.br 23 .leaf .nil) .nil) .nil) .nil) .nil) .nil) .nil) .nil) .nil) .nil)) (.br 17 (.br 8 (.br 9 (.br 10 (.br 18 (.br 19 (.br 20 (.br 14 (.br 21 (.br 22 (.br 23 .leaf .nil) .nil) .nil) .nil) .nil) .nil) .nil) (.br 14 (.br 10 (.br 18 (.br 19 (.br 20 (.br 21 (.br 22 (.br 23 .leaf .nil) .nil) .nil) .nil) .nil) .nil) .nil) .nil)) .nil) .nil) .nil))) .nil) .nil) (.br 8 (.br 9 (.br 6 (.br 15 (.br 16 (.br 17 (.br 10 (.br 18 (.br 19 (.br 20 (.br 14 (.br 21 (.br 22 (.br 23 .leaf .nil) .nil) .nil) .nil) .nil) .nil) .nil) (.br 14 (.br 10 (.br 18 (.br 19 (.br 20 (.br 21 (.br 22 (.br 23 .leaf .nil) .nil) .nil) .nil) .nil) .nil) .nil) .nil)) .nil) .nil) .nil) (.br 10 (.br 6 (.br 15 (.br 16 (.br 17 (.br 18 (.br 19 (.br 20 (.br 14 (.br 21 (.br 22 (.br 23 .leaf .nil) .nil) .nil) .nil) .nil) .nil) .nil) .nil) .nil) .nil) (.br 14 (.br 6 (.br 15 (.br 16 (.br 17 (.br 18 (.br 19 (.br 20 (.br 21 (.br 22 (.br 23 .leaf .nil) .nil) .nil) .nil) .nil) .nil) .nil) .nil) .nil) .nil) .nil)) (.br 14 (.br 6 (.br 15 (.br 16 (.br 17 (.br 10 (.br 18 (.br 19 (.br 20 (.br 21 (.br 22 (.br 23 .leaf .nil) .nil) .nil) .nil) .nil) .nil) .nil) .nil) .nil) .nil) (.br 10 (.br 6 (.br 15 (.br 16 (.br 17 (.br 18 (.br 19 (.br 20 (.br 21 (.br 22 (.br 23 .leaf .nil) .nil) .nil) .nil) .nil) .nil) .nil) .nil) .nil) .nil) .nil)) .nil))) .nil) (.br 14 (.br 6 (.br 15 (.br 16 (.br 8 (.br 9 (.br 17 (.br 10 (.br 18 (.br 19 (.br 20 (.br 21 (.br 22 (.br 23 .leaf .nil) .nil) .nil) .nil) .nil) .nil) .nil) .nil) .nil) (.br 17 (.br 8 (.br 9 (.br 10 (.br 18 (.br 19 (.br 20 (.br 21 (.br 22 (.br 23 .leaf .nil) .nil) .nil) .nil) .nil) .nil) .nil) .nil) .nil) .nil)) .nil) .nil) (.br 8 (.br 9 (.br 6 (.br 15 (.br 16 (.br 17 (.br 10 (.br 18 (.br 19 (.br 20 (.br 21 (.br 22 (.br 23 .leaf .nil) .nil) .nil) .nil) .nil) .nil) .nil) .nil) .nil) .nil) (.br 10 (.br 6 (.br 15 (.br 16 (.br 17 (.br 18 (.br 19 (.br 20 (.br 21 (.br 22 (.br 23 .leaf .nil) .nil) .nil) .nil) .nil) .nil) .nil) .nil) .nil) .nil) .nil)) .nil) .nil)) .nil))) .nil) .nil))) .nil) .nil) .nil) .nil) .nil) .nil) .nil) .nil) (by decide +kernel) (by exact wf_a) (fun K0 hW => ?_)
  refine (fun (tl : ∀ st, Le st (mkSt [(1, .b (.c (.ptr 0 0))), (6, .b (.c (.ptr 1 0)))] [(0, .fix ((scriptE s).map CV.p)), (1, .fix (lookV s)), (2, .arr 3 1 s.ops.length (fun _ _ => PI 0)), (3, .arr 3 1 s.ops.length (fun _ _ => PI 0)), (4, .arr 4 1 s.ops.length (fun _ _ => PB false))] 5) → K0 st) => ?_) (fun st hl => hW st _ hl ?_)
  · clear hW
    repeat' (first | exact tree_nil | (refine tree_br (fun K' hK' => ?_) ?_) | (refine tree_leaf (tl _ ?_); clear tl) | (simp (maxSteps := 1000000) (disch := omega) only [go_sem]; (repeat' (refine And.intro ?_ ?_)); (all_goals first | (refine hK' _ ?_; clear hK' K') | trivial | omega | exact Nat.le_of_ble_eq_true rfl | exact auto_cl | skip)))
    all_goals first | (refine le_of [(1, some 1), (2, some 2), (3, some 3), (4, some 4)] rfl (by decide) rfl ?_ ?_; (all_goals (simp (maxSteps := 1000000) (disch := omega) only [go_sem])); (repeat' (refine And.intro ?_ ?_)); (all_goals first | rfl | omega | exact .inl rfl | trivial | exact .inr (le0 _ _)); done) | (refine le_of [(1, some 1), (2, some 2), (3, some 4), (4, some 3)] rfl (by decide) rfl ?_ ?_; (all_goals (simp (maxSteps := 1000000) (disch := omega) only [go_sem])); (repeat' (refine And.intro ?_ ?_)); (all_goals first | rfl | omega | exact .inl rfl | trivial | exact .inr (le0 _ _)); done) | (refine le_of [(1, some 1), (2, some 3), (3, some 2), (4, some 4)] rfl (by decide) rfl ?_ ?_; (all_goals (simp (maxSteps := 1000000) (disch := omega) only [go_sem])); (repeat' (refine And.intro ?_ ?_)); (all_goals first | rfl | omega | exact .inl rfl | trivial | exact .inr (le0 _ _)); done) | (refine le_of [(1, some 1), (2, some 3), (3, some 4), (4, some 2)] rfl (by decide) rfl ?_ ?_; (all_goals (simp (maxSteps := 1000000) (disch := omega) only [go_sem])); (repeat' (refine And.intro ?_ ?_)); (all_goals first | rfl | omega | exact .inl rfl | trivial | exact .inr (le0 _ _)); done) | (refine le_of [(1, some 1), (2, some 4), (3, some 2), (4, some 3)] rfl (by decide) rfl ?_ ?_; (all_goals (simp (maxSteps := 1000000) (disch := omega) only [go_sem])); (repeat' (refine And.intro ?_ ?_)); (all_goals first | rfl | omega | exact .inl rfl | trivial | exact .inr (le0 _ _)); done) | (refine le_of [(1, some 1), (2, some 4), (3, some 3), (4, some 2)] rfl (by decide) rfl ?_ ?_; (all_goals (simp (maxSteps := 1000000) (disch := omega) only [go_sem])); (repeat' (refine And.intro ?_ ?_)); (all_goals first | rfl | omega | exact .inl rfl | trivial | exact .inr (le0 _ _)); done)
  clear hW
  repeat' (first | with_reducible exact tr_a | refine un_a ?_ | ((first | refine st_a (fun K hK => ?_) | refine rg_a ?_); (repeat' (refine And.intro ?_ ?_)); (all_goals first | (refine hK _ ?_; clear hK K) | exact auto_cl | skip)) | ((first | apply cw_ite | apply cw_iteN); (case hf => rfl); (case hc => exact ev_a); (all_goals first | (intro hb; (try simp only [hbs] at hb)) | skip)) | exact atN_intro | (refine if_a (fun hb => ?_) (fun hb => ?_); (all_goals (try first | with_reducible exact True.intro | (exfalso; omega)))) | refine cw_blocks (fun KB hB => ?_) | (refine hB _ ?_; clear hB KB) | refine exit_by (S := Sg) (by assumption) ?_ | (refine ret_a ?_; (try clear hB KB); (try clear hK K)))
  refine cw_loop (X := Nat) (fun i => mkSt [(1, .b (.c (.ptr 0 0))), (6, .b (.c (.ptr 1 0))), (7, .b (I (topAt s.ops i))), (8, .b (.c (.ptr 5 0))), (62, .b (.c (.p (opL s.ops)))), (63, .b (I s.ops.length)), (64, .b (I i))]
    [(0, .fix ((scriptE s).map CV.p)), (1, .fix (lookV s)), (2, .arr 3 1 s.ops.length (fun a _ => PI (if a < i then grpM s.ops a else 0))), (3, .arr 3 1 s.ops.length (fun a _ => PI (kidsTo s.ops i a))), (4, .arr 4 1 s.ops.length (fun a _ => PB (decide (a < i) && firstM s.ops a))), (5, .fix [.p (PI (kidsTo s.ops i (-1)))])] 6)
    (fun i => i ≤ s.ops.length) (fun i => s.ops.length - i) 0 ?_ ?_ ?_
  · exact Nat.zero_le _
  · refine le_a [(1, some 1), (2, some 2), (3, some 3), (4, some 4), (5, some 5)] ?_ ?_
    repeat' (refine And.intro ?_ ?_)
    all_goals first | exact le_cl | skip
  · intro i hi
    rcases Nat.lt_or_ge i s.ops.length with hlt | hge
    · have hkl := fun g => kidsTo_le s.ops g i
      have hbx2 : ∀ v : Int, v = grpM s.ops i → ∀ a, PI (if a = i then v else if a < i then grpM s.ops a else 0) = PI (if a < i + 1 then grpM s.ops a else 0) := fun v hv a => by rw [grp_step i a, hv]
      rcases W.kinds i hlt with hk | hk | hk
      · have hk2 : (s.ops.getD i default).kind = 1 := hk
        have h3 : (opAt s.ops i).kind ≠ 3 := by omega
        cases hs : stk s.ops i with
        | nil =>
          have ht := topAt_nil hs
          rw [ht]
          repeat' (first | with_reducible exact tr_a | ((first | apply cw_ifT | apply cw_condT); (case hc => exact ev_a); (case ht => (simp only [Int.toNat_natCast, Int.reduceBEq, Int.reduceBNe, Int.reduceLT, Int.reduceLE, decide_true, decide_false, dcs, hk2, Int.reduceGE, Int.reduceNeg]; done))) | ((first | apply cw_ifF | apply cw_condF); (case hc => exact ev_a); (case ht => (simp only [Int.toNat_natCast, Int.reduceBEq, Int.reduceBNe, Int.reduceLT, Int.reduceLE, decide_true, decide_false, dcs, hk2, Int.reduceGE, Int.reduceNeg]; done))) | refine un_a ?_ | ((first | refine st_a (fun K hK => ?_) | refine rg_a ?_); (repeat' (refine And.intro ?_ ?_)); (all_goals first | (refine hK _ ?_; clear hK K) | exact auto_cl | skip)) | ((first | apply cw_ite | apply cw_iteN); (case hf => rfl); (case hc => exact ev_a); (all_goals first | (intro hb; (try simp only [hbs] at hb)) | skip)) | exact atN_intro | (refine if_a (fun hb => ?_) (fun hb => ?_); (all_goals (try first | with_reducible exact True.intro | (exfalso; omega)))) | refine cw_blocks (fun KB hB => ?_) | (refine hB _ ?_; clear hB KB) | refine exit_by (S := Sg) (by assumption) ?_ | (refine ret_a ?_; (try clear hB KB); (try clear hK K)))
          all_goals first | exact Nat.le_of_ble_eq_true rfl | skip
          rw [thenQ_normal]
          refine wk_loop (i + 1) ?_ (by omega) (by omega)
          rw [show topAt s.ops (i + 1) = -1 from topAt_nil (by rw [stk_draw hk]; exact hs)]
          refine le_a [(1, some 1), (2, some 2), (3, some 3), (4, some 4), (5, some 5)] ?_ ?_
          repeat' (refine And.intro ?_ ?_)
          all_goals first | exact le_cl | skip
          · refine .inr fun a ha j hj => ?_
            have hj0 : j = 0 := by omega
            subst hj0
            rw [grp_step i a]
            by_cases e : a = i
            · rw [if_pos e, if_pos e, if_pos ⟨Nat.le_refl 0, Nat.zero_lt_one⟩]; exact pi_le (by rw [grp_no h3, ht])
            · rw [if_neg e, if_neg e]; exact fun _ _ _ h => h
          · refine .inr fun a ha j hj => ?_
            exact pi_le (by rw [kids_no h3, if_neg (by rw [ht]; omega)]; rfl)
          · refine .inr fun a ha j hj => ?_
            have hj0 : j = 0 := by omega
            subst hj0
            rw [first_step i a]
            by_cases e : a = i
            · rw [if_pos e, if_pos e, if_pos ⟨Nat.le_refl 0, Nat.zero_lt_one⟩]; exact pb_le (by rw [first_no h3, ht])
            · rw [if_neg e, if_neg e]; exact fun _ _ _ h => h
          · exact .inr (pi_le (by rw [kidw (by omega), kids_no h3, if_pos ht]; rfl))
        | cons p t =>
          have hp : p < i := stk_lt (ops := s.ops) (by rw [hs]; exact List.mem_cons_self ..)
          have hp0 : decide ((p : Int) ≥ 0) = true := decide_eq_true (by omega)
          have ht := topAt_cons hs
          rw [ht]
          repeat' (first | with_reducible exact tr_a | refine dec_a (And.intro hk2 hp0) ?_ | refine un_a ?_ | ((first | refine st_a (fun K hK => ?_) | refine rg_a ?_); (repeat' (refine And.intro ?_ ?_)); (all_goals first | (refine hK _ ?_; clear hK K) | exact auto_cl | skip)) | ((first | apply cw_ite | apply cw_iteN); (case hf => rfl); (case hc => exact ev_a); (all_goals first | (intro hb; (try simp only [hbs] at hb)) | skip)) | exact atN_intro | (refine if_a (fun hb => ?_) (fun hb => ?_); (all_goals (try first | with_reducible exact True.intro | (exfalso; omega)))) | refine cw_blocks (fun KB hB => ?_) | (refine hB _ ?_; clear hB KB) | refine exit_by (S := Sg) (by assumption) ?_ | (refine ret_a ?_; (try clear hB KB); (try clear hK K)))
          all_goals first | exact Nat.le_of_ble_eq_true rfl | skip
          rw [thenQ_normal]
          refine wk_loop (i + 1) ?_ (by omega) (by omega)
          rw [show topAt s.ops (i + 1) = p from topAt_cons (t := t) (by rw [stk_draw hk]; exact hs)]
          refine le_a [(1, some 1), (2, some 2), (3, some 3), (4, some 4), (5, some 5)] ?_ ?_
          repeat' (refine And.intro ?_ ?_)
          all_goals first | exact le_cl | skip
          · refine .inr fun a ha j hj => ?_
            have hj0 : j = 0 := by omega
            subst hj0
            rw [grp_step i a]
            by_cases e : a = i
            · rw [if_pos e, if_pos e, if_pos ⟨Nat.le_refl 0, Nat.zero_lt_one⟩]; exact pi_le (by rw [grp_no h3, ht])
            · rw [if_neg e, if_neg e]; exact fun _ _ _ h => h
          · refine .inr fun a ha j hj => ?_
            have hj0 : j = 0 := by omega
            subst hj0
            by_cases e : a = p
            · rw [if_pos e, if_pos ⟨Nat.le_refl 0, Nat.zero_lt_one⟩]; exact pi_le (by rw [kidw (by omega), e, kids_no h3, if_pos ht]; rfl)
            · rw [if_neg e]; exact pi_le (by rw [kids_no h3, if_neg (by rw [ht]; omega)]; rfl)
          · refine .inr fun a ha j hj => ?_
            have hj0 : j = 0 := by omega
            subst hj0
            rw [first_step i a]
            by_cases e : a = i
            · rw [if_pos e, if_pos e, if_pos ⟨Nat.le_refl 0, Nat.zero_lt_one⟩]; exact pb_le (by rw [first_no h3, ht])
            · rw [if_neg e, if_neg e]; exact fun _ _ _ h => h
          · exact .inr (pi_le (by rw [kids_no h3, if_neg (by rw [ht]; omega)]; rfl))
      · have hk2 : (s.ops.getD i default).kind = 2 := hk
        have h3 : (opAt s.ops i).kind ≠ 3 := by omega
        cases hs : stk s.ops i with
        | nil =>
          have ht := topAt_nil hs
          rw [ht]
          repeat' (first | with_reducible exact tr_a | ((first | apply cw_ifT | apply cw_condT); (case hc => exact ev_a); (case ht => (simp only [Int.toNat_natCast, Int.reduceBEq, Int.reduceBNe, Int.reduceLT, Int.reduceLE, decide_true, decide_false, dcs, hk2, Int.reduceGE, Int.reduceNeg]; done))) | ((first | apply cw_ifF | apply cw_condF); (case hc => exact ev_a); (case ht => (simp only [Int.toNat_natCast, Int.reduceBEq, Int.reduceBNe, Int.reduceLT, Int.reduceLE, decide_true, decide_false, dcs, hk2, Int.reduceGE, Int.reduceNeg]; done))) | refine un_a ?_ | ((first | refine st_a (fun K hK => ?_) | refine rg_a ?_); (repeat' (refine And.intro ?_ ?_)); (all_goals first | (refine hK _ ?_; clear hK K) | exact auto_cl | skip)) | ((first | apply cw_ite | apply cw_iteN); (case hf => rfl); (case hc => exact ev_a); (all_goals first | (intro hb; (try simp only [hbs] at hb)) | skip)) | exact atN_intro | (refine if_a (fun hb => ?_) (fun hb => ?_); (all_goals (try first | with_reducible exact True.intro | (exfalso; omega)))) | refine cw_blocks (fun KB hB => ?_) | (refine hB _ ?_; clear hB KB) | refine exit_by (S := Sg) (by assumption) ?_ | (refine ret_a ?_; (try clear hB KB); (try clear hK K)))
          all_goals first | exact Nat.le_of_ble_eq_true rfl | skip
          rw [thenQ_normal]
          refine wk_loop (i + 1) ?_ (by omega) (by omega)
          rw [topAt_push hk]
          refine le_a [(1, some 1), (2, some 2), (3, some 3), (4, some 4), (5, some 5)] ?_ ?_
          repeat' (refine And.intro ?_ ?_)
          all_goals first | exact le_cl | skip
          · refine .inr fun a ha j hj => ?_
            have hj0 : j = 0 := by omega
            subst hj0
            rw [grp_step i a]
            by_cases e : a = i
            · rw [if_pos e, if_pos e, if_pos ⟨Nat.le_refl 0, Nat.zero_lt_one⟩]; exact pi_le (by rw [grp_no h3, ht])
            · rw [if_neg e, if_neg e]; exact fun _ _ _ h => h
          · refine .inr fun a ha j hj => ?_
            exact pi_le (by rw [kids_no h3, if_neg (by rw [ht]; omega)]; rfl)
          · refine .inr fun a ha j hj => ?_
            have hj0 : j = 0 := by omega
            subst hj0
            rw [first_step i a]
            by_cases e : a = i
            · rw [if_pos e, if_pos e, if_pos ⟨Nat.le_refl 0, Nat.zero_lt_one⟩]; exact pb_le (by rw [first_no h3, ht])
            · rw [if_neg e, if_neg e]; exact fun _ _ _ h => h
          · exact .inr (pi_le (by rw [kidw (by omega), kids_no h3, if_pos ht]; rfl))
        | cons p t =>
          have hp : p < i := stk_lt (ops := s.ops) (by rw [hs]; exact List.mem_cons_self ..)
          have hp0 : decide ((p : Int) ≥ 0) = true := decide_eq_true (by omega)
          have ht := topAt_cons hs
          rw [ht]
          repeat' (first | with_reducible exact tr_a | refine dec_a (And.intro hk2 hp0) ?_ | refine un_a ?_ | ((first | refine st_a (fun K hK => ?_) | refine rg_a ?_); (repeat' (refine And.intro ?_ ?_)); (all_goals first | (refine hK _ ?_; clear hK K) | exact auto_cl | skip)) | ((first | apply cw_ite | apply cw_iteN); (case hf => rfl); (case hc => exact ev_a); (all_goals first | (intro hb; (try simp only [hbs] at hb)) | skip)) | exact atN_intro | (refine if_a (fun hb => ?_) (fun hb => ?_); (all_goals (try first | with_reducible exact True.intro | (exfalso; omega)))) | refine cw_blocks (fun KB hB => ?_) | (refine hB _ ?_; clear hB KB) | refine exit_by (S := Sg) (by assumption) ?_ | (refine ret_a ?_; (try clear hB KB); (try clear hK K)))
          all_goals first | exact Nat.le_of_ble_eq_true rfl | skip
          rw [thenQ_normal]
          refine wk_loop (i + 1) ?_ (by omega) (by omega)
          rw [topAt_push hk]
          refine le_a [(1, some 1), (2, some 2), (3, some 3), (4, some 4), (5, some 5)] ?_ ?_
          repeat' (refine And.intro ?_ ?_)
          all_goals first | exact le_cl | skip
          · refine .inr fun a ha j hj => ?_
            have hj0 : j = 0 := by omega
            subst hj0
            rw [grp_step i a]
            by_cases e : a = i
            · rw [if_pos e, if_pos e, if_pos ⟨Nat.le_refl 0, Nat.zero_lt_one⟩]; exact pi_le (by rw [grp_no h3, ht])
            · rw [if_neg e, if_neg e]; exact fun _ _ _ h => h
          · refine .inr fun a ha j hj => ?_
            have hj0 : j = 0 := by omega
            subst hj0
            by_cases e : a = p
            · rw [if_pos e, if_pos ⟨Nat.le_refl 0, Nat.zero_lt_one⟩]; exact pi_le (by rw [kidw (by omega), e, kids_no h3, if_pos ht]; rfl)
            · rw [if_neg e]; exact pi_le (by rw [kids_no h3, if_neg (by rw [ht]; omega)]; rfl)
          · refine .inr fun a ha j hj => ?_
            have hj0 : j = 0 := by omega
            subst hj0
            rw [first_step i a]
            by_cases e : a = i
            · rw [if_pos e, if_pos e, if_pos ⟨Nat.le_refl 0, Nat.zero_lt_one⟩]; exact pb_le (by rw [first_no h3, ht])
            · rw [if_neg e, if_neg e]; exact fun _ _ _ h => h
          · exact .inr (pi_le (by rw [kids_no h3, if_neg (by rw [ht]; omega)]; rfl))
      · have hk2 : (s.ops.getD i default).kind = 3 := hk
        cases hs : stk s.ops i with
        | nil => exact absurd hs (W.pops i hlt hk)
        | cons p t =>
          have hp : p < i := stk_lt (ops := s.ops) (by rw [hs]; exact List.mem_cons_self ..)
          rw [topAt_cons hs]
          repeat' (first | with_reducible exact tr_a | refine dec_a hk2 ?_ | refine un_a ?_ | ((first | refine st_a (fun K hK => ?_) | refine rg_a ?_); (repeat' (refine And.intro ?_ ?_)); (all_goals first | (refine hK _ ?_; clear hK K) | exact auto_cl | skip)) | ((first | apply cw_ite | apply cw_iteN); (case hf => rfl); (case hc => exact ev_a); (all_goals first | (intro hb; (try simp only [hbs] at hb)) | skip)) | exact atN_intro | (refine if_a (fun hb => ?_) (fun hb => ?_); (all_goals (try first | with_reducible exact True.intro | (exfalso; omega)))) | refine cw_blocks (fun KB hB => ?_) | (refine hB _ ?_; clear hB KB) | refine exit_by (S := Sg) (by assumption) ?_ | (refine ret_a ?_; (try clear hB KB); (try clear hK K)))
          all_goals first | exact Nat.le_of_ble_eq_true rfl | skip
          rw [thenQ_normal]
          refine wk_loop (i + 1) ?_ (by omega) (by omega)
          rw [topAt_pop hk hs]
          refine le_a [(1, some 1), (2, some 2), (3, some 3), (4, some 4), (5, some 5)] ?_ ?_
          repeat' (refine And.intro ?_ ?_)
          all_goals first | exact le_cl | skip
          · exact .inr (pi_le (if_pos hp))
          · refine .inr fun a ha j hj => ?_
            have hj0 : j = 0 := by omega
            subst hj0
            rw [grp_step i a]
            by_cases e : a = i
            · rw [if_pos e, if_pos e, if_pos ⟨Nat.le_refl 0, Nat.zero_lt_one⟩]; exact pi_le (by rw [if_pos hp, grp_pop hk, topAt_pop hk hs])
            · rw [if_neg e, if_neg e]; exact fun _ _ _ h => h
          · refine .inr fun a ha j hj => ?_
            exact pi_le (by rw [kids_pop hk])
          · refine .inr fun a ha j hj => ?_
            refine pb_le ?_
            rw [first_step i a, first_pop hk]
            by_cases e : a = i
            · rw [if_pos e, decide_eq_false (by omega)]; rfl
            · rw [if_neg e]
          · exact .inr (pi_le (by rw [kids_pop hk]))
    · have hi2 : i = s.ops.length := by omega
      subst hi2
      repeat' (first | with_reducible exact tr_a | refine un_a ?_ | ((first | refine st_a (fun K hK => ?_) | refine rg_a ?_); (repeat' (refine And.intro ?_ ?_)); (all_goals first | (refine hK _ ?_; clear hK K) | exact auto_cl | skip)) | ((first | apply cw_ite | apply cw_iteN); (case hf => rfl); (case hc => exact ev_a); (all_goals first | (intro hb; (try simp only [hbs] at hb)) | skip)) | exact atN_intro | (refine if_a (fun hb => ?_) (fun hb => ?_); (all_goals (try first | with_reducible exact True.intro | (exfalso; omega)))) | refine cw_blocks (fun KB hB => ?_) | (refine hB _ ?_; clear hB KB) | refine exit_by (S := Sg) (by assumption) ?_ | (refine ret_a ?_; (try clear hB KB); (try clear hK K)))
      refine sle_tup ⟨⟨trivial, fun ok w u hu => ?_⟩, ble_rfl trivial, trivial⟩
      refine bvle_iptP (ρ := noRho) (fun j hj => ?_) hu
      have hivl : j = 0 ∨ j = 1 ∨ j = 2 ∨ j = 3 ∨ j = 4 ∨ j = 5 ∨ j = 6 ∨ j = 7 ∨ j = 8 ∨ j = 9 ∨ j = 10 ∨ j = 11 ∨ j = 12 ∨ j = 13 ∨ j = 14 := by omega
      rcases hivl with rfl | rfl | rfl | rfl | rfl | rfl | rfl | rfl | rfl | rfl | rfl | rfl | rfl | rfl | rfl <;> skip
      all_goals first | exact look_fin s 0 (by decide) | exact look_fin s 1 (by decide) | exact look_fin s 2 (by decide) | exact look_fin s 3 (by decide) | exact look_fin s 4 (by decide) | exact look_fin s 5 (by decide) | exact look_fin s 6 (by decide) | exact look_fin s 7 (by decide) | exact look_fin s 8 (by decide) | exact look_fin s 9 (by decide) | exact look_fin s 10 (by decide) | exact look_fin s 11 (by decide) | exact look_fin s 12 (by decide) | exact look_fin s 13 (by decide) | exact look_fin s 14 (by decide) | ((simp (maxSteps := 1000000) (disch := omega) only [go_sem, Nat.le_refl, if_true]); first | exact look_fin s 0 (by decide) | exact look_fin s 1 (by decide) | exact look_fin s 2 (by decide) | exact look_fin s 3 (by decide) | exact look_fin s 4 (by decide) | exact look_fin s 5 (by decide) | exact look_fin s 6 (by decide) | exact look_fin s 7 (by decide) | exact look_fin s 8 (by decide) | exact look_fin s 9 (by decide) | exact look_fin s 10 (by decide) | exact look_fin s 11 (by decide) | exact look_fin s 12 (by decide) | exact look_fin s 13 (by decide) | exact look_fin s 14 (by decide))
end Go.Proofs.YtbpplplnkgmhlaaGreatDoor
