/- Part 5 of the proof: FL, FP, F24, F25, F26. -/
import Derived.Test.YtfjaojlbnjdmgaaDoorM0
import Derived.Test.YtfjaojlbnjdmgaaDoorM1
import Derived.Test.YtfjaojlbnjdmgaaDoorM2
import Derived.Test.YtfjaojlbnjdmgaaDoorM3
import Derived.Test.YtfjaojlbnjdmgaaDoorM4
set_option linter.unusedSimpArgs false
set_option linter.unusedVariables false
set_option maxRecDepth 8000
namespace Go.Proofs.YtfjaojlbnjdmgaaDoor
open Go Go.SL

/-! Every script of the generator is valid. -/
theorem nodup_inj {l : List Int} {i j : Nat} {hi : i < l.length} {hj : j < l.length} (h : l.Nodup) : l[i] = l[j] ↔ i = j := by
  refine ⟨fun e => ?_, fun e => by subst e; rfl⟩
  have hp := List.pairwise_iff_getElem.1 h
  rcases Nat.lt_trichotomy i j with q | q | q
  · exact absurd e (hp i j hi hj q)
  · exact q
  · exact absurd e.symm (hp j i hj hi q)
theorem permGo_ok {l : List Int} : ∀ (k i : Nat) (rest : List Int), rest.length = k → rest.Nodup → (permGo l k i rest).length = k ∧ (permGo l k i rest).Nodup ∧ ∀ v ∈ permGo l k i rest, v ∈ rest
  | 0, i, rest, _, _ => ⟨rfl, List.nodup_nil, fun v hv => by simp [permGo] at hv⟩
  | k + 1, i, rest, hl, hn => by
    have h1 := Int.emod_nonneg (gAt l i) (show (rest.length : Int) ≠ 0 by omega)
    have h2 := Int.emod_lt_of_pos (gAt l i) (show (0 : Int) < rest.length by omega)
    have h3 : (gAt l i % rest.length).toNat < rest.length := by omega
    obtain ⟨a, b, c⟩ := permGo_ok (l := l) k (i + 1) (rest.eraseIdx (gAt l i % rest.length).toNat) (by rw [List.length_eraseIdx, if_pos h3]; omega) (List.Pairwise.sublist (List.eraseIdx_sublist ..) hn)
    have hg : rest.getD (gAt l i % rest.length).toNat 0 = rest[(gAt l i % rest.length).toNat] := by
      rw [List.getD_eq_getElem?_getD, List.getElem?_eq_getElem h3]; rfl
    refine ⟨by simp only [permGo, List.length_cons, a], ?_, fun v hv => ?_⟩
    · simp only [permGo]
      refine List.nodup_cons.2 ⟨fun hm => ?_, b⟩
      have := c _ hm
      rw [List.mem_eraseIdx_iff_getElem] at this
      obtain ⟨j, hj, hne, he⟩ := this
      rw [hg] at he
      exact hne ((nodup_inj hn).1 he)
    · simp only [permGo] at hv
      rcases List.mem_cons.1 hv with rfl | hv
      · rw [hg]; exact List.getElem_mem _
      · exact List.mem_of_mem_eraseIdx (c v hv)
theorem iota_nodup (n : Nat) : (iota n).Nodup := by
  unfold iota
  refine List.Pairwise.map _ (fun a b h => ?_) List.nodup_range
  intro e
  exact h (by omega)
theorem ordAt_ok {x : List Int} {n : Int} {i : Nat} (hi : i < x.length) (hn : x.Nodup) (hm : ∀ v ∈ x, 0 ≤ v ∧ v < n) : ordAt x n i = true := by
  have hg : x.getD i 0 = x[i] := by rw [List.getD_eq_getElem?_getD, List.getElem?_eq_getElem hi]; rfl
  rw [ordAt, hg, decide_eq_true (hm _ (List.getElem_mem hi)), Bool.true_and, Bool.not_eq_true', List.contains_eq_mem, decide_eq_false_iff_not]
  intro h
  obtain ⟨j, hj, he⟩ := List.getElem_of_mem h
  rw [List.getElem_take] at he
  rw [List.length_take] at hj
  have := (nodup_inj hn).1 he
  omega
theorem gPerm_ok {l : List Int} {n : Int} (h0 : 0 ≤ n) (h1 : n ≤ 64) : ordOk (gPerm l n) n = true := by
  have hk : ∀ x : List Int, x.length = n.toNat → x.Nodup → (∀ v ∈ x, v ∈ iota n.toNat) → (List.range n.toNat).all (ordAt x n) = true := fun x hl hn hm => by
    rw [List.all_eq_true]
    intro i hi
    refine ordAt_ok (by rw [hl]; exact List.mem_range.1 hi) hn fun v hv => ?_
    have := hm v hv
    simp only [iota, List.mem_map, List.mem_range] at this
    obtain ⟨a, ha, rfl⟩ := this
    omega
  unfold gPerm
  split
  · rw [ordOk, decide_eq_true ⟨h0, by omega, .inl rfl⟩, Bool.true_and]
    exact hk _ (iota_len _) (iota_nodup _) fun v hv => hv
  · rename_i hc
    obtain ⟨a, b, c⟩ := permGo_ok (l := l) n.toNat 0 (iota n.toNat) (iota_len _) (iota_nodup _)
    rw [ordOk, decide_eq_true ⟨h0, by omega, .inr (by omega)⟩, Bool.true_and]
    by_cases hz : (permGo l n.toNat 0 (iota n.toNat)).length = 0
    · rw [ordL, if_pos hz]
      exact hk _ (iota_len _) (iota_nodup _) fun v hv => hv
    · rw [ordL, if_neg hz]
      exact hk _ a b c

theorem small_empty {c : Rect} (h : Small c) : emptyR c = false := by
  obtain ⟨h1, h2, h3, h4, h5, h6⟩ := h
  unfold emptyR validR
  simp
  omega
theorem gTile_ok (s : Scene) : tilesOk (gCanvas s) (gTileW s) (gTileH s) = true := by
  rw [tilesOk, small_empty (gCanvas_small s)]
  unfold gTileW gTileH gCanvas
  simp only [Bool.not_false, Bool.true_and, decide_eq_true_eq]
  have hw0 : 1 ≤ 1 + s.w % 5 ∧ 1 + s.w % 5 ≤ 5 := by omega
  have hh0 : 1 ≤ 1 + s.h % 4 ∧ 1 + s.h % 4 ≤ 4 := by omega
  have bw := Int.emod_nonneg s.tileW (show 1 + s.w % 5 ≠ 0 by omega)
  have bw2 := Int.emod_lt_of_pos s.tileW (show 0 < 1 + s.w % 5 by omega)
  have bh := Int.emod_nonneg s.tileH (show 1 + s.h % 4 ≠ 0 by omega)
  have bh2 := Int.emod_lt_of_pos s.tileH (show 0 < 1 + s.h % 4 by omega)
  omega
theorem tiles_le (s : Scene) : 0 ≤ tilesX (gCanvas s) (gTileW s) (gTileH s) * tilesY (gCanvas s) (gTileW s) (gTileH s) ∧ tilesX (gCanvas s) (gTileW s) (gTileH s) * tilesY (gCanvas s) (gTileW s) (gTileH s) ≤ 64 := by
  refine ⟨(tiles_wrap _ _ _).2, ?_⟩
  have ht := gTile_ok s
  rw [tilesX, tilesY, if_pos ht, if_pos ht]
  obtain ⟨h1, h2, h3, h4, h5, h6⟩ := gCanvas_small s
  simp only [tilesOk, Bool.and_eq_true, decide_eq_true_eq] at ht
  obtain ⟨_, t1, t2, t3, t4⟩ := ht
  have b1 : 0 ≤ ((gCanvas s).x1 - (gCanvas s).x0 - 1) / gTileW s := Int.ediv_nonneg (by omega) (by omega)
  have b2 : ((gCanvas s).x1 - (gCanvas s).x0 - 1) / gTileW s ≤ (gCanvas s).x1 - (gCanvas s).x0 - 1 := Int.ediv_le_self _ (by omega)
  have c1 : 0 ≤ ((gCanvas s).y1 - (gCanvas s).y0 - 1) / gTileH s := Int.ediv_nonneg (by omega) (by omega)
  have c2 : ((gCanvas s).y1 - (gCanvas s).y0 - 1) / gTileH s ≤ (gCanvas s).y1 - (gCanvas s).y0 - 1 := Int.ediv_le_self _ (by omega)
  have : (((gCanvas s).x1 - (gCanvas s).x0 - 1) / gTileW s + 1) * (((gCanvas s).y1 - (gCanvas s).y0 - 1) / gTileH s + 1) ≤ 5 * 4 := Int.mul_le_mul (by omega) (by omega) (by omega) (by omega)
  omega
theorem gImages_le (s : Scene) : 1 ≤ (gImages s).length ∧ (gImages s).length ≤ 4 := by
  unfold gImages
  split
  · simp
  · have : (gImages0 s).length ≤ 4 := by simp [gImages0]; omega
    omega
/-- The frame of a generated script is fine, whatever its operations, images and order of the same shape. -/
theorem gframe {s : Scene} {t : Script} (hb : t.bits = (gScript s).bits) (hc : t.canvas = gCanvas s) (hw : t.tileW = gTileW s) (hh : t.tileH = gTileH s) (ho : t.order = (gScript s).order) (hi : t.images.length ≤ 64) (hp : t.ops.length ≤ 4096) : frameM t = 0 := by
  have hm := gMax_u s.bits
  have hsm := gCanvas_small s
  have he := small_empty hsm
  have ht := gTile_ok s
  have hl := tiles_le s
  obtain ⟨h1, h2, h3, h4, h5, h6⟩ := hsm
  have ha : ((gCanvas s).x1 - (gCanvas s).x0) * ((gCanvas s).y1 - (gCanvas s).y0) ≤ 5 * 4 := Int.mul_le_mul (by omega) (by omega) (by omega) (by omega)
  have hw2 : withinM 1048576 [(gCanvas s).x0, (gCanvas s).y0] = true := by
    simp [withinM]; omega
  rw [frameM, hb, hc, hw, hh, ho, ht, hw2, he, areaR, he]
  rw [if_neg (by unfold gScript; dsimp only; split <;> omega), if_neg (by simp; omega), if_neg (by simp), if_neg ?_, if_neg (by omega)]
  rw [show (gScript s).order = gPerm s.order _ from rfl, gPerm_ok hl.1 hl.2]
  simp
theorem maxOf_g (s : Scene) : maxOf (gScript s).bits = gMax s.bits := by
  have hm := gMax_u s.bits
  unfold gScript maxOf
  dsimp only
  rcases hm with h | h <;> rw [h] <;> rfl

/-- Every operation is fine in its context. -/
def okAll (b : Int) (n : Nat) : List Op → List Op → Prop
  | [], _ => True
  | o :: r, l => opErr b n o l = 0 ∧ okAll b n r (nextOpen l o)
def openAfter (ops l : List Op) : List Op := ops.foldl nextOpen l
theorem okAll_append {b : Int} {n : Nat} : ∀ {a c l : List Op}, okAll b n (a ++ c) l ↔ okAll b n a l ∧ okAll b n c (openAfter a l)
  | [], c, l => by simp [okAll, openAfter]
  | o :: r, c, l => by
    simp only [List.cons_append, okAll, okAll_append (a := r), and_assoc]
    rfl
theorem openAfter_append {a c l : List Op} : openAfter (a ++ c) l = openAfter c (openAfter a l) := List.foldl_append
theorem opsGo_ok {b : Int} {n : Nat} : ∀ {ops l : List Op} {i : Nat}, okAll b n ops l → openAfter ops l = [] → opsGo b n i ops l = (0, 0)
  | [], l, i, _, h2 => by
    have : l = [] := h2
    subst this
    rfl
  | o :: r, l, i, h1, h2 => by
    rw [opsGo, if_pos h1.1]
    exact opsGo_ok h1.2 h2
theorem pops_ok {b : Int} {n : Nat} : ∀ (k : Nat) (l : List Op), l.length = k → okAll b n (List.replicate k popOp) l ∧ openAfter (List.replicate k popOp) l = []
  | 0, l, hl => ⟨trivial, List.eq_nil_of_length_eq_zero hl⟩
  | k + 1, l, hl => by
    rw [List.replicate_succ]
    have hp := pops_ok (b := b) (n := n) k l.dropLast (by rw [List.length_dropLast]; omega)
    have hn : nextOpen l popOp = l.dropLast := rfl
    refine ⟨⟨?_, by rw [hn]; exact hp.1⟩, ?_⟩
    · rw [opErr, if_neg (by decide), if_neg (by decide), if_neg (fun q => by omega)]; rfl
    · show openAfter _ (nextOpen l popOp) = []
      rw [hn]; exact hp.2
/-- What every generated operation keeps to. -/
structure OpTame (m : Int) (o : Op) : Prop where
  x : -30 ≤ o.x ∧ o.x ≤ 30
  y : -30 ≤ o.y ∧ o.y ≤ 30
  op : 0 ≤ o.opacity ∧ o.opacity ≤ m
  mx : -30 ≤ o.maskX ∧ o.maskX ≤ 30
  my : -30 ≤ o.maskY ∧ o.maskY ≤ 30
theorem gOp_ok {s : Scene} {r : Raw} {l : List Op} (hl : l.length ≤ 9) :
    opErr (gScript s).bits (gImages s).length (gOp r (decide (r.kind % 8 < 3)) (gImages s).length (gCanvas s).x0 (gCanvas s).y0 (ctxOk l) (gMax s.bits)) l = 0 ∧
    OpTame (gMax s.bits) (gOp r (decide (r.kind % 8 < 3)) (gImages s).length (gCanvas s).x0 (gCanvas s).y0 (ctxOk l) (gMax s.bits)) := by
  have hi := gImages_le s
  have hm := gMax_u s.bits
  obtain ⟨h1, h2, h3, h4, h5, h6⟩ := gCanvas_small s
  have q1 := gOffset_le r.x (gCanvas s).x0
  have q2 := gOffset_le r.y (gCanvas s).y0
  have q3 := gOffset_le r.maskX (gCanvas s).x0
  have q4 := gOffset_le r.maskY (gCanvas s).y0
  have q5 := gSample_le (r.opacity.tdiv 2) (gMax s.bits) (by omega)
  have q6 := Int.emod_nonneg (r.mask.tdiv 4) (show ((gImages s).length : Int) ≠ 0 by omega)
  have q7 := Int.emod_lt_of_pos (r.mask.tdiv 4) (show (0 : Int) < (gImages s).length by omega)
  have q8 := Int.emod_nonneg r.image (show ((gImages s).length : Int) ≠ 0 by omega)
  have q9 := Int.emod_lt_of_pos r.image (show (0 : Int) < (gImages s).length by omega)
  generalize hc : ctxOk l = free
  have hmx := maxOf_g s
  constructor
  · rw [opErr, hmx]
    by_cases hp : r.kind % 8 < 3
    · rw [decide_eq_true hp]
      rw [if_neg (by simp [gOp]), if_neg ?qa, if_neg (by simp [gOp]), if_neg (by simp [gOp]), if_neg ?qb, if_neg ?qc, if_neg ?qd, if_neg ?qe, if_neg ?qf, if_neg ?qg, if_neg (by omega)]
      case qa =>
        simp only [gOp, fieldsM]
        by_cases hk : r.mask % 4 = 0
        · simp [hk]; omega
        · simp [hk]
      case qb =>
        simp only [gOp]
        by_cases hk : r.mask % 4 = 0
        · simp [hk]; omega
        · simp [hk]
      case qc =>
        simp only [gOp, withinM]
        by_cases hk : r.mask % 4 = 0
        · simp [hk]; omega
        · simp [hk]
      case qd =>
        simp only [gOp]
        split <;> omega
      case qe =>
        simp only [gOp, isOp]
        split <;> simp <;> omega
      case qf =>
        simp only [gOp, isOp]
        split <;> simp <;> omega
      case qg =>
        simp only [gOp, hc]
        intro q
        rw [q.2] at q
        simp at q
    · rw [decide_eq_false hp]
      rw [if_neg (by simp [gOp]), if_neg ?qa, if_neg (by simp [gOp]), if_neg (by simp [gOp]), if_neg ?qb, if_neg ?qc, if_neg ?qd, if_neg ?qe, if_neg ?qf, if_neg ?qg, if_neg (by simp [gOp])]
      case qa =>
        simp only [gOp, fieldsM]
        by_cases hk : r.mask % 4 = 0
        · simp [hk]; omega
        · simp [hk]
      case qb =>
        simp only [gOp]
        by_cases hk : r.mask % 4 = 0
        · simp [hk]; omega
        · simp [hk]; omega
      case qc =>
        simp only [gOp, withinM]
        by_cases hk : r.mask % 4 = 0
        · simp [hk]; omega
        · simp [hk]; omega
      case qd =>
        simp only [gOp]
        split <;> omega
      case qe =>
        simp only [gOp, isOp]
        split <;> simp <;> omega
      case qf =>
        simp only [gOp, isOp]
        split <;> simp <;> omega
      case qg =>
        simp only [gOp, hc]
        intro q
        rw [q.2] at q
        simp at q
  · refine ⟨?_, ?_, ?_, ?_, ?_⟩ <;> simp only [gOp] <;> (repeat' split) <;> omega
/-- Along the generator's loop. -/
structure GInv (s : Scene) (k : Nat) (st : List Op × List Op) : Prop where
  ok : okAll (gScript s).bits (gImages s).length st.1 []
  op : openAfter st.1 [] = st.2
  l1 : st.1.length ≤ k
  l2 : st.2.length ≤ k
  tame : ∀ o ∈ st.1, OpTame (gMax s.bits) o
theorem popTame {m : Int} (h : 0 ≤ m) : OpTame m popOp := ⟨by decide, by decide, ⟨by decide, h⟩, by decide, by decide⟩
theorem gInv_step {s : Scene} {k : Nat} {st : List Op × List Op} {r : Raw} (h : GInv s k st) (hk : k ≤ 9) : GInv s (k + 1) (gStep (gImages s).length (gCanvas s) (gMax s.bits) st r) := by
  obtain ⟨h1, h2, h3, h4, h5⟩ := h
  have hm := gMax_u s.bits
  unfold gStep
  split
  · rename_i hc
    refine ⟨okAll_append.2 ⟨h1, ?_, trivial⟩, ?_, by simp; omega, by rw [List.length_dropLast]; omega, fun o ho => ?_⟩
    · rw [h2, opErr, if_neg (by decide), if_neg (by decide), if_neg (fun q => by omega)]; rfl
    · rw [openAfter_append, h2]; rfl
    · rcases List.mem_append.1 ho with ho | ho
      · exact h5 o ho
      · rw [List.mem_singleton.1 ho]; exact popTame (by omega)
  · have hg := gOp_ok (s := s) (r := r) (l := st.2) (by omega)
    refine ⟨okAll_append.2 ⟨h1, by rw [h2]; exact hg.1, trivial⟩, ?_, by simp; omega, ?_, fun o ho => ?_⟩
    · rw [openAfter_append, h2]
      show nextOpen st.2 _ = _
      by_cases hp : r.kind % 8 < 3
      · rw [if_pos hp, nextOpen, if_pos (by simp [gOp, hp])]
      · rw [if_neg hp, nextOpen, if_neg (by simp [gOp, hp]), if_neg (by simp [gOp, hp])]
    · dsimp only
      split
      · simp; omega
      · omega
    · rcases List.mem_append.1 ho with ho | ho
      · exact h5 o ho
      · rw [List.mem_singleton.1 ho]; exact hg.2
theorem gInv_fold {s : Scene} : ∀ (l : List Raw) (k : Nat) (st : List Op × List Op), GInv s k st → k + l.length ≤ 9 → GInv s (k + l.length) (l.foldl (gStep (gImages s).length (gCanvas s) (gMax s.bits)) st)
  | [], k, st, h, _ => h
  | r :: l, k, st, h, hk => by
    rw [List.length_cons] at hk ⊢
    have := gInv_fold l (k + 1) _ (gInv_step (r := r) h (by omega)) (by omega)
    rw [show k + (l.length + 1) = k + 1 + l.length by omega]
    exact this
theorem gInv_ops (s : Scene) : GInv s 9 (gOps s) := by
  have h := gInv_fold (s := s) (s.ops.take 9) 0 ([], []) ⟨trivial, rfl, Nat.le_refl _, Nat.le_refl _, fun o ho => by simp at ho⟩ (by rw [List.length_take]; omega)
  have hl : 0 + (s.ops.take 9).length ≤ 9 := by rw [List.length_take]; omega
  exact ⟨h.1, h.2, Nat.le_trans h.3 hl, Nat.le_trans h.4 hl, h.5⟩
structure GGood (s : Scene) (ops : List Op) : Prop where
  ok : okAll (gScript s).bits (gImages s).length ops []
  op : openAfter ops [] = []
  len : ops.length ≤ 18
  tame : ∀ o ∈ ops, OpTame (gMax s.bits) o
theorem gScript_good (s : Scene) : GGood s (gScript s).ops := by
  obtain ⟨h1, h2, h3, h4, h5⟩ := gInv_ops s
  have hm := gMax_u s.bits
  have hp := pops_ok (b := (gScript s).bits) (n := (gImages s).length) (gOps s).2.length (gOps s).2 rfl
  refine ⟨okAll_append.2 ⟨h1, by rw [h2]; exact hp.1⟩, ?_, ?_, fun o ho => ?_⟩
  · show openAfter ((gOps s).1 ++ _) [] = []
    rw [openAfter_append, h2]; exact hp.2
  · show ((gOps s).1 ++ _).length ≤ 18
    rw [List.length_append, List.length_replicate]; omega
  · rcases List.mem_append.1 ho with ho | ho
    · exact h5 o ho
    · rw [(List.mem_replicate.1 ho).2]; exact popTame (by omega)
end Go.Proofs.YtfjaojlbnjdmgaaDoor

set_option linter.unusedSimpArgs false
set_option linter.unusedVariables false
set_option maxRecDepth 8000
namespace Go.Proofs.YtfjaojlbnjdmgaaDoor
open Go Go.SL

theorem opErr_zero {b : Int} {n : Nat} {o : Op} {l : List Op} : opErr b n o l = 0 ↔ (1 ≤ o.kind ∧ o.kind ≤ 3) ∧ fieldsM o = true ∧ (o.kind = 3 → 0 < l.length) ∧
    (o.kind ≠ 3 → ¬ (o.kind = 1 ∧ (o.image < 0 ∨ n ≤ o.image) ∨ o.mask < 0 ∨ n < o.mask) ∧ withinM 1048576 [o.x, o.y, o.maskX, o.maskY] = true ∧ o.opacity ≤ maxOf b ∧ isOp o.operator = true ∧ isOp o.mode = true ∧ (o.operator ≠ 4 → ctxOk l = true) ∧ (o.kind = 2 → l.length < 64)) := by
  unfold opErr
  by_cases h1 : ¬ (1 ≤ o.kind ∧ o.kind ≤ 3)
  · rw [if_pos h1]; exact ⟨fun h => by omega, fun h => absurd h.1 h1⟩
  rw [if_neg h1]
  rw [Decidable.not_not] at h1
  by_cases h2 : fieldsM o = false
  · rw [if_pos h2]; exact ⟨fun h => by omega, fun h => by rw [h2] at h; simp at h⟩
  rw [if_neg h2]
  rw [Bool.not_eq_false] at h2
  by_cases h3 : o.kind = 3
  · by_cases h4 : l.length = 0
    · rw [if_pos ⟨h3, h4⟩]; exact ⟨fun h => by omega, fun h => by have := h.2.2.1 h3; omega⟩
    · rw [if_neg (fun q => h4 q.2), if_pos h3]; exact ⟨fun _ => ⟨h1, h2, fun _ => by omega, fun q => absurd h3 q⟩, fun _ => rfl⟩
  rw [if_neg (fun q => h3 q.1), if_neg h3]
  by_cases h5 : o.kind = 1 ∧ (o.image < 0 ∨ n ≤ o.image) ∨ o.mask < 0 ∨ n < o.mask
  · rw [if_pos h5]; exact ⟨fun h => by omega, fun h => absurd h5 (h.2.2.2 h3).1⟩
  rw [if_neg h5]
  by_cases h6 : withinM 1048576 [o.x, o.y, o.maskX, o.maskY] = false
  · rw [if_pos h6]; exact ⟨fun h => by omega, fun h => by have := (h.2.2.2 h3).2.1; rw [h6] at this; cases this⟩
  rw [if_neg h6]
  rw [Bool.not_eq_false] at h6
  by_cases h7 : maxOf b < o.opacity
  · rw [if_pos h7]; exact ⟨fun h => by omega, fun h => by have := (h.2.2.2 h3).2.2.1; omega⟩
  rw [if_neg h7]
  by_cases h8 : isOp o.operator = false
  · rw [if_pos h8]; exact ⟨fun h => by omega, fun h => by have := (h.2.2.2 h3).2.2.2.1; rw [h8] at this; cases this⟩
  rw [if_neg h8]
  rw [Bool.not_eq_false] at h8
  by_cases h9 : isOp o.mode = false
  · rw [if_pos h9]; exact ⟨fun h => by omega, fun h => by have := (h.2.2.2 h3).2.2.2.2.1; rw [h9] at this; cases this⟩
  rw [if_neg h9]
  rw [Bool.not_eq_false] at h9
  by_cases h10 : o.operator ≠ 4 ∧ ctxOk l = false
  · rw [if_pos h10]; exact ⟨fun h => by omega, fun h => by have := (h.2.2.2 h3).2.2.2.2.2.1 h10.1; rw [h10.2] at this; cases this⟩
  rw [if_neg h10]
  by_cases h11 : o.kind = 2 ∧ 64 ≤ l.length
  · rw [if_pos h11]; exact ⟨fun h => by omega, fun h => by have := (h.2.2.2 h3).2.2.2.2.2.2 h11.1; omega⟩
  rw [if_neg h11]
  exact ⟨fun _ => ⟨h1, h2, fun q => absurd q h3, fun _ => ⟨h5, h6, by omega, h8, h9, fun q => by
    cases hc : ctxOk l with
    | true => rfl
    | false => exact absurd ⟨q, hc⟩ h10, fun q => by
      rcases Nat.lt_or_ge l.length 64 with h | h
      · exact h
      · exact absurd ⟨q, h⟩ h11⟩⟩, fun _ => rfl⟩

/-- A change of operations that leaves the groups as they are. -/
structure Same (f : Op → Op) : Prop where
  kind : ∀ o, (f o).kind = o.kind
  iso : ∀ o, (f o).isolated = o.isolated
  kno : ∀ o, (f o).knockout = o.knockout
theorem ctxOk_map {f : Op → Op} (hf : Same f) (l : List Op) : ctxOk (l.map f) = ctxOk l := by
  by_cases h : l = []
  · subst h; rfl
  have hl : l.length - 1 < l.length := by
    have : 0 < l.length := List.length_pos_iff.2 h
    omega
  have e : (l.map f).getD ((l.map f).length - 1) default = f (l.getD (l.length - 1) default) := by
    rw [List.length_map, List.getD_eq_getElem?_getD, List.getD_eq_getElem?_getD, List.getElem?_map, List.getElem?_eq_getElem hl]
    rfl
  have e2 : (l.map f).isEmpty = l.isEmpty := by cases l <;> rfl
  rw [ctxOk, ctxOk, e, hf.iso, hf.kno, e2]
theorem nextOpen_map {f : Op → Op} (hf : Same f) (l : List Op) (o : Op) : nextOpen (l.map f) (f o) = (nextOpen l o).map f := by
  unfold nextOpen
  rw [hf.kind]
  split
  · simp
  split
  · rw [List.map_dropLast]
  · rfl
theorem openAfter_map {f : Op → Op} (hf : Same f) : ∀ (ops l : List Op), openAfter (ops.map f) (l.map f) = (openAfter ops l).map f
  | [], l => rfl
  | o :: r, l => by
    show openAfter (r.map f) (nextOpen (l.map f) (f o)) = (openAfter r (nextOpen l o)).map f
    rw [nextOpen_map hf, openAfter_map hf r]
theorem okAll_map {b : Int} {n n' : Nat} {f : Op → Op} (hf : Same f) : ∀ (ops l : List Op), (∀ o ∈ ops, ∀ l : List Op, opErr b n o l = 0 → opErr b n' (f o) (l.map f) = 0) → okAll b n ops l → okAll b n' (ops.map f) (l.map f)
  | [], l, _, _ => trivial
  | o :: r, l, he, h => by
    refine ⟨he o (List.mem_cons_self ..) l h.1, ?_⟩
    rw [nextOpen_map hf]
    exact okAll_map hf r _ (fun o ho => he o (List.mem_cons_of_mem _ ho)) h.2
theorem smooth_same : Same smoothO := ⟨fun o => by unfold smoothO; split <;> rfl, fun o => by unfold smoothO; split <;> rfl, fun o => by unfold smoothO; split <;> rfl⟩
theorem smooth_err {b : Int} {n : Nat} {o : Op} {l : List Op} (h : opErr b n o l = 0) : opErr b n (smoothO o) (l.map smoothO) = 0 := by
  have hc := ctxOk_map smooth_same l
  rw [opErr_zero] at h ⊢
  rw [hc, List.length_map]
  unfold smoothO
  split
  · rename_i hm
    obtain ⟨h1, h2, h3, h4⟩ := h
    have hk : o.kind ≠ 3 := fun e => by
      simp only [fieldsM, if_pos e, decide_eq_true_eq] at h2
      omega
    obtain ⟨q1, q2, q3, q4, q5, q6, q7⟩ := h4 hk
    refine ⟨h1, ?_, h3, fun _ => ⟨q1, q2, q3, q4, rfl, q6, q7⟩⟩
    simp only [fieldsM, if_neg hk] at h2 ⊢
    exact h2
  · exact h

theorem opsM_ok {t : Script} (hf : frameM t = 0) (hk : okAll t.bits t.images.length t.ops []) (ho : openAfter t.ops [] = []) : opsM t = (0, 0) := by
  rw [opsM, if_pos hf]
  exact opsGo_ok hk ho
theorem smooth_good {s : Scene} {ops : List Op} (h : GGood s ops) : GGood s (ops.map smoothO) := by
  obtain ⟨h1, h2, h3, h4⟩ := h
  refine ⟨okAll_map smooth_same ops [] (fun o _ l h => smooth_err h) h1, ?_, by rw [List.length_map]; exact h3, fun o ho => ?_⟩
  · have := openAfter_map smooth_same ops []
    rw [h2] at this
    exact this
  · obtain ⟨o', ho', rfl⟩ := List.mem_map.1 ho
    obtain ⟨a1, a2, a3, a4, a5⟩ := h4 o' ho'
    unfold smoothO
    split <;> exact ⟨a1, a2, a3, a4, a5⟩
theorem smooth_burns (ops : List Op) : burnsM (ops.map smoothO) = false := by
  rw [burnsM, List.any_eq_false]
  intro o ho
  obtain ⟨o', _, rfl⟩ := List.mem_map.1 ho
  simp only [decide_eq_true_eq]
  unfold smoothO
  split
  · simp
  · assumption
/-- A valid script without dodge and burn has a bound. -/
theorem errorM_ok {t : Script} (h : opsM t = (0, 0)) (hb : burnsM t.ops = false) : errorM t = (boundN t.bits t.ops, 0) := by
  rw [errorM, h, if_pos rfl, hb, if_neg (by simp)]
theorem smooth_error (s : Scene) : errorM (smoothM (gScript s)) = (boundN (gScript s).bits ((gScript s).ops.map smoothO), 0) := by
  have hg := smooth_good (gScript_good s)
  have hi := gImages_le s
  refine errorM_ok (opsM_ok (gframe rfl rfl rfl rfl rfl ?_ ?_) hg.ok hg.op) (smooth_burns _)
  · show (gImages s).length ≤ 64; omega
  · have := hg.len; exact Nat.le_trans this (by decide)
end Go.Proofs.YtfjaojlbnjdmgaaDoor

set_option linter.unusedSimpArgs false
set_option linter.unusedVariables false
set_option maxRecDepth 8000
set_option maxHeartbeats 8000000
namespace Go.Proofs.YtfjaojlbnjdmgaaDoor
open Go Go.SL
open Go.RowKit (wrap64)

theorem arr_push_junk {l jk : List Op} {x : Op} {g : Nat → Nat → PV} (hg : ∀ j, j < 12 → g 0 j = (opE x).getD j .any) :
    ∀ i, i < l.length + 1 → ∀ j, j < 12 → PV.le (appF l.length (fnOf opE (l ++ jk)) g i j) (fnOf opE (l ++ [x]) i j) := fun i hi j hj => by
  have := arr_push (enc := opE) (xs := l) (x := x) (s := 12) (g := g) hg i hi j hj
  unfold appF at this ⊢
  by_cases h : i < l.length
  · rw [if_pos h] at this ⊢
    have e : (l ++ jk).getD i default = l.getD i default := by
      rw [List.getD_eq_getElem?_getD, List.getD_eq_getElem?_getD, List.getElem?_append_left h]
    unfold fnOf at this ⊢
    rw [e]; exact this
  · rw [if_neg h] at this ⊢
    exact this
theorem gscript_spec (s : Scene) (hs : SceneOk s) : Pure Sg 12 [ag (sceneE s)] (fun r => r = .b (ag (scriptE (gScript s)))) := by
  obtain ⟨hb, ⟨x1, x2⟩, ⟨y1, y2⟩, ⟨w1, w2⟩, ⟨v1, v2⟩, ⟨t1, t2⟩, ⟨u1, u2⟩, ho, hp, hop, hpic, hraw⟩ := hs
  have hm := gMax_u s.bits
  have hsm := gCanvas_small s
  have htw := tiles_wrap (gCanvas s) (gTileW s) (gTileH s)
  have hw0 : 1 ≤ 1 + s.w % 5 ∧ 1 + s.w % 5 ≤ 5 := by omega
  have hh0 : 1 ≤ 1 + s.h % 4 ∧ 1 + s.h % 4 ≤ 4 := by omega
  have ew : s.tileW % (1 + s.w % 5) = gTileW s - 1 := by unfold gTileW; omega
  have eh : s.tileH % (1 + s.h % 4) = gTileH s - 1 := by unfold gTileH; omega
  have bw := Int.emod_nonneg s.tileW (show 1 + s.w % 5 ≠ 0 by omega)
  have bw2 := Int.emod_lt_of_pos s.tileW (show 0 < 1 + s.w % 5 by omega)
  have bh := Int.emod_nonneg s.tileH (show 1 + s.h % 4 ≠ 0 by omega)
  have bh2 := Int.emod_lt_of_pos s.tileH (show 0 < 1 + s.h % 4 by omega)
  have hmx : Pure Sg 22 [I s.bits] (fun r => r = .b (U (gMax s.bits))) := max_spec _
  refine pure_le ?_
  refine pure_of Tryd.func12 rfl (rs := [.cell 2 40]) rfl rfl mixed (by decide +kernel) (Nat.le_of_ble_eq_true rfl) (argsLt_mem (by simp (maxSteps := 1000000) (disch := omega) only [go_sem, ↓reduceIte, Nat.reduceEqDiff, Nat.reduceAdd, Nat.reduceMul, Nat.reduceSub, Nat.reduceMod, Nat.reduceLeDiff, Nat.reduceLT, Nat.reduceBEq, reduceCtorEq, Int.reduceLT, Int.reduceLE, Int.reduceToNat, Int.reduceEq, Int.reduceAdd])) ?_
  repeat' (first | refine cw_assoc ?_ | refine cw_skips ?_ | refine cw_labels ?_ | ((first | (with_reducible refine cw_stepV (id := 10) (fun K hW => ?_)) | refine cw_step (fun K hK => ?_) | refine cw_last (fun K hK => ?_) | refine cw_stepD (by decide +kernel) (by decide +kernel) (fun K hK => ?_) | refine cw_lastD (by decide +kernel) (by decide +kernel) (fun K hK => ?_) | refine rgB_some ?_ | refine call_a (hmx) ?_ | refine gcall_a (fun hg => hmx) ?_ | refine call_a (modp_spec _ _ (by omega) (by omega)) ?_ | refine gcall_a (fun hg => modp_spec _ _ (by omega) (by omega)) ?_ | refine call_a (tiles_spec ⟨_, _, _, _⟩ _ _) ?_ | refine gcall_a (fun hg => tiles_spec ⟨_, _, _, _⟩ _ _) ?_); (try simp (maxSteps := 1000000) (disch := omega) only [go_sem, ↓reduceIte, Nat.reduceEqDiff, Nat.reduceAdd, Nat.reduceMul, Nat.reduceSub, Nat.reduceMod, Nat.reduceLeDiff, Nat.reduceLT, Nat.reduceBEq, reduceCtorEq, Int.reduceLT, Int.reduceLE, Int.reduceToNat, Int.reduceEq, Int.reduceAdd]); (repeat' (refine And.intro ?_ ?_)); (all_goals first | (refine hK _ ?_; clear hK K) | exact auto_cl | skip)) | ((first | apply cw_ite | apply cw_iteN); (case hf => rfl); (case hc => simp (maxSteps := 1000000) (disch := omega) only [go_sem, ↓reduceIte, Nat.reduceEqDiff, Nat.reduceAdd, Nat.reduceMul, Nat.reduceSub, Nat.reduceMod, Nat.reduceLeDiff, Nat.reduceLT, Nat.reduceBEq, reduceCtorEq, Int.reduceLT, Int.reduceLE, Int.reduceToNat, Int.reduceEq, Int.reduceAdd]; rfl); (all_goals first | (intro hb; (try simp only [decide_eq_true_eq, decide_eq_false_iff_not, beq_iff_eq, beq_eq_false_iff_ne, bne_iff_ne, bne_eq_false_iff_eq, ne_eq, Bool.not_eq_true, Bool.not_eq_false, Bool.not_true, Bool.not_false, Bool.not_eq_eq_eq_not, Int.not_lt, Int.not_le, gt_iff_lt, ge_iff_le, Bool.cond_eq_ite, Bool.if_false_right, Bool.if_true_left, Bool.and_eq_true, Bool.or_eq_true, Bool.and_eq_false_imp, Bool.or_eq_false_iff, Decidable.not_not, beq_true, beq_false, iteT, iteF, cond_true, cond_false] at hb)) | skip)) | exact atN_intro | ((first | apply cw_if | apply cw_cond); (case hc => simp (maxSteps := 1000000) (disch := omega) only [go_sem, ↓reduceIte, Nat.reduceEqDiff, Nat.reduceAdd, Nat.reduceMul, Nat.reduceSub, Nat.reduceMod, Nat.reduceLeDiff, Nat.reduceLT, Nat.reduceBEq, reduceCtorEq, Int.reduceLT, Int.reduceLE, Int.reduceToNat, Int.reduceEq, Int.reduceAdd]; rfl); (all_goals (intro hb; (try simp only [decide_eq_true_eq, decide_eq_false_iff_not, beq_iff_eq, beq_eq_false_iff_ne, bne_iff_ne, bne_eq_false_iff_eq, ne_eq, Bool.not_eq_true, Bool.not_eq_false, Bool.not_true, Bool.not_false, Bool.not_eq_eq_eq_not, Int.not_lt, Int.not_le, gt_iff_lt, ge_iff_le, Bool.cond_eq_ite, Bool.if_false_right, Bool.if_true_left, Bool.and_eq_true, Bool.or_eq_true, Bool.and_eq_false_imp, Bool.or_eq_false_iff, Decidable.not_not, beq_true, beq_false, iteT, iteF, cond_true, cond_false] at hb); try (exfalso; omega)))) | (refine cw_blocks (fun KB hB => ?_)) | (refine cw_block ?_) | ((first | refine cw_exits ?_ | refine cw_exit ?_ | refine cw_skip ?_); simp (maxSteps := 1000000) (disch := omega) only [go_sem, ↓reduceIte, Nat.reduceEqDiff, Nat.reduceAdd, Nat.reduceMul, Nat.reduceSub, Nat.reduceMod, Nat.reduceLeDiff, Nat.reduceLT, Nat.reduceBEq, reduceCtorEq, Int.reduceLT, Int.reduceLE, Int.reduceToNat, Int.reduceEq, Int.reduceAdd]) | (refine hB _ ?_; clear hB KB) | (refine exit_by (S := Sg) (by assumption) ?_) | ((first | refine cw_rets ?_ | refine cw_ret ?_); simp (maxSteps := 1000000) (disch := omega) only [go_sem, ↓reduceIte, Nat.reduceEqDiff, Nat.reduceAdd, Nat.reduceMul, Nat.reduceSub, Nat.reduceMod, Nat.reduceLeDiff, Nat.reduceLT, Nat.reduceBEq, reduceCtorEq, Int.reduceLT, Int.reduceLE, Int.reduceToNat, Int.reduceEq, Int.reduceAdd]; (try clear hB KB); (try clear hK K)))
  refine call_as ?_ ?_ (by simp (maxSteps := 1000000) (disch := omega) only [go_sem, ↓reduceIte, Nat.reduceEqDiff, Nat.reduceAdd, Nat.reduceMul, Nat.reduceSub, Nat.reduceMod, Nat.reduceLeDiff, Nat.reduceLT, Nat.reduceBEq, reduceCtorEq, Int.reduceLT, Int.reduceLE, Int.reduceToNat, Int.reduceEq, Int.reduceAdd]) (permutation_spec s.order (tilesX (gCanvas s) (gTileW s) (gTileH s) * tilesY (gCanvas s) (gTileW s) (gTileH s)) ho htw.2)
  try simp (maxSteps := 1000000) (disch := omega) only [go_sem, ↓reduceIte, Nat.reduceEqDiff, Nat.reduceAdd, Nat.reduceMul, Nat.reduceSub, Nat.reduceMod, Nat.reduceLeDiff, Nat.reduceLT, Nat.reduceBEq, reduceCtorEq, Int.reduceLT, Int.reduceLE, Int.reduceToNat, Int.reduceEq, Int.reduceAdd]
  try (refine hK _ ?_; clear hK K)
  rotate_left
  · rw [← htw.1]
    have e1 : 1 + s.tileW % (1 + s.w % 5) = gTileW s := rfl
    have e2 : 1 + s.tileH % (1 + s.h % 4) = gTileH s := rfl
    simp only [e1, e2]
    rfl
  refine hW _ (mkSt [(1, .b (.c (.ptr 0 0))), (2, .b (.c (.ptr 1 0))), (3, .b (U (gMax s.bits))), (4, .b (.c (.ptr 2 0))), (7, .b (I (1 + s.w % 5))), (8, .b (I (1 + s.h % 4)))]
    [(0, .fix ((sceneE s).map CV.p)), (1, .fix ((List.range 10).map fun _ => CV.p .any)), (2, .fix [.p (PI (gScript s).bits), .p (PI (gCanvas s).x0), .p (PI (gCanvas s).y0), .p (PI (gCanvas s).x1), .p (PI (gCanvas s).y1), .p (PI (gTileW s)), .p (PI (gTileH s)), .p (ints (gScript s).order), .p Nil, .p Nil])] 3) ?_ ?_
  · clear hW
    refine le_of [(1, some 1), (2, some 2)] rfl (by decide) rfl ?_ ?_
    all_goals simp (maxSteps := 1000000) (disch := omega) only [go_sem, ↓reduceIte, Nat.reduceEqDiff, Nat.reduceAdd, Nat.reduceMul, Nat.reduceSub, Nat.reduceMod, Nat.reduceLeDiff, Nat.reduceLT, Nat.reduceBEq, reduceCtorEq, Int.reduceLT, Int.reduceLE, Int.reduceToNat, Int.reduceEq, Int.reduceAdd]
    repeat' (refine And.intro ?_ ?_)
    all_goals first | rfl | omega | exact .inl rfl | trivial | skip
  clear hW
  refine cw_assoc ?_
  refine cw_step fun K hK => ?_
  simp (maxSteps := 1000000) (disch := omega) only [go_sem, ↓reduceIte, Nat.reduceEqDiff, Nat.reduceAdd, Nat.reduceMul, Nat.reduceSub, Nat.reduceMod, Nat.reduceLeDiff, Nat.reduceLT, Nat.reduceBEq, reduceCtorEq, Int.reduceLT, Int.reduceLE, Int.reduceToNat, Int.reduceEq, Int.reduceAdd]
  repeat' (refine And.intro ?_ ?_)
  all_goals first | (refine hK _ ?_; clear hK K) | exact auto_cl | skip
  refine cw_blocksV fun KB hV => ?_
  refine cw_loop (X := Nat) (fun i => mkSt [(1, .b (.c (.ptr 0 0))), (2, .b (.c (.ptr 1 0))), (3, .b (U (gMax s.bits))), (4, .b (.c (.ptr 2 0))), (7, .b (I (1 + s.w % 5))), (8, .b (I (1 + s.h % 4))), (12, .b (I i))]
    [(0, .fix ((sceneE s).map CV.p)), (1, .fix ((List.range 10).map fun _ => CV.p .any)), (2, .fix [.p (PI (gScript s).bits), .p (PI (gCanvas s).x0), .p (PI (gCanvas s).y0), .p (PI (gCanvas s).x1), .p (PI (gCanvas s).y1), .p (PI (gTileW s)), .p (PI (gTileH s)), .p (ints (gScript s).order), .own 3 i, .p Nil]),
     (3, .arr 58 28 i (fnOf imageE ((gImages0 s).take i)))] 4) (fun i => i ≤ s.pics.length ∧ i ≤ 4) (fun i => 4 - i) 0 ?_ ?_ ?_
  · omega
  · refine le_of [(1, some 1), (2, some 2), (3, none)] rfl (by decide) rfl ?_ ?_
    all_goals simp (maxSteps := 1000000) (disch := omega) only [go_sem, ↓reduceIte, Nat.reduceEqDiff, Nat.reduceAdd, Nat.reduceMul, Nat.reduceSub, Nat.reduceMod, Nat.reduceLeDiff, Nat.reduceLT, Nat.reduceBEq, reduceCtorEq, Int.reduceLT, Int.reduceLE, Int.reduceToNat, Int.reduceEq, Int.reduceAdd]
    repeat' (refine And.intro ?_ ?_)
    all_goals first | rfl | omega | exact .inl rfl | trivial | skip
  · rintro i ⟨hi, hi4⟩
    have him : i < s.pics.length → PicOk (s.pics.getD i default) := hpic i
    repeat' (first | ((first | ((with_reducible refine cw_stepDK (id := 14) [] (by decide +kernel) (by decide +kernel) ?_ (fun K hK => ?_)); (focus (intro iw hiw; (try simp (maxSteps := 1000000) (disch := omega) only [go_sem, ↓reduceIte, Nat.reduceEqDiff, Nat.reduceAdd, Nat.reduceMul, Nat.reduceSub, Nat.reduceMod, Nat.reduceLeDiff, Nat.reduceLT, Nat.reduceBEq, reduceCtorEq, Int.reduceLT, Int.reduceLE, Int.reduceToNat, Int.reduceEq, Int.reduceAdd] at hiw ⊢); (repeat (first | rfl | rw [if_neg (by omega)])); done))) | ((with_reducible refine cw_lastDK (id := 14) [] (by decide +kernel) (by decide +kernel) ?_ (fun K hK => ?_)); (focus (intro iw hiw; (try simp (maxSteps := 1000000) (disch := omega) only [go_sem, ↓reduceIte, Nat.reduceEqDiff, Nat.reduceAdd, Nat.reduceMul, Nat.reduceSub, Nat.reduceMod, Nat.reduceLeDiff, Nat.reduceLT, Nat.reduceBEq, reduceCtorEq, Int.reduceLT, Int.reduceLE, Int.reduceToNat, Int.reduceEq, Int.reduceAdd] at hiw ⊢); (repeat (first | rfl | rw [if_neg (by omega)])); done)))); (try simp (maxSteps := 1000000) (disch := omega) only [go_sem, ↓reduceIte, Nat.reduceEqDiff, Nat.reduceAdd, Nat.reduceMul, Nat.reduceSub, Nat.reduceMod, Nat.reduceLeDiff, Nat.reduceLT, Nat.reduceBEq, reduceCtorEq, Int.reduceLT, Int.reduceLE, Int.reduceToNat, Int.reduceEq, Int.reduceAdd]); (repeat' (refine And.intro ?_ ?_)); (all_goals first | (refine hK _ (by simp (maxSteps := 1000000) (disch := omega) only [go_sem, ↓reduceIte, Nat.reduceEqDiff, Nat.reduceAdd, Nat.reduceMul, Nat.reduceSub, Nat.reduceMod, Nat.reduceLeDiff, Nat.reduceLT, Nat.reduceBEq, reduceCtorEq, Int.reduceLT, Int.reduceLE, Int.reduceToNat, Int.reduceEq, Int.reduceAdd]) ?_; clear hK K) | exact auto_cl | skip)) | refine cw_assoc ?_ | refine cw_skips ?_ | refine cw_labels ?_ | ((first | refine cw_step (fun K hK => ?_) | refine cw_last (fun K hK => ?_) | refine cw_stepD (by decide +kernel) (by decide +kernel) (fun K hK => ?_) | refine cw_lastD (by decide +kernel) (by decide +kernel) (fun K hK => ?_) | refine rgB_some ?_); (try simp (maxSteps := 1000000) (disch := omega) only [go_sem, ↓reduceIte, Nat.reduceEqDiff, Nat.reduceAdd, Nat.reduceMul, Nat.reduceSub, Nat.reduceMod, Nat.reduceLeDiff, Nat.reduceLT, Nat.reduceBEq, reduceCtorEq, Int.reduceLT, Int.reduceLE, Int.reduceToNat, Int.reduceEq, Int.reduceAdd]); (repeat' (refine And.intro ?_ ?_)); (all_goals first | (refine hK _ ?_; clear hK K) | exact auto_cl | skip)) | ((first | apply cw_ite | apply cw_iteN); (case hf => rfl); (case hc => simp (maxSteps := 1000000) (disch := omega) only [go_sem, ↓reduceIte, Nat.reduceEqDiff, Nat.reduceAdd, Nat.reduceMul, Nat.reduceSub, Nat.reduceMod, Nat.reduceLeDiff, Nat.reduceLT, Nat.reduceBEq, reduceCtorEq, Int.reduceLT, Int.reduceLE, Int.reduceToNat, Int.reduceEq, Int.reduceAdd]; rfl); (all_goals first | (intro hb; (try simp only [decide_eq_true_eq, decide_eq_false_iff_not, beq_iff_eq, beq_eq_false_iff_ne, bne_iff_ne, bne_eq_false_iff_eq, ne_eq, Bool.not_eq_true, Bool.not_eq_false, Bool.not_true, Bool.not_false, Bool.not_eq_eq_eq_not, Int.not_lt, Int.not_le, gt_iff_lt, ge_iff_le, Bool.cond_eq_ite, Bool.if_false_right, Bool.if_true_left, Bool.and_eq_true, Bool.or_eq_true, Bool.and_eq_false_imp, Bool.or_eq_false_iff, Decidable.not_not, beq_true, beq_false, iteT, iteF, cond_true, cond_false] at hb)) | skip)) | exact atN_intro | ((first | apply cw_if | apply cw_cond); (case hc => simp (maxSteps := 1000000) (disch := omega) only [go_sem, ↓reduceIte, Nat.reduceEqDiff, Nat.reduceAdd, Nat.reduceMul, Nat.reduceSub, Nat.reduceMod, Nat.reduceLeDiff, Nat.reduceLT, Nat.reduceBEq, reduceCtorEq, Int.reduceLT, Int.reduceLE, Int.reduceToNat, Int.reduceEq, Int.reduceAdd]; rfl); (all_goals (intro hb; (try simp only [decide_eq_true_eq, decide_eq_false_iff_not, beq_iff_eq, beq_eq_false_iff_ne, bne_iff_ne, bne_eq_false_iff_eq, ne_eq, Bool.not_eq_true, Bool.not_eq_false, Bool.not_true, Bool.not_false, Bool.not_eq_eq_eq_not, Int.not_lt, Int.not_le, gt_iff_lt, ge_iff_le, Bool.cond_eq_ite, Bool.if_false_right, Bool.if_true_left, Bool.and_eq_true, Bool.or_eq_true, Bool.and_eq_false_imp, Bool.or_eq_false_iff, Decidable.not_not, beq_true, beq_false, iteT, iteF, cond_true, cond_false] at hb); try (exfalso; omega)))) | (refine cw_blocks (fun KB hB => ?_)) | (refine cw_block ?_) | ((first | refine cw_exits ?_ | refine cw_exit ?_ | refine cw_skip ?_); simp (maxSteps := 1000000) (disch := omega) only [go_sem, ↓reduceIte, Nat.reduceEqDiff, Nat.reduceAdd, Nat.reduceMul, Nat.reduceSub, Nat.reduceMod, Nat.reduceLeDiff, Nat.reduceLT, Nat.reduceBEq, reduceCtorEq, Int.reduceLT, Int.reduceLE, Int.reduceToNat, Int.reduceEq, Int.reduceAdd]) | (refine hB _ ?_; clear hB KB) | (refine exit_by (S := Sg) (by assumption) ?_) | ((first | refine cw_rets ?_ | refine cw_ret ?_); simp (maxSteps := 1000000) (disch := omega) only [go_sem, ↓reduceIte, Nat.reduceEqDiff, Nat.reduceAdd, Nat.reduceMul, Nat.reduceSub, Nat.reduceMod, Nat.reduceLeDiff, Nat.reduceLT, Nat.reduceBEq, reduceCtorEq, Int.reduceLT, Int.reduceLE, Int.reduceToNat, Int.reduceEq, Int.reduceAdd]; (try clear hB KB); (try clear hK K)))
    · refine call_eq (image_spec (s.pics.getD (i : Int).toNat default) (gCanvas s) (gMax s.bits) (by rw [Int.toNat_natCast]; exact hpic i (by omega)) hsm (by unfold u16; omega)) (by simp (maxSteps := 1000000) (disch := omega) only [go_sem, ↓reduceIte, Nat.reduceEqDiff, Nat.reduceAdd, Nat.reduceMul, Nat.reduceSub, Nat.reduceMod, Nat.reduceLeDiff, Nat.reduceLT, Nat.reduceBEq, reduceCtorEq, Int.reduceLT, Int.reduceLE, Int.reduceToNat, Int.reduceEq, Int.reduceAdd]) ?_
      try simp (maxSteps := 1000000) (disch := omega) only [go_sem, ↓reduceIte, Nat.reduceEqDiff, Nat.reduceAdd, Nat.reduceMul, Nat.reduceSub, Nat.reduceMod, Nat.reduceLeDiff, Nat.reduceLT, Nat.reduceBEq, reduceCtorEq, Int.reduceLT, Int.reduceLE, Int.reduceToNat, Int.reduceEq, Int.reduceAdd]
      repeat' (refine And.intro ?_ ?_)
      all_goals first | (refine hK _ ?_; clear hK K) | exact auto_cl | skip
      refine hK _ trivial ?_
      clear hK
      repeat' (first | refine cw_assoc ?_ | refine cw_skips ?_ | refine cw_labels ?_ | ((first | refine cw_step (fun K hK => ?_) | refine cw_last (fun K hK => ?_) | refine cw_stepD (by decide +kernel) (by decide +kernel) (fun K hK => ?_) | refine cw_lastD (by decide +kernel) (by decide +kernel) (fun K hK => ?_) | refine rgB_some ?_); (try simp (maxSteps := 1000000) (disch := omega) only [go_sem, ↓reduceIte, Nat.reduceEqDiff, Nat.reduceAdd, Nat.reduceMul, Nat.reduceSub, Nat.reduceMod, Nat.reduceLeDiff, Nat.reduceLT, Nat.reduceBEq, reduceCtorEq, Int.reduceLT, Int.reduceLE, Int.reduceToNat, Int.reduceEq, Int.reduceAdd]); (repeat' (refine And.intro ?_ ?_)); (all_goals first | (refine hK _ ?_; clear hK K) | exact auto_cl | skip)) | ((first | apply cw_ite | apply cw_iteN); (case hf => rfl); (case hc => simp (maxSteps := 1000000) (disch := omega) only [go_sem, ↓reduceIte, Nat.reduceEqDiff, Nat.reduceAdd, Nat.reduceMul, Nat.reduceSub, Nat.reduceMod, Nat.reduceLeDiff, Nat.reduceLT, Nat.reduceBEq, reduceCtorEq, Int.reduceLT, Int.reduceLE, Int.reduceToNat, Int.reduceEq, Int.reduceAdd]; rfl); (all_goals first | (intro hb; (try simp only [decide_eq_true_eq, decide_eq_false_iff_not, beq_iff_eq, beq_eq_false_iff_ne, bne_iff_ne, bne_eq_false_iff_eq, ne_eq, Bool.not_eq_true, Bool.not_eq_false, Bool.not_true, Bool.not_false, Bool.not_eq_eq_eq_not, Int.not_lt, Int.not_le, gt_iff_lt, ge_iff_le, Bool.cond_eq_ite, Bool.if_false_right, Bool.if_true_left, Bool.and_eq_true, Bool.or_eq_true, Bool.and_eq_false_imp, Bool.or_eq_false_iff, Decidable.not_not, beq_true, beq_false, iteT, iteF, cond_true, cond_false] at hb)) | skip)) | exact atN_intro | ((first | apply cw_if | apply cw_cond); (case hc => simp (maxSteps := 1000000) (disch := omega) only [go_sem, ↓reduceIte, Nat.reduceEqDiff, Nat.reduceAdd, Nat.reduceMul, Nat.reduceSub, Nat.reduceMod, Nat.reduceLeDiff, Nat.reduceLT, Nat.reduceBEq, reduceCtorEq, Int.reduceLT, Int.reduceLE, Int.reduceToNat, Int.reduceEq, Int.reduceAdd]; rfl); (all_goals (intro hb; (try simp only [decide_eq_true_eq, decide_eq_false_iff_not, beq_iff_eq, beq_eq_false_iff_ne, bne_iff_ne, bne_eq_false_iff_eq, ne_eq, Bool.not_eq_true, Bool.not_eq_false, Bool.not_true, Bool.not_false, Bool.not_eq_eq_eq_not, Int.not_lt, Int.not_le, gt_iff_lt, ge_iff_le, Bool.cond_eq_ite, Bool.if_false_right, Bool.if_true_left, Bool.and_eq_true, Bool.or_eq_true, Bool.and_eq_false_imp, Bool.or_eq_false_iff, Decidable.not_not, beq_true, beq_false, iteT, iteF, cond_true, cond_false] at hb); try (exfalso; omega)))) | (refine cw_blocks (fun KB hB => ?_)) | (refine cw_block ?_) | ((first | refine cw_exits ?_ | refine cw_exit ?_ | refine cw_skip ?_); simp (maxSteps := 1000000) (disch := omega) only [go_sem, ↓reduceIte, Nat.reduceEqDiff, Nat.reduceAdd, Nat.reduceMul, Nat.reduceSub, Nat.reduceMod, Nat.reduceLeDiff, Nat.reduceLT, Nat.reduceBEq, reduceCtorEq, Int.reduceLT, Int.reduceLE, Int.reduceToNat, Int.reduceEq, Int.reduceAdd]) | (refine hB _ ?_; clear hB KB) | (refine exit_by (S := Sg) (by assumption) ?_) | ((first | refine cw_rets ?_ | refine cw_ret ?_); simp (maxSteps := 1000000) (disch := omega) only [go_sem, ↓reduceIte, Nat.reduceEqDiff, Nat.reduceAdd, Nat.reduceMul, Nat.reduceSub, Nat.reduceMod, Nat.reduceLeDiff, Nat.reduceLT, Nat.reduceBEq, reduceCtorEq, Int.reduceLT, Int.reduceLE, Int.reduceToNat, Int.reduceEq, Int.reduceAdd]; (try clear hB KB); (try clear hK K)))
      rw [thenQ_normal]
      refine wk_loop (i + 1) ?_ (by omega) (by omega)
      have hl1 : ((gImages0 s).take i).length = i := by simp [gImages0]; omega
      have he : (gImages0 s).take (i + 1) = (gImages0 s).take i ++ [gImage (s.pics.getD i default) (gCanvas s) (gMax s.bits)] := by
        have h1 : i < (s.pics.take 4).length := by rw [List.length_take]; omega
        have h2 : i < s.pics.length := by omega
        simp only [gImages0, ← List.map_take]
        rw [List.take_add_one, List.map_append, List.getElem?_eq_getElem h1, List.getD_eq_getElem?_getD, List.getElem?_eq_getElem h2, List.getElem_take]
        rfl
      refine le_of [(1, some 1), (2, some 2), (3, some 5)] rfl (by decide) rfl ?_ ?_
      all_goals simp (maxSteps := 1000000) (disch := omega) only [go_sem, ↓reduceIte, Nat.reduceEqDiff, Nat.reduceAdd, Nat.reduceMul, Nat.reduceSub, Nat.reduceMod, Nat.reduceLeDiff, Nat.reduceLT, Nat.reduceBEq, reduceCtorEq, Int.reduceLT, Int.reduceLE, Int.reduceToNat, Int.reduceEq, Int.reduceAdd]
      repeat' (refine And.intro ?_ ?_)
      all_goals first | rfl | omega | exact .inl rfl | trivial | skip
      have key := fun g hg => arr_push (enc := imageE) (xs := (gImages0 s).take i) (x := gImage (s.pics.getD i default) (gCanvas s) (gMax s.bits)) (s := 28) (g := g) hg
      simp only [hl1, ← he] at key
      refine .inr (key _ fun j hj => ?_)
      simp only [Int.toNat_natCast]
      have hivl : j = 0 ∨ j = 1 ∨ j = 2 ∨ j = 3 ∨ j = 4 ∨ j = 5 ∨ j = 6 ∨ j = 7 ∨ j = 8 ∨ j = 9 ∨ j = 10 ∨ j = 11 ∨ j = 12 ∨ j = 13 ∨ j = 14 ∨ j = 15 ∨ j = 16 ∨ j = 17 ∨ j = 18 ∨ j = 19 ∨ j = 20 ∨ j = 21 ∨ j = 22 ∨ j = 23 ∨ j = 24 ∨ j = 25 ∨ j = 26 ∨ j = 27 := by omega
      rcases hivl with rfl | rfl | rfl | rfl | rfl | rfl | rfl | rfl | rfl | rfl | rfl | rfl | rfl | rfl | rfl | rfl | rfl | rfl | rfl | rfl | rfl | rfl | rfl | rfl | rfl | rfl | rfl | rfl <;> rfl
    · have hn0 : i = (gImages0 s).length := by simp [gImages0]; omega
      refine hV _ (mkSt [(1, .b (.c (.ptr 0 0))), (2, .b (.c (.ptr 1 0))), (3, .b (U (gMax s.bits))), (4, .b (.c (.ptr 2 0))), (7, .b (I (1 + s.w % 5))), (8, .b (I (1 + s.h % 4)))]
        [(0, .fix ((sceneE s).map CV.p)), (1, .fix ((List.range 10).map fun _ => CV.p .any)), (2, .fix [.p (PI (gScript s).bits), .p (PI (gCanvas s).x0), .p (PI (gCanvas s).y0), .p (PI (gCanvas s).x1), .p (PI (gCanvas s).y1), .p (PI (gTileW s)), .p (PI (gTileH s)), .p (ints (gScript s).order), .own 3 (gImages0 s).length, .p Nil]), (3, .arr 58 28 (gImages0 s).length (fnOf imageE (gImages0 s)))] 4) ?_ ?_
      · rw [hn0, List.take_of_length_le (Nat.le_refl _)]
        refine le_of [(1, some 1), (2, some 2), (3, some 3)] rfl (by decide) rfl ?_ ?_
        all_goals simp (maxSteps := 1000000) (disch := omega) only [go_sem, ↓reduceIte, Nat.reduceEqDiff, Nat.reduceAdd, Nat.reduceMul, Nat.reduceSub, Nat.reduceMod, Nat.reduceLeDiff, Nat.reduceLT, Nat.reduceBEq, reduceCtorEq, Int.reduceLT, Int.reduceLE, Int.reduceToNat, Int.reduceEq, Int.reduceAdd]
        repeat' (refine And.intro ?_ ?_)
        all_goals first | rfl | omega | exact .inl rfl | trivial | skip
      clear hV hn0 him
      refine cw_assoc ?_
      refine cw_step fun K hK => ?_
      simp (maxSteps := 1000000) (disch := omega) only [go_sem, ↓reduceIte, Nat.reduceEqDiff, Nat.reduceAdd, Nat.reduceMul, Nat.reduceSub, Nat.reduceMod, Nat.reduceLeDiff, Nat.reduceLT, Nat.reduceBEq, reduceCtorEq, Int.reduceLT, Int.reduceLE, Int.reduceToNat, Int.reduceEq, Int.reduceAdd]
      repeat' (refine And.intro ?_ ?_)
      all_goals first | (refine hK _ ?_; clear hK K) | exact auto_cl | skip
      refine cw_ifM (t := (((gImages0 s).length : Int) == 0)) (mkSt [(1, .b (.c (.ptr 0 0))), (2, .b (.c (.ptr 1 0))), (3, .b (U (gMax s.bits))), (4, .b (.c (.ptr 2 0)))]
        [(0, .fix ((sceneE s).map CV.p)), (1, .fix ((List.range 10).map fun _ => CV.p .any)), (2, .fix [.p (PI (gScript s).bits), .p (PI (gCanvas s).x0), .p (PI (gCanvas s).y0), .p (PI (gCanvas s).x1), .p (PI (gCanvas s).y1), .p (PI (gTileW s)), .p (PI (gTileH s)), .p (ints (gScript s).order), .p (imgL (gImages s)), .p Nil])] 3) ?_ ?_ ?_ ?_
      · simp (maxSteps := 1000000) (disch := omega) only [go_sem, ↓reduceIte, Nat.reduceEqDiff, Nat.reduceAdd, Nat.reduceMul, Nat.reduceSub, Nat.reduceMod, Nat.reduceLeDiff, Nat.reduceLT, Nat.reduceBEq, reduceCtorEq, Int.reduceLT, Int.reduceLE, Int.reduceToNat, Int.reduceEq, Int.reduceAdd]
      · intro hb
        have h0 : (gImages0 s).length = 0 := by simpa using hb
        have hi1 : gImages s = [solidOf (1 + s.w % 5) (1 + s.h % 4) ⟨gMax s.bits, 0, 0, gMax s.bits, gMax s.bits⟩] := by rw [gImages, if_pos h0]
        repeat' (first | ((first | ((with_reducible refine cw_stepDK (id := 16) [] (by decide +kernel) (by decide +kernel) ?_ (fun K hK => ?_)); (focus (intro iw hiw; (try simp (maxSteps := 1000000) (disch := omega) only [go_sem, ↓reduceIte, Nat.reduceEqDiff, Nat.reduceAdd, Nat.reduceMul, Nat.reduceSub, Nat.reduceMod, Nat.reduceLeDiff, Nat.reduceLT, Nat.reduceBEq, reduceCtorEq, Int.reduceLT, Int.reduceLE, Int.reduceToNat, Int.reduceEq, Int.reduceAdd] at hiw ⊢); (repeat (first | rfl | rw [if_neg (by omega)])); done))) | ((with_reducible refine cw_lastDK (id := 16) [] (by decide +kernel) (by decide +kernel) ?_ (fun K hK => ?_)); (focus (intro iw hiw; (try simp (maxSteps := 1000000) (disch := omega) only [go_sem, ↓reduceIte, Nat.reduceEqDiff, Nat.reduceAdd, Nat.reduceMul, Nat.reduceSub, Nat.reduceMod, Nat.reduceLeDiff, Nat.reduceLT, Nat.reduceBEq, reduceCtorEq, Int.reduceLT, Int.reduceLE, Int.reduceToNat, Int.reduceEq, Int.reduceAdd] at hiw ⊢); (repeat (first | rfl | rw [if_neg (by omega)])); done)))); (try simp (maxSteps := 1000000) (disch := omega) only [go_sem, ↓reduceIte, Nat.reduceEqDiff, Nat.reduceAdd, Nat.reduceMul, Nat.reduceSub, Nat.reduceMod, Nat.reduceLeDiff, Nat.reduceLT, Nat.reduceBEq, reduceCtorEq, Int.reduceLT, Int.reduceLE, Int.reduceToNat, Int.reduceEq, Int.reduceAdd]); (repeat' (refine And.intro ?_ ?_)); (all_goals first | (refine hK _ (by simp (maxSteps := 1000000) (disch := omega) only [go_sem, ↓reduceIte, Nat.reduceEqDiff, Nat.reduceAdd, Nat.reduceMul, Nat.reduceSub, Nat.reduceMod, Nat.reduceLeDiff, Nat.reduceLT, Nat.reduceBEq, reduceCtorEq, Int.reduceLT, Int.reduceLE, Int.reduceToNat, Int.reduceEq, Int.reduceAdd]) ?_; clear hK K) | exact auto_cl | skip)) | refine cw_assoc ?_ | refine cw_skips ?_ | refine cw_labels ?_ | ((first | refine cw_step (fun K hK => ?_) | refine cw_last (fun K hK => ?_) | refine cw_stepD (by decide +kernel) (by decide +kernel) (fun K hK => ?_) | refine cw_lastD (by decide +kernel) (by decide +kernel) (fun K hK => ?_) | refine rgB_some ?_ | refine call_a (solid_spec (1 + s.w % 5) (1 + s.h % 4) ⟨gMax s.bits, 0, 0, gMax s.bits, gMax s.bits⟩) ?_ | refine gcall_a (fun hg => solid_spec (1 + s.w % 5) (1 + s.h % 4) ⟨gMax s.bits, 0, 0, gMax s.bits, gMax s.bits⟩) ?_); (try simp (maxSteps := 1000000) (disch := omega) only [go_sem, ↓reduceIte, Nat.reduceEqDiff, Nat.reduceAdd, Nat.reduceMul, Nat.reduceSub, Nat.reduceMod, Nat.reduceLeDiff, Nat.reduceLT, Nat.reduceBEq, reduceCtorEq, Int.reduceLT, Int.reduceLE, Int.reduceToNat, Int.reduceEq, Int.reduceAdd]); (repeat' (refine And.intro ?_ ?_)); (all_goals first | (refine hK _ ?_; clear hK K) | exact auto_cl | skip)) | ((first | apply cw_ite | apply cw_iteN); (case hf => rfl); (case hc => simp (maxSteps := 1000000) (disch := omega) only [go_sem, ↓reduceIte, Nat.reduceEqDiff, Nat.reduceAdd, Nat.reduceMul, Nat.reduceSub, Nat.reduceMod, Nat.reduceLeDiff, Nat.reduceLT, Nat.reduceBEq, reduceCtorEq, Int.reduceLT, Int.reduceLE, Int.reduceToNat, Int.reduceEq, Int.reduceAdd]; rfl); (all_goals first | (intro hb; (try simp only [decide_eq_true_eq, decide_eq_false_iff_not, beq_iff_eq, beq_eq_false_iff_ne, bne_iff_ne, bne_eq_false_iff_eq, ne_eq, Bool.not_eq_true, Bool.not_eq_false, Bool.not_true, Bool.not_false, Bool.not_eq_eq_eq_not, Int.not_lt, Int.not_le, gt_iff_lt, ge_iff_le, Bool.cond_eq_ite, Bool.if_false_right, Bool.if_true_left, Bool.and_eq_true, Bool.or_eq_true, Bool.and_eq_false_imp, Bool.or_eq_false_iff, Decidable.not_not, beq_true, beq_false, iteT, iteF, cond_true, cond_false] at hb)) | skip)) | exact atN_intro | ((first | apply cw_if | apply cw_cond); (case hc => simp (maxSteps := 1000000) (disch := omega) only [go_sem, ↓reduceIte, Nat.reduceEqDiff, Nat.reduceAdd, Nat.reduceMul, Nat.reduceSub, Nat.reduceMod, Nat.reduceLeDiff, Nat.reduceLT, Nat.reduceBEq, reduceCtorEq, Int.reduceLT, Int.reduceLE, Int.reduceToNat, Int.reduceEq, Int.reduceAdd]; rfl); (all_goals (intro hb; (try simp only [decide_eq_true_eq, decide_eq_false_iff_not, beq_iff_eq, beq_eq_false_iff_ne, bne_iff_ne, bne_eq_false_iff_eq, ne_eq, Bool.not_eq_true, Bool.not_eq_false, Bool.not_true, Bool.not_false, Bool.not_eq_eq_eq_not, Int.not_lt, Int.not_le, gt_iff_lt, ge_iff_le, Bool.cond_eq_ite, Bool.if_false_right, Bool.if_true_left, Bool.and_eq_true, Bool.or_eq_true, Bool.and_eq_false_imp, Bool.or_eq_false_iff, Decidable.not_not, beq_true, beq_false, iteT, iteF, cond_true, cond_false] at hb); try (exfalso; omega)))) | (refine cw_blocks (fun KB hB => ?_)) | (refine cw_block ?_) | ((first | refine cw_exits ?_ | refine cw_exit ?_ | refine cw_skip ?_); simp (maxSteps := 1000000) (disch := omega) only [go_sem, ↓reduceIte, Nat.reduceEqDiff, Nat.reduceAdd, Nat.reduceMul, Nat.reduceSub, Nat.reduceMod, Nat.reduceLeDiff, Nat.reduceLT, Nat.reduceBEq, reduceCtorEq, Int.reduceLT, Int.reduceLE, Int.reduceToNat, Int.reduceEq, Int.reduceAdd]) | (refine hB _ ?_; clear hB KB) | (refine exit_by (S := Sg) (by assumption) ?_) | ((first | refine cw_rets ?_ | refine cw_ret ?_); simp (maxSteps := 1000000) (disch := omega) only [go_sem, ↓reduceIte, Nat.reduceEqDiff, Nat.reduceAdd, Nat.reduceMul, Nat.reduceSub, Nat.reduceMod, Nat.reduceLeDiff, Nat.reduceLT, Nat.reduceBEq, reduceCtorEq, Int.reduceLT, Int.reduceLE, Int.reduceToNat, Int.reduceEq, Int.reduceAdd]; (try clear hB KB); (try clear hK K)))
        refine hK _ trivial ?_
        clear hK
        rw [thenQ_normal, hi1]
        refine ⟨_, ?_, rfl⟩
        refine le_of [(1, some 1), (2, some 2)] rfl (by decide) rfl ?_ ?_
        all_goals simp (maxSteps := 1000000) (disch := omega) only [go_sem, ↓reduceIte, Nat.reduceEqDiff, Nat.reduceAdd, Nat.reduceMul, Nat.reduceSub, Nat.reduceMod, Nat.reduceLeDiff, Nat.reduceLT, Nat.reduceBEq, reduceCtorEq, Int.reduceLT, Int.reduceLE, Int.reduceToNat, Int.reduceEq, Int.reduceAdd]
        repeat' (refine And.intro ?_ ?_)
        all_goals first | rfl | omega | exact .inl rfl | trivial | skip
        have h00 : gImages0 s = [] := List.eq_nil_of_length_eq_zero h0
        rw [h00]
        intro a ha j hj
        have : a = 0 := by simpa using ha
        subst this
        have hivl : j = 0 ∨ j = 1 ∨ j = 2 ∨ j = 3 ∨ j = 4 ∨ j = 5 ∨ j = 6 ∨ j = 7 ∨ j = 8 ∨ j = 9 ∨ j = 10 ∨ j = 11 ∨ j = 12 ∨ j = 13 ∨ j = 14 ∨ j = 15 ∨ j = 16 ∨ j = 17 ∨ j = 18 ∨ j = 19 ∨ j = 20 ∨ j = 21 ∨ j = 22 ∨ j = 23 ∨ j = 24 ∨ j = 25 ∨ j = 26 ∨ j = 27 := by omega
        rcases hivl with rfl | rfl | rfl | rfl | rfl | rfl | rfl | rfl | rfl | rfl | rfl | rfl | rfl | rfl | rfl | rfl | rfl | rfl | rfl | rfl | rfl | rfl | rfl | rfl | rfl | rfl | rfl | rfl <;> exact PV.le_refl _
      · intro hb
        have h0 : ¬ (gImages0 s).length = 0 := by simpa using hb
        have hi1 : gImages s = gImages0 s := by rw [gImages, if_neg h0]
        refine cw_skip ?_
        rw [thenQ_normal, hi1]
        refine ⟨_, ?_, rfl⟩
        refine le_of [(1, some 1), (2, some 2)] rfl (by decide) rfl ?_ ?_
        all_goals simp (maxSteps := 1000000) (disch := omega) only [go_sem, ↓reduceIte, Nat.reduceEqDiff, Nat.reduceAdd, Nat.reduceMul, Nat.reduceSub, Nat.reduceMod, Nat.reduceLeDiff, Nat.reduceLT, Nat.reduceBEq, reduceCtorEq, Int.reduceLT, Int.reduceLE, Int.reduceToNat, Int.reduceEq, Int.reduceAdd]
        repeat' (refine And.intro ?_ ?_)
        all_goals first | rfl | omega | exact .inl rfl | trivial | skip
        exact fun _ _ _ _ => PV.le_refl _
      have h3m : u16 (gMax s.bits) := by unfold u16; omega
      have him1 : 1 ≤ (gImages s).length ∧ (gImages s).length ≤ 4 := by
        unfold gImages
        split
        · simp
        · have : (gImages0 s).length ≤ 4 := by simp [gImages0]; omega
          omega
      refine cw_step fun K hK => ?_
      simp (maxSteps := 1000000) (disch := omega) only [go_sem, ↓reduceIte, Nat.reduceEqDiff, Nat.reduceAdd, Nat.reduceMul, Nat.reduceSub, Nat.reduceMod, Nat.reduceLeDiff, Nat.reduceLT, Nat.reduceBEq, reduceCtorEq, Int.reduceLT, Int.reduceLE, Int.reduceToNat, Int.reduceEq, Int.reduceAdd]
      repeat' (refine And.intro ?_ ?_)
      all_goals first | (refine hK _ ?_; clear hK K) | exact auto_cl | skip
      refine cw_assoc ?_
      refine cw_step fun K hK => ?_
      simp (maxSteps := 1000000) (disch := omega) only [go_sem, ↓reduceIte, Nat.reduceEqDiff, Nat.reduceAdd, Nat.reduceMul, Nat.reduceSub, Nat.reduceMod, Nat.reduceLeDiff, Nat.reduceLT, Nat.reduceBEq, reduceCtorEq, Int.reduceLT, Int.reduceLE, Int.reduceToNat, Int.reduceEq, Int.reduceAdd]
      repeat' (refine And.intro ?_ ?_)
      all_goals first | (refine hK _ ?_; clear hK K) | exact auto_cl | skip
      refine cw_blocksV fun KB2 hV2 => ?_
      refine cw_loop (X := Nat × List Op × List Op × List Op) (fun x => mkSt [(1, .b (.c (.ptr 0 0))), (2, .b (.c (.ptr 1 0))), (3, .b (U (gMax s.bits))), (4, .b (.c (.ptr 2 0))), (13, .b (.c (.own 4 x.2.2.1.length))), (14, .b (I x.1))]
        [(0, .fix ((sceneE s).map CV.p)), (1, .fix ((List.range 10).map fun _ => CV.p .any)), (2, .fix [.p (PI (gScript s).bits), .p (PI (gCanvas s).x0), .p (PI (gCanvas s).y0), .p (PI (gCanvas s).x1), .p (PI (gCanvas s).y1), .p (PI (gTileW s)), .p (PI (gTileH s)), .p (ints (gScript s).order), .p (imgL (gImages s)), .own 3 x.2.1.length]),
         (3, .arr 34 12 x.2.1.length (fnOf opE x.2.1)), (4, .arr 34 12 (x.2.2.1.length + x.2.2.2.length) (fnOf opE (x.2.2.1 ++ x.2.2.2)))] 5)
        (fun x => x.1 ≤ s.ops.length ∧ x.1 ≤ 9 ∧ (s.ops.take x.1).foldl (gStep (gImages s).length (gCanvas s) (gMax s.bits)) ([], []) = (x.2.1, x.2.2.1) ∧ x.2.1.length ≤ x.1 ∧ x.2.2.1.length ≤ x.1) (fun x => 9 - x.1) (0, [], [], []) ?_ ?_ ?_
      · exact ⟨by omega, by omega, rfl, Nat.le_refl _, Nat.le_refl _⟩
      · refine le_of [(1, some 1), (2, some 2), (3, none), (4, none)] rfl (by decide) rfl ?_ ?_
        all_goals simp (maxSteps := 1000000) (disch := omega) only [go_sem, ↓reduceIte, Nat.reduceEqDiff, Nat.reduceAdd, Nat.reduceMul, Nat.reduceSub, Nat.reduceMod, Nat.reduceLeDiff, Nat.reduceLT, Nat.reduceBEq, reduceCtorEq, Int.reduceLT, Int.reduceLE, Int.reduceToNat, Int.reduceEq, Int.reduceAdd]
        repeat' (refine And.intro ?_ ?_)
        all_goals first | rfl | omega | exact .inl rfl | trivial | skip
      · rintro ⟨i, ops, l, jk⟩ ⟨hi, hi9, hf, ho1, hl1⟩
        dsimp only at hi hi9 hf ho1 hl1 ⊢
        have hstep : ∀ (hlt : i < s.ops.length) (q : List Op × List Op), gStep (gImages s).length (gCanvas s) (gMax s.bits) (ops, l) (s.ops.getD i default) = q → (s.ops.take (i + 1)).foldl (gStep (gImages s).length (gCanvas s) (gMax s.bits)) ([], []) = q := by
          rintro hlt q rfl
          rw [List.take_add_one, List.getElem?_eq_getElem hlt, List.foldl_append, hf, List.getD_eq_getElem?_getD, List.getElem?_eq_getElem hlt]
          rfl
        by_cases hc : i < s.ops.length ∧ i < 9
        · by_cases hk0 : (s.ops.getD i default).kind % 8 = 0 ∧ 0 < l.length
          · have hkT : ((s.ops.getD i default).kind % 8 == 0 && decide ((l.length : Int) > 0)) = true := by
              simp only [Bool.and_eq_true, beq_iff_eq, decide_eq_true_eq]; omega
            repeat' (first | ((first | apply cw_ifT | apply cw_condT); (case hc => simp (maxSteps := 1000000) (disch := omega) only [go_sem, ↓reduceIte, Nat.reduceEqDiff, Nat.reduceAdd, Nat.reduceMul, Nat.reduceSub, Nat.reduceMod, Nat.reduceLeDiff, Nat.reduceLT, Nat.reduceBEq, reduceCtorEq, Int.reduceLT, Int.reduceLE, Int.reduceToNat, Int.reduceEq, Int.reduceAdd]; rfl); (case ht => (simp only [Int.toNat_natCast, Int.reduceBEq, Int.reduceBNe, Int.reduceLT, Int.reduceLE, decide_true, decide_false, Bool.not_true, Bool.not_false, Bool.and_true, Bool.true_and, Bool.and_false, Bool.false_and, Bool.or_true, Bool.true_or, Bool.or_false, Bool.false_or, hkT]; done))) | ((first | apply cw_ifF | apply cw_condF); (case hc => simp (maxSteps := 1000000) (disch := omega) only [go_sem, ↓reduceIte, Nat.reduceEqDiff, Nat.reduceAdd, Nat.reduceMul, Nat.reduceSub, Nat.reduceMod, Nat.reduceLeDiff, Nat.reduceLT, Nat.reduceBEq, reduceCtorEq, Int.reduceLT, Int.reduceLE, Int.reduceToNat, Int.reduceEq, Int.reduceAdd]; rfl); (case ht => (simp only [Int.toNat_natCast, Int.reduceBEq, Int.reduceBNe, Int.reduceLT, Int.reduceLE, decide_true, decide_false, Bool.not_true, Bool.not_false, Bool.and_true, Bool.true_and, Bool.and_false, Bool.false_and, Bool.or_true, Bool.true_or, Bool.or_false, Bool.false_or, hkT]; done))) | refine cw_assoc ?_ | refine cw_skips ?_ | refine cw_labels ?_ | ((first | refine cw_step (fun K hK => ?_) | refine cw_last (fun K hK => ?_) | refine cw_stepD (by decide +kernel) (by decide +kernel) (fun K hK => ?_) | refine cw_lastD (by decide +kernel) (by decide +kernel) (fun K hK => ?_) | refine rgB_some ?_ | refine call_a (modp_spec _ _ (by omega) (by omega)) ?_ | refine gcall_a (fun hg => modp_spec _ _ (by omega) (by omega)) ?_); (try simp (maxSteps := 1000000) (disch := omega) only [go_sem, ↓reduceIte, Nat.reduceEqDiff, Nat.reduceAdd, Nat.reduceMul, Nat.reduceSub, Nat.reduceMod, Nat.reduceLeDiff, Nat.reduceLT, Nat.reduceBEq, reduceCtorEq, Int.reduceLT, Int.reduceLE, Int.reduceToNat, Int.reduceEq, Int.reduceAdd]); (repeat' (refine And.intro ?_ ?_)); (all_goals first | (refine hK _ ?_; clear hK K) | exact auto_cl | skip)) | ((first | apply cw_ite | apply cw_iteN); (case hf => rfl); (case hc => simp (maxSteps := 1000000) (disch := omega) only [go_sem, ↓reduceIte, Nat.reduceEqDiff, Nat.reduceAdd, Nat.reduceMul, Nat.reduceSub, Nat.reduceMod, Nat.reduceLeDiff, Nat.reduceLT, Nat.reduceBEq, reduceCtorEq, Int.reduceLT, Int.reduceLE, Int.reduceToNat, Int.reduceEq, Int.reduceAdd]; rfl); (all_goals first | (intro hb; (try simp only [decide_eq_true_eq, decide_eq_false_iff_not, beq_iff_eq, beq_eq_false_iff_ne, bne_iff_ne, bne_eq_false_iff_eq, ne_eq, Bool.not_eq_true, Bool.not_eq_false, Bool.not_true, Bool.not_false, Bool.not_eq_eq_eq_not, Int.not_lt, Int.not_le, gt_iff_lt, ge_iff_le, Bool.cond_eq_ite, Bool.if_false_right, Bool.if_true_left, Bool.and_eq_true, Bool.or_eq_true, Bool.and_eq_false_imp, Bool.or_eq_false_iff, Decidable.not_not, beq_true, beq_false, iteT, iteF, cond_true, cond_false] at hb)) | skip)) | exact atN_intro | ((first | apply cw_if | apply cw_cond); (case hc => simp (maxSteps := 1000000) (disch := omega) only [go_sem, ↓reduceIte, Nat.reduceEqDiff, Nat.reduceAdd, Nat.reduceMul, Nat.reduceSub, Nat.reduceMod, Nat.reduceLeDiff, Nat.reduceLT, Nat.reduceBEq, reduceCtorEq, Int.reduceLT, Int.reduceLE, Int.reduceToNat, Int.reduceEq, Int.reduceAdd]; rfl); (all_goals (intro hb; (try simp only [decide_eq_true_eq, decide_eq_false_iff_not, beq_iff_eq, beq_eq_false_iff_ne, bne_iff_ne, bne_eq_false_iff_eq, ne_eq, Bool.not_eq_true, Bool.not_eq_false, Bool.not_true, Bool.not_false, Bool.not_eq_eq_eq_not, Int.not_lt, Int.not_le, gt_iff_lt, ge_iff_le, Bool.cond_eq_ite, Bool.if_false_right, Bool.if_true_left, Bool.and_eq_true, Bool.or_eq_true, Bool.and_eq_false_imp, Bool.or_eq_false_iff, Decidable.not_not, beq_true, beq_false, iteT, iteF, cond_true, cond_false] at hb); try (exfalso; omega)))) | (refine cw_blocks (fun KB hB => ?_)) | (refine cw_block ?_) | ((first | refine cw_exits ?_ | refine cw_exit ?_ | refine cw_skip ?_); simp (maxSteps := 1000000) (disch := omega) only [go_sem, ↓reduceIte, Nat.reduceEqDiff, Nat.reduceAdd, Nat.reduceMul, Nat.reduceSub, Nat.reduceMod, Nat.reduceLeDiff, Nat.reduceLT, Nat.reduceBEq, reduceCtorEq, Int.reduceLT, Int.reduceLE, Int.reduceToNat, Int.reduceEq, Int.reduceAdd]) | (refine hB _ ?_; clear hB KB) | (refine exit_by (S := Sg) (by assumption) ?_) | ((first | refine cw_rets ?_ | refine cw_ret ?_); simp (maxSteps := 1000000) (disch := omega) only [go_sem, ↓reduceIte, Nat.reduceEqDiff, Nat.reduceAdd, Nat.reduceMul, Nat.reduceSub, Nat.reduceMod, Nat.reduceLeDiff, Nat.reduceLT, Nat.reduceBEq, reduceCtorEq, Int.reduceLT, Int.reduceLE, Int.reduceToNat, Int.reduceEq, Int.reduceAdd]; (try clear hB KB); (try clear hK K)))
            rw [thenQ_normal]
            have hp := hk0.2
            have hne : l ≠ [] := fun h => by rw [h] at hp; simp at hp
            have hj : l.dropLast ++ (l.getLast hne :: jk) = l ++ jk := by
              conv => rhs; rw [← List.dropLast_concat_getLast hne]
              simp
            refine wk_loop (i + 1, ops ++ [popOp], l.dropLast, l.getLast hne :: jk) ?_ ⟨by dsimp only; omega, by dsimp only; omega, hstep hc.1 _ (by rw [gStep, if_pos hk0]), by simp; omega, by rw [List.length_dropLast]; dsimp only; omega⟩ (by dsimp only; omega)
            dsimp only
            rw [hj]
            refine le_of [(1, some 1), (2, some 2), (3, some 6), (4, some 4)] rfl (by decide) rfl ?_ ?_
            all_goals simp (maxSteps := 1000000) (disch := omega) only [go_sem, ↓reduceIte, Nat.reduceEqDiff, Nat.reduceAdd, Nat.reduceMul, Nat.reduceSub, Nat.reduceMod, Nat.reduceLeDiff, Nat.reduceLT, Nat.reduceBEq, reduceCtorEq, Int.reduceLT, Int.reduceLE, Int.reduceToNat, Int.reduceEq, Int.reduceAdd]
            repeat' (refine And.intro ?_ ?_)
            all_goals first | rfl | omega | exact .inl rfl | trivial | skip
            · rw [List.length_dropLast]; omega
            · simp
            · simp
            · refine .inr fun a ha j hj => arr_push (fun j hj => ?_) a ha j hj
              have hivl : j = 0 ∨ j = 1 ∨ j = 2 ∨ j = 3 ∨ j = 4 ∨ j = 5 ∨ j = 6 ∨ j = 7 ∨ j = 8 ∨ j = 9 ∨ j = 10 ∨ j = 11 := by omega
              rcases hivl with rfl | rfl | rfl | rfl | rfl | rfl | rfl | rfl | rfl | rfl | rfl | rfl <;> rfl
            · rw [List.length_dropLast]; omega
          · have hkF : ((s.ops.getD i default).kind % 8 == 0 && decide ((l.length : Int) > 0)) = false := by
              rw [Bool.eq_false_iff]
              intro h
              simp only [Bool.and_eq_true, beq_iff_eq, decide_eq_true_eq] at h
              exact hk0 ⟨h.1, by omega⟩
            have hraw1 : RawOk (s.ops.getD (i : Int).toNat default) := hraw i hc.1
            have hcb : -2000000000 ≤ (gCanvas s).x0 ∧ (gCanvas s).x0 ≤ 2000000000 ∧ -2000000000 ≤ (gCanvas s).y0 ∧ (gCanvas s).y0 ≤ 2000000000 := by
              unfold gCanvas
              dsimp only
              omega
            repeat' (first | ((first | apply cw_ifT | apply cw_condT); (case hc => simp (maxSteps := 1000000) (disch := omega) only [go_sem, ↓reduceIte, Nat.reduceEqDiff, Nat.reduceAdd, Nat.reduceMul, Nat.reduceSub, Nat.reduceMod, Nat.reduceLeDiff, Nat.reduceLT, Nat.reduceBEq, reduceCtorEq, Int.reduceLT, Int.reduceLE, Int.reduceToNat, Int.reduceEq, Int.reduceAdd]; rfl); (case ht => (simp only [Int.toNat_natCast, Int.reduceBEq, Int.reduceBNe, Int.reduceLT, Int.reduceLE, decide_true, decide_false, Bool.not_true, Bool.not_false, Bool.and_true, Bool.true_and, Bool.and_false, Bool.false_and, Bool.or_true, Bool.true_or, Bool.or_false, Bool.false_or, hkF]; done))) | ((first | apply cw_ifF | apply cw_condF); (case hc => simp (maxSteps := 1000000) (disch := omega) only [go_sem, ↓reduceIte, Nat.reduceEqDiff, Nat.reduceAdd, Nat.reduceMul, Nat.reduceSub, Nat.reduceMod, Nat.reduceLeDiff, Nat.reduceLT, Nat.reduceBEq, reduceCtorEq, Int.reduceLT, Int.reduceLE, Int.reduceToNat, Int.reduceEq, Int.reduceAdd]; rfl); (case ht => (simp only [Int.toNat_natCast, Int.reduceBEq, Int.reduceBNe, Int.reduceLT, Int.reduceLE, decide_true, decide_false, Bool.not_true, Bool.not_false, Bool.and_true, Bool.true_and, Bool.and_false, Bool.false_and, Bool.or_true, Bool.true_or, Bool.or_false, Bool.false_or, hkF]; done))) | refine cw_assoc ?_ | refine cw_skips ?_ | refine cw_labels ?_ | ((first | refine cw_step (fun K hK => ?_) | refine cw_last (fun K hK => ?_) | refine cw_stepD (by decide +kernel) (by decide +kernel) (fun K hK => ?_) | refine cw_lastD (by decide +kernel) (by decide +kernel) (fun K hK => ?_) | refine rgB_some ?_ | refine call_a (modp_spec _ _ (by omega) (by omega)) ?_ | refine gcall_a (fun hg => modp_spec _ _ (by omega) (by omega)) ?_); (try simp (maxSteps := 1000000) (disch := omega) only [go_sem, ↓reduceIte, Nat.reduceEqDiff, Nat.reduceAdd, Nat.reduceMul, Nat.reduceSub, Nat.reduceMod, Nat.reduceLeDiff, Nat.reduceLT, Nat.reduceBEq, reduceCtorEq, Int.reduceLT, Int.reduceLE, Int.reduceToNat, Int.reduceEq, Int.reduceAdd]); (repeat' (refine And.intro ?_ ?_)); (all_goals first | (refine hK _ ?_; clear hK K) | exact auto_cl | skip)) | ((first | apply cw_ite | apply cw_iteN); (case hf => rfl); (case hc => simp (maxSteps := 1000000) (disch := omega) only [go_sem, ↓reduceIte, Nat.reduceEqDiff, Nat.reduceAdd, Nat.reduceMul, Nat.reduceSub, Nat.reduceMod, Nat.reduceLeDiff, Nat.reduceLT, Nat.reduceBEq, reduceCtorEq, Int.reduceLT, Int.reduceLE, Int.reduceToNat, Int.reduceEq, Int.reduceAdd]; rfl); (all_goals first | (intro hb; (try simp only [decide_eq_true_eq, decide_eq_false_iff_not, beq_iff_eq, beq_eq_false_iff_ne, bne_iff_ne, bne_eq_false_iff_eq, ne_eq, Bool.not_eq_true, Bool.not_eq_false, Bool.not_true, Bool.not_false, Bool.not_eq_eq_eq_not, Int.not_lt, Int.not_le, gt_iff_lt, ge_iff_le, Bool.cond_eq_ite, Bool.if_false_right, Bool.if_true_left, Bool.and_eq_true, Bool.or_eq_true, Bool.and_eq_false_imp, Bool.or_eq_false_iff, Decidable.not_not, beq_true, beq_false, iteT, iteF, cond_true, cond_false] at hb)) | skip)) | exact atN_intro | ((first | apply cw_if | apply cw_cond); (case hc => simp (maxSteps := 1000000) (disch := omega) only [go_sem, ↓reduceIte, Nat.reduceEqDiff, Nat.reduceAdd, Nat.reduceMul, Nat.reduceSub, Nat.reduceMod, Nat.reduceLeDiff, Nat.reduceLT, Nat.reduceBEq, reduceCtorEq, Int.reduceLT, Int.reduceLE, Int.reduceToNat, Int.reduceEq, Int.reduceAdd]; rfl); (all_goals (intro hb; (try simp only [decide_eq_true_eq, decide_eq_false_iff_not, beq_iff_eq, beq_eq_false_iff_ne, bne_iff_ne, bne_eq_false_iff_eq, ne_eq, Bool.not_eq_true, Bool.not_eq_false, Bool.not_true, Bool.not_false, Bool.not_eq_eq_eq_not, Int.not_lt, Int.not_le, gt_iff_lt, ge_iff_le, Bool.cond_eq_ite, Bool.if_false_right, Bool.if_true_left, Bool.and_eq_true, Bool.or_eq_true, Bool.and_eq_false_imp, Bool.or_eq_false_iff, Decidable.not_not, beq_true, beq_false, iteT, iteF, cond_true, cond_false] at hb); try (exfalso; omega)))) | (refine cw_blocks (fun KB hB => ?_)) | (refine cw_block ?_) | ((first | refine cw_exits ?_ | refine cw_exit ?_ | refine cw_skip ?_); simp (maxSteps := 1000000) (disch := omega) only [go_sem, ↓reduceIte, Nat.reduceEqDiff, Nat.reduceAdd, Nat.reduceMul, Nat.reduceSub, Nat.reduceMod, Nat.reduceLeDiff, Nat.reduceLT, Nat.reduceBEq, reduceCtorEq, Int.reduceLT, Int.reduceLE, Int.reduceToNat, Int.reduceEq, Int.reduceAdd]) | (refine hB _ ?_; clear hB KB) | (refine exit_by (S := Sg) (by assumption) ?_) | ((first | refine cw_rets ?_ | refine cw_ret ?_); simp (maxSteps := 1000000) (disch := omega) only [go_sem, ↓reduceIte, Nat.reduceEqDiff, Nat.reduceAdd, Nat.reduceMul, Nat.reduceSub, Nat.reduceMod, Nat.reduceLeDiff, Nat.reduceLT, Nat.reduceBEq, reduceCtorEq, Int.reduceLT, Int.reduceLE, Int.reduceToNat, Int.reduceEq, Int.reduceAdd]; (try clear hB KB); (try clear hK K)))
            any_goals (focus (simp only [beq_eq_false_iff_ne, ne_eq]; omega))
            any_goals (focus (rintro ⟨q1, q2⟩; refine ⟨⟨q1, q2⟩, ?_⟩; simp only [beq_eq_false_iff_ne, ne_eq] at q1; omega))
            repeat' (first | ((first | ((with_reducible refine cw_stepDK (id := 27) [] (by decide +kernel) (by decide +kernel) ?_ (fun K hK => ?_)); (focus (intro iw hiw; (try simp (maxSteps := 1000000) (disch := omega) only [go_sem, ↓reduceIte, Nat.reduceEqDiff, Nat.reduceAdd, Nat.reduceMul, Nat.reduceSub, Nat.reduceMod, Nat.reduceLeDiff, Nat.reduceLT, Nat.reduceBEq, reduceCtorEq, Int.reduceLT, Int.reduceLE, Int.reduceToNat, Int.reduceEq, Int.reduceAdd] at hiw ⊢); (repeat (first | rfl | rw [if_neg (by omega)])); done))) | ((with_reducible refine cw_lastDK (id := 27) [] (by decide +kernel) (by decide +kernel) ?_ (fun K hK => ?_)); (focus (intro iw hiw; (try simp (maxSteps := 1000000) (disch := omega) only [go_sem, ↓reduceIte, Nat.reduceEqDiff, Nat.reduceAdd, Nat.reduceMul, Nat.reduceSub, Nat.reduceMod, Nat.reduceLeDiff, Nat.reduceLT, Nat.reduceBEq, reduceCtorEq, Int.reduceLT, Int.reduceLE, Int.reduceToNat, Int.reduceEq, Int.reduceAdd] at hiw ⊢); (repeat (first | rfl | rw [if_neg (by omega)])); done)))); (try simp (maxSteps := 1000000) (disch := omega) only [go_sem, ↓reduceIte, Nat.reduceEqDiff, Nat.reduceAdd, Nat.reduceMul, Nat.reduceSub, Nat.reduceMod, Nat.reduceLeDiff, Nat.reduceLT, Nat.reduceBEq, reduceCtorEq, Int.reduceLT, Int.reduceLE, Int.reduceToNat, Int.reduceEq, Int.reduceAdd]); (repeat' (refine And.intro ?_ ?_)); (all_goals first | (refine hK _ (by simp (maxSteps := 1000000) (disch := omega) only [go_sem, ↓reduceIte, Nat.reduceEqDiff, Nat.reduceAdd, Nat.reduceMul, Nat.reduceSub, Nat.reduceMod, Nat.reduceLeDiff, Nat.reduceLT, Nat.reduceBEq, reduceCtorEq, Int.reduceLT, Int.reduceLE, Int.reduceToNat, Int.reduceEq, Int.reduceAdd]) ?_; clear hK K) | exact auto_cl | skip)) | refine cw_assoc ?_ | refine cw_skips ?_ | refine cw_labels ?_ | ((first | refine cw_step (fun K hK => ?_) | refine cw_last (fun K hK => ?_) | refine cw_stepD (by decide +kernel) (by decide +kernel) (fun K hK => ?_) | refine cw_lastD (by decide +kernel) (by decide +kernel) (fun K hK => ?_) | refine rgB_some ?_ | refine call_a (op_spec _ _ _ (gCanvas s) _ (gMax s.bits) hraw1 (by omega) (by omega) hcb.1 hcb.2.1 hcb.2.2.1 hcb.2.2.2 h3m) ?_ | refine gcall_a (fun hg => op_spec _ _ _ (gCanvas s) _ (gMax s.bits) hraw1 (by omega) (by omega) hcb.1 hcb.2.1 hcb.2.2.1 hcb.2.2.2 h3m) ?_); (try simp (maxSteps := 1000000) (disch := omega) only [go_sem, ↓reduceIte, Nat.reduceEqDiff, Nat.reduceAdd, Nat.reduceMul, Nat.reduceSub, Nat.reduceMod, Nat.reduceLeDiff, Nat.reduceLT, Nat.reduceBEq, reduceCtorEq, Int.reduceLT, Int.reduceLE, Int.reduceToNat, Int.reduceEq, Int.reduceAdd]); (repeat' (refine And.intro ?_ ?_)); (all_goals first | (refine hK _ ?_; clear hK K) | exact auto_cl | skip)) | ((first | apply cw_ite | apply cw_iteN); (case hf => rfl); (case hc => simp (maxSteps := 1000000) (disch := omega) only [go_sem, ↓reduceIte, Nat.reduceEqDiff, Nat.reduceAdd, Nat.reduceMul, Nat.reduceSub, Nat.reduceMod, Nat.reduceLeDiff, Nat.reduceLT, Nat.reduceBEq, reduceCtorEq, Int.reduceLT, Int.reduceLE, Int.reduceToNat, Int.reduceEq, Int.reduceAdd]; rfl); (all_goals first | (intro hb; (try simp only [decide_eq_true_eq, decide_eq_false_iff_not, beq_iff_eq, beq_eq_false_iff_ne, bne_iff_ne, bne_eq_false_iff_eq, ne_eq, Bool.not_eq_true, Bool.not_eq_false, Bool.not_true, Bool.not_false, Bool.not_eq_eq_eq_not, Int.not_lt, Int.not_le, gt_iff_lt, ge_iff_le, Bool.cond_eq_ite, Bool.if_false_right, Bool.if_true_left, Bool.and_eq_true, Bool.or_eq_true, Bool.and_eq_false_imp, Bool.or_eq_false_iff, Decidable.not_not, beq_true, beq_false, iteT, iteF, cond_true, cond_false] at hb)) | skip)) | exact atN_intro | ((first | apply cw_if | apply cw_cond); (case hc => simp (maxSteps := 1000000) (disch := omega) only [go_sem, ↓reduceIte, Nat.reduceEqDiff, Nat.reduceAdd, Nat.reduceMul, Nat.reduceSub, Nat.reduceMod, Nat.reduceLeDiff, Nat.reduceLT, Nat.reduceBEq, reduceCtorEq, Int.reduceLT, Int.reduceLE, Int.reduceToNat, Int.reduceEq, Int.reduceAdd]; rfl); (all_goals (intro hb; (try simp only [decide_eq_true_eq, decide_eq_false_iff_not, beq_iff_eq, beq_eq_false_iff_ne, bne_iff_ne, bne_eq_false_iff_eq, ne_eq, Bool.not_eq_true, Bool.not_eq_false, Bool.not_true, Bool.not_false, Bool.not_eq_eq_eq_not, Int.not_lt, Int.not_le, gt_iff_lt, ge_iff_le, Bool.cond_eq_ite, Bool.if_false_right, Bool.if_true_left, Bool.and_eq_true, Bool.or_eq_true, Bool.and_eq_false_imp, Bool.or_eq_false_iff, Decidable.not_not, beq_true, beq_false, iteT, iteF, cond_true, cond_false] at hb); try (exfalso; omega)))) | (refine cw_blocks (fun KB hB => ?_)) | (refine cw_block ?_) | ((first | refine cw_exits ?_ | refine cw_exit ?_ | refine cw_skip ?_); simp (maxSteps := 1000000) (disch := omega) only [go_sem, ↓reduceIte, Nat.reduceEqDiff, Nat.reduceAdd, Nat.reduceMul, Nat.reduceSub, Nat.reduceMod, Nat.reduceLeDiff, Nat.reduceLT, Nat.reduceBEq, reduceCtorEq, Int.reduceLT, Int.reduceLE, Int.reduceToNat, Int.reduceEq, Int.reduceAdd]) | (refine hB _ ?_; clear hB KB) | (refine exit_by (S := Sg) (by assumption) ?_) | ((first | refine cw_rets ?_ | refine cw_ret ?_); simp (maxSteps := 1000000) (disch := omega) only [go_sem, ↓reduceIte, Nat.reduceEqDiff, Nat.reduceAdd, Nat.reduceMul, Nat.reduceSub, Nat.reduceMod, Nat.reduceLeDiff, Nat.reduceLT, Nat.reduceBEq, reduceCtorEq, Int.reduceLT, Int.reduceLE, Int.reduceToNat, Int.reduceEq, Int.reduceAdd]; (try clear hB KB); (try clear hK K)))
            refine hK _ trivial ?_
            clear hK
            have hfr : ((l.length : Int) == 0 || ((l ++ jk).getD ((l.length : Int) - 1).toNat default).isolated && !((l ++ jk).getD ((l.length : Int) - 1).toNat default).knockout) = ctxOk l := by
              cases hl0 : l with
              | nil => rfl
              | cons a r =>
                rw [← hl0]
                have hpos : 0 < l.length := by rw [hl0]; simp
                have e1 : ((l.length : Int) - 1).toNat = l.length - 1 := by omega
                have e2 : (l ++ jk).getD (l.length - 1) default = l.getD (l.length - 1) default := by
                  rw [List.getD_eq_getElem?_getD, List.getD_eq_getElem?_getD, List.getElem?_append_left (by omega)]
                have e3 : ((l.length : Int) == 0) = false := beq_eq_false_iff_ne.2 (by omega)
                have e4 : l.isEmpty = false := by rw [hl0]; rfl
                rw [e1, e2, e3, ctxOk, e4]
            generalize hO : gOp (s.ops.getD i default) (decide ((s.ops.getD i default).kind % 8 < 3)) (gImages s).length (gCanvas s).x0 (gCanvas s).y0 (ctxOk l) (gMax s.bits) = O at *
            by_cases hp : (s.ops.getD i default).kind % 8 < 3
            · have gk : ∀ f x y, ((gOp (s.ops.getD i default) (decide ((s.ops.getD i default).kind % 8 < 3)) (gImages s).length x y f (gMax s.bits)).kind == 2) = true := fun f x y => by rw [decide_eq_true hp]; rfl
              repeat' (first | ((first | apply cw_ifT | apply cw_condT); (case hc => simp (maxSteps := 1000000) (disch := omega) only [go_sem, ↓reduceIte, Nat.reduceEqDiff, Nat.reduceAdd, Nat.reduceMul, Nat.reduceSub, Nat.reduceMod, Nat.reduceLeDiff, Nat.reduceLT, Nat.reduceBEq, reduceCtorEq, Int.reduceLT, Int.reduceLE, Int.reduceToNat, Int.reduceEq, Int.reduceAdd]; rfl); (case ht => (simp only [Int.toNat_natCast, Int.reduceBEq, Int.reduceBNe, Int.reduceLT, Int.reduceLE, decide_true, decide_false, Bool.not_true, Bool.not_false, Bool.and_true, Bool.true_and, Bool.and_false, Bool.false_and, Bool.or_true, Bool.true_or, Bool.or_false, Bool.false_or, gk]; done))) | ((first | apply cw_ifF | apply cw_condF); (case hc => simp (maxSteps := 1000000) (disch := omega) only [go_sem, ↓reduceIte, Nat.reduceEqDiff, Nat.reduceAdd, Nat.reduceMul, Nat.reduceSub, Nat.reduceMod, Nat.reduceLeDiff, Nat.reduceLT, Nat.reduceBEq, reduceCtorEq, Int.reduceLT, Int.reduceLE, Int.reduceToNat, Int.reduceEq, Int.reduceAdd]; rfl); (case ht => (simp only [Int.toNat_natCast, Int.reduceBEq, Int.reduceBNe, Int.reduceLT, Int.reduceLE, decide_true, decide_false, Bool.not_true, Bool.not_false, Bool.and_true, Bool.true_and, Bool.and_false, Bool.false_and, Bool.or_true, Bool.true_or, Bool.or_false, Bool.false_or, gk]; done))) | refine cw_assoc ?_ | refine cw_skips ?_ | refine cw_labels ?_ | ((first | refine cw_step (fun K hK => ?_) | refine cw_last (fun K hK => ?_) | refine cw_stepD (by decide +kernel) (by decide +kernel) (fun K hK => ?_) | refine cw_lastD (by decide +kernel) (by decide +kernel) (fun K hK => ?_) | refine rgB_some ?_); (try simp (maxSteps := 1000000) (disch := omega) only [go_sem, ↓reduceIte, Nat.reduceEqDiff, Nat.reduceAdd, Nat.reduceMul, Nat.reduceSub, Nat.reduceMod, Nat.reduceLeDiff, Nat.reduceLT, Nat.reduceBEq, reduceCtorEq, Int.reduceLT, Int.reduceLE, Int.reduceToNat, Int.reduceEq, Int.reduceAdd]); (repeat' (refine And.intro ?_ ?_)); (all_goals first | (refine hK _ ?_; clear hK K) | exact auto_cl | skip)) | ((first | apply cw_ite | apply cw_iteN); (case hf => rfl); (case hc => simp (maxSteps := 1000000) (disch := omega) only [go_sem, ↓reduceIte, Nat.reduceEqDiff, Nat.reduceAdd, Nat.reduceMul, Nat.reduceSub, Nat.reduceMod, Nat.reduceLeDiff, Nat.reduceLT, Nat.reduceBEq, reduceCtorEq, Int.reduceLT, Int.reduceLE, Int.reduceToNat, Int.reduceEq, Int.reduceAdd]; rfl); (all_goals first | (intro hb; (try simp only [decide_eq_true_eq, decide_eq_false_iff_not, beq_iff_eq, beq_eq_false_iff_ne, bne_iff_ne, bne_eq_false_iff_eq, ne_eq, Bool.not_eq_true, Bool.not_eq_false, Bool.not_true, Bool.not_false, Bool.not_eq_eq_eq_not, Int.not_lt, Int.not_le, gt_iff_lt, ge_iff_le, Bool.cond_eq_ite, Bool.if_false_right, Bool.if_true_left, Bool.and_eq_true, Bool.or_eq_true, Bool.and_eq_false_imp, Bool.or_eq_false_iff, Decidable.not_not, beq_true, beq_false, iteT, iteF, cond_true, cond_false] at hb)) | skip)) | exact atN_intro | ((first | apply cw_if | apply cw_cond); (case hc => simp (maxSteps := 1000000) (disch := omega) only [go_sem, ↓reduceIte, Nat.reduceEqDiff, Nat.reduceAdd, Nat.reduceMul, Nat.reduceSub, Nat.reduceMod, Nat.reduceLeDiff, Nat.reduceLT, Nat.reduceBEq, reduceCtorEq, Int.reduceLT, Int.reduceLE, Int.reduceToNat, Int.reduceEq, Int.reduceAdd]; rfl); (all_goals (intro hb; (try simp only [decide_eq_true_eq, decide_eq_false_iff_not, beq_iff_eq, beq_eq_false_iff_ne, bne_iff_ne, bne_eq_false_iff_eq, ne_eq, Bool.not_eq_true, Bool.not_eq_false, Bool.not_true, Bool.not_false, Bool.not_eq_eq_eq_not, Int.not_lt, Int.not_le, gt_iff_lt, ge_iff_le, Bool.cond_eq_ite, Bool.if_false_right, Bool.if_true_left, Bool.and_eq_true, Bool.or_eq_true, Bool.and_eq_false_imp, Bool.or_eq_false_iff, Decidable.not_not, beq_true, beq_false, iteT, iteF, cond_true, cond_false] at hb); try (exfalso; omega)))) | (refine cw_blocks (fun KB hB => ?_)) | (refine cw_block ?_) | ((first | refine cw_exits ?_ | refine cw_exit ?_ | refine cw_skip ?_); simp (maxSteps := 1000000) (disch := omega) only [go_sem, ↓reduceIte, Nat.reduceEqDiff, Nat.reduceAdd, Nat.reduceMul, Nat.reduceSub, Nat.reduceMod, Nat.reduceLeDiff, Nat.reduceLT, Nat.reduceBEq, reduceCtorEq, Int.reduceLT, Int.reduceLE, Int.reduceToNat, Int.reduceEq, Int.reduceAdd]) | (refine hB _ ?_; clear hB KB) | (refine exit_by (S := Sg) (by assumption) ?_) | ((first | refine cw_rets ?_ | refine cw_ret ?_); simp (maxSteps := 1000000) (disch := omega) only [go_sem, ↓reduceIte, Nat.reduceEqDiff, Nat.reduceAdd, Nat.reduceMul, Nat.reduceSub, Nat.reduceMod, Nat.reduceLeDiff, Nat.reduceLT, Nat.reduceBEq, reduceCtorEq, Int.reduceLT, Int.reduceLE, Int.reduceToNat, Int.reduceEq, Int.reduceAdd]; (try clear hB KB); (try clear hK K)))
              rw [thenQ_normal]
              simp only [hfr, Int.toNat_natCast, hO]
              refine wk_loop (i + 1, ops ++ [O], l ++ [O], []) ?_ ⟨by dsimp only; omega, by dsimp only; omega, hstep hc.1 _ (by rw [gStep, if_neg hk0, if_pos hp]; dsimp only; rw [hO]), by simp; omega, by simp; omega⟩ (by dsimp only; omega)
              simp only [List.append_nil, List.length_nil, Nat.add_zero]
              refine le_of [(1, some 1), (2, some 2), (3, some 7), (4, some 9)] rfl (by decide) rfl ?_ ?_
              all_goals simp (maxSteps := 1000000) (disch := omega) only [go_sem, ↓reduceIte, Nat.reduceEqDiff, Nat.reduceAdd, Nat.reduceMul, Nat.reduceSub, Nat.reduceMod, Nat.reduceLeDiff, Nat.reduceLT, Nat.reduceBEq, reduceCtorEq, Int.reduceLT, Int.reduceLE, Int.reduceToNat, Int.reduceEq, Int.reduceAdd]
              repeat' (refine And.intro ?_ ?_)
              all_goals first | rfl | omega | exact .inl rfl | trivial | skip
              · simp
              · simp
              · simp
              · refine .inr fun a ha j hj => arr_push (fun j hj => ?_) a ha j hj
                have hivl : j = 0 ∨ j = 1 ∨ j = 2 ∨ j = 3 ∨ j = 4 ∨ j = 5 ∨ j = 6 ∨ j = 7 ∨ j = 8 ∨ j = 9 ∨ j = 10 ∨ j = 11 := by omega
                rcases hivl with rfl | rfl | rfl | rfl | rfl | rfl | rfl | rfl | rfl | rfl | rfl | rfl <;> rfl
              · simp
              · refine .inr fun a ha j hj => arr_push_junk (fun j hj => ?_) a ha j hj
                have hivl : j = 0 ∨ j = 1 ∨ j = 2 ∨ j = 3 ∨ j = 4 ∨ j = 5 ∨ j = 6 ∨ j = 7 ∨ j = 8 ∨ j = 9 ∨ j = 10 ∨ j = 11 := by omega
                rcases hivl with rfl | rfl | rfl | rfl | rfl | rfl | rfl | rfl | rfl | rfl | rfl | rfl <;> rfl
            · have gk : ∀ f x y, ((gOp (s.ops.getD i default) (decide ((s.ops.getD i default).kind % 8 < 3)) (gImages s).length x y f (gMax s.bits)).kind == 2) = false := fun f x y => by rw [decide_eq_false hp]; rfl
              repeat' (first | ((first | apply cw_ifT | apply cw_condT); (case hc => simp (maxSteps := 1000000) (disch := omega) only [go_sem, ↓reduceIte, Nat.reduceEqDiff, Nat.reduceAdd, Nat.reduceMul, Nat.reduceSub, Nat.reduceMod, Nat.reduceLeDiff, Nat.reduceLT, Nat.reduceBEq, reduceCtorEq, Int.reduceLT, Int.reduceLE, Int.reduceToNat, Int.reduceEq, Int.reduceAdd]; rfl); (case ht => (simp only [Int.toNat_natCast, Int.reduceBEq, Int.reduceBNe, Int.reduceLT, Int.reduceLE, decide_true, decide_false, Bool.not_true, Bool.not_false, Bool.and_true, Bool.true_and, Bool.and_false, Bool.false_and, Bool.or_true, Bool.true_or, Bool.or_false, Bool.false_or, gk]; done))) | ((first | apply cw_ifF | apply cw_condF); (case hc => simp (maxSteps := 1000000) (disch := omega) only [go_sem, ↓reduceIte, Nat.reduceEqDiff, Nat.reduceAdd, Nat.reduceMul, Nat.reduceSub, Nat.reduceMod, Nat.reduceLeDiff, Nat.reduceLT, Nat.reduceBEq, reduceCtorEq, Int.reduceLT, Int.reduceLE, Int.reduceToNat, Int.reduceEq, Int.reduceAdd]; rfl); (case ht => (simp only [Int.toNat_natCast, Int.reduceBEq, Int.reduceBNe, Int.reduceLT, Int.reduceLE, decide_true, decide_false, Bool.not_true, Bool.not_false, Bool.and_true, Bool.true_and, Bool.and_false, Bool.false_and, Bool.or_true, Bool.true_or, Bool.or_false, Bool.false_or, gk]; done))) | refine cw_assoc ?_ | refine cw_skips ?_ | refine cw_labels ?_ | ((first | refine cw_step (fun K hK => ?_) | refine cw_last (fun K hK => ?_) | refine cw_stepD (by decide +kernel) (by decide +kernel) (fun K hK => ?_) | refine cw_lastD (by decide +kernel) (by decide +kernel) (fun K hK => ?_) | refine rgB_some ?_); (try simp (maxSteps := 1000000) (disch := omega) only [go_sem, ↓reduceIte, Nat.reduceEqDiff, Nat.reduceAdd, Nat.reduceMul, Nat.reduceSub, Nat.reduceMod, Nat.reduceLeDiff, Nat.reduceLT, Nat.reduceBEq, reduceCtorEq, Int.reduceLT, Int.reduceLE, Int.reduceToNat, Int.reduceEq, Int.reduceAdd]); (repeat' (refine And.intro ?_ ?_)); (all_goals first | (refine hK _ ?_; clear hK K) | exact auto_cl | skip)) | ((first | apply cw_ite | apply cw_iteN); (case hf => rfl); (case hc => simp (maxSteps := 1000000) (disch := omega) only [go_sem, ↓reduceIte, Nat.reduceEqDiff, Nat.reduceAdd, Nat.reduceMul, Nat.reduceSub, Nat.reduceMod, Nat.reduceLeDiff, Nat.reduceLT, Nat.reduceBEq, reduceCtorEq, Int.reduceLT, Int.reduceLE, Int.reduceToNat, Int.reduceEq, Int.reduceAdd]; rfl); (all_goals first | (intro hb; (try simp only [decide_eq_true_eq, decide_eq_false_iff_not, beq_iff_eq, beq_eq_false_iff_ne, bne_iff_ne, bne_eq_false_iff_eq, ne_eq, Bool.not_eq_true, Bool.not_eq_false, Bool.not_true, Bool.not_false, Bool.not_eq_eq_eq_not, Int.not_lt, Int.not_le, gt_iff_lt, ge_iff_le, Bool.cond_eq_ite, Bool.if_false_right, Bool.if_true_left, Bool.and_eq_true, Bool.or_eq_true, Bool.and_eq_false_imp, Bool.or_eq_false_iff, Decidable.not_not, beq_true, beq_false, iteT, iteF, cond_true, cond_false] at hb)) | skip)) | exact atN_intro | ((first | apply cw_if | apply cw_cond); (case hc => simp (maxSteps := 1000000) (disch := omega) only [go_sem, ↓reduceIte, Nat.reduceEqDiff, Nat.reduceAdd, Nat.reduceMul, Nat.reduceSub, Nat.reduceMod, Nat.reduceLeDiff, Nat.reduceLT, Nat.reduceBEq, reduceCtorEq, Int.reduceLT, Int.reduceLE, Int.reduceToNat, Int.reduceEq, Int.reduceAdd]; rfl); (all_goals (intro hb; (try simp only [decide_eq_true_eq, decide_eq_false_iff_not, beq_iff_eq, beq_eq_false_iff_ne, bne_iff_ne, bne_eq_false_iff_eq, ne_eq, Bool.not_eq_true, Bool.not_eq_false, Bool.not_true, Bool.not_false, Bool.not_eq_eq_eq_not, Int.not_lt, Int.not_le, gt_iff_lt, ge_iff_le, Bool.cond_eq_ite, Bool.if_false_right, Bool.if_true_left, Bool.and_eq_true, Bool.or_eq_true, Bool.and_eq_false_imp, Bool.or_eq_false_iff, Decidable.not_not, beq_true, beq_false, iteT, iteF, cond_true, cond_false] at hb); try (exfalso; omega)))) | (refine cw_blocks (fun KB hB => ?_)) | (refine cw_block ?_) | ((first | refine cw_exits ?_ | refine cw_exit ?_ | refine cw_skip ?_); simp (maxSteps := 1000000) (disch := omega) only [go_sem, ↓reduceIte, Nat.reduceEqDiff, Nat.reduceAdd, Nat.reduceMul, Nat.reduceSub, Nat.reduceMod, Nat.reduceLeDiff, Nat.reduceLT, Nat.reduceBEq, reduceCtorEq, Int.reduceLT, Int.reduceLE, Int.reduceToNat, Int.reduceEq, Int.reduceAdd]) | (refine hB _ ?_; clear hB KB) | (refine exit_by (S := Sg) (by assumption) ?_) | ((first | refine cw_rets ?_ | refine cw_ret ?_); simp (maxSteps := 1000000) (disch := omega) only [go_sem, ↓reduceIte, Nat.reduceEqDiff, Nat.reduceAdd, Nat.reduceMul, Nat.reduceSub, Nat.reduceMod, Nat.reduceLeDiff, Nat.reduceLT, Nat.reduceBEq, reduceCtorEq, Int.reduceLT, Int.reduceLE, Int.reduceToNat, Int.reduceEq, Int.reduceAdd]; (try clear hB KB); (try clear hK K)))
              rw [thenQ_normal]
              simp only [hfr, Int.toNat_natCast, hO]
              refine wk_loop (i + 1, ops ++ [O], l, jk) ?_ ⟨by dsimp only; omega, by dsimp only; omega, hstep hc.1 _ (by rw [gStep, if_neg hk0, if_neg hp]; dsimp only; rw [hO]), by simp; omega, by dsimp only; omega⟩ (by dsimp only; omega)
              dsimp only
              refine le_of [(1, some 1), (2, some 2), (3, some 7), (4, some 4)] rfl (by decide) rfl ?_ ?_
              all_goals simp (maxSteps := 1000000) (disch := omega) only [go_sem, ↓reduceIte, Nat.reduceEqDiff, Nat.reduceAdd, Nat.reduceMul, Nat.reduceSub, Nat.reduceMod, Nat.reduceLeDiff, Nat.reduceLT, Nat.reduceBEq, reduceCtorEq, Int.reduceLT, Int.reduceLE, Int.reduceToNat, Int.reduceEq, Int.reduceAdd]
              repeat' (refine And.intro ?_ ?_)
              all_goals first | rfl | omega | exact .inl rfl | trivial | skip
              · simp
              · simp
              · refine .inr fun a ha j hj => arr_push (fun j hj => ?_) a ha j hj
                have hivl : j = 0 ∨ j = 1 ∨ j = 2 ∨ j = 3 ∨ j = 4 ∨ j = 5 ∨ j = 6 ∨ j = 7 ∨ j = 8 ∨ j = 9 ∨ j = 10 ∨ j = 11 := by omega
                rcases hivl with rfl | rfl | rfl | rfl | rfl | rfl | rfl | rfl | rfl | rfl | rfl | rfl <;> rfl
        · repeat' (first | refine cw_assoc ?_ | refine cw_skips ?_ | refine cw_labels ?_ | ((first | refine cw_step (fun K hK => ?_) | refine cw_last (fun K hK => ?_) | refine cw_stepD (by decide +kernel) (by decide +kernel) (fun K hK => ?_) | refine cw_lastD (by decide +kernel) (by decide +kernel) (fun K hK => ?_) | refine rgB_some ?_); (try simp (maxSteps := 1000000) (disch := omega) only [go_sem, ↓reduceIte, Nat.reduceEqDiff, Nat.reduceAdd, Nat.reduceMul, Nat.reduceSub, Nat.reduceMod, Nat.reduceLeDiff, Nat.reduceLT, Nat.reduceBEq, reduceCtorEq, Int.reduceLT, Int.reduceLE, Int.reduceToNat, Int.reduceEq, Int.reduceAdd]); (repeat' (refine And.intro ?_ ?_)); (all_goals first | (refine hK _ ?_; clear hK K) | exact auto_cl | skip)) | ((first | apply cw_ite | apply cw_iteN); (case hf => rfl); (case hc => simp (maxSteps := 1000000) (disch := omega) only [go_sem, ↓reduceIte, Nat.reduceEqDiff, Nat.reduceAdd, Nat.reduceMul, Nat.reduceSub, Nat.reduceMod, Nat.reduceLeDiff, Nat.reduceLT, Nat.reduceBEq, reduceCtorEq, Int.reduceLT, Int.reduceLE, Int.reduceToNat, Int.reduceEq, Int.reduceAdd]; rfl); (all_goals first | (intro hb; (try simp only [decide_eq_true_eq, decide_eq_false_iff_not, beq_iff_eq, beq_eq_false_iff_ne, bne_iff_ne, bne_eq_false_iff_eq, ne_eq, Bool.not_eq_true, Bool.not_eq_false, Bool.not_true, Bool.not_false, Bool.not_eq_eq_eq_not, Int.not_lt, Int.not_le, gt_iff_lt, ge_iff_le, Bool.cond_eq_ite, Bool.if_false_right, Bool.if_true_left, Bool.and_eq_true, Bool.or_eq_true, Bool.and_eq_false_imp, Bool.or_eq_false_iff, Decidable.not_not, beq_true, beq_false, iteT, iteF, cond_true, cond_false] at hb)) | skip)) | exact atN_intro | ((first | apply cw_if | apply cw_cond); (case hc => simp (maxSteps := 1000000) (disch := omega) only [go_sem, ↓reduceIte, Nat.reduceEqDiff, Nat.reduceAdd, Nat.reduceMul, Nat.reduceSub, Nat.reduceMod, Nat.reduceLeDiff, Nat.reduceLT, Nat.reduceBEq, reduceCtorEq, Int.reduceLT, Int.reduceLE, Int.reduceToNat, Int.reduceEq, Int.reduceAdd]; rfl); (all_goals (intro hb; (try simp only [decide_eq_true_eq, decide_eq_false_iff_not, beq_iff_eq, beq_eq_false_iff_ne, bne_iff_ne, bne_eq_false_iff_eq, ne_eq, Bool.not_eq_true, Bool.not_eq_false, Bool.not_true, Bool.not_false, Bool.not_eq_eq_eq_not, Int.not_lt, Int.not_le, gt_iff_lt, ge_iff_le, Bool.cond_eq_ite, Bool.if_false_right, Bool.if_true_left, Bool.and_eq_true, Bool.or_eq_true, Bool.and_eq_false_imp, Bool.or_eq_false_iff, Decidable.not_not, beq_true, beq_false, iteT, iteF, cond_true, cond_false] at hb); try (exfalso; omega)))) | (refine cw_blocks (fun KB hB => ?_)) | (refine cw_block ?_) | ((first | refine cw_exits ?_ | refine cw_exit ?_ | refine cw_skip ?_); simp (maxSteps := 1000000) (disch := omega) only [go_sem, ↓reduceIte, Nat.reduceEqDiff, Nat.reduceAdd, Nat.reduceMul, Nat.reduceSub, Nat.reduceMod, Nat.reduceLeDiff, Nat.reduceLT, Nat.reduceBEq, reduceCtorEq, Int.reduceLT, Int.reduceLE, Int.reduceToNat, Int.reduceEq, Int.reduceAdd]) | (refine hB _ ?_; clear hB KB) | (refine exit_by (S := Sg) (by assumption) ?_) | ((first | refine cw_rets ?_ | refine cw_ret ?_); simp (maxSteps := 1000000) (disch := omega) only [go_sem, ↓reduceIte, Nat.reduceEqDiff, Nat.reduceAdd, Nat.reduceMul, Nat.reduceSub, Nat.reduceMod, Nat.reduceLeDiff, Nat.reduceLT, Nat.reduceBEq, reduceCtorEq, Int.reduceLT, Int.reduceLE, Int.reduceToNat, Int.reduceEq, Int.reduceAdd]; (try clear hB KB); (try clear hK K)))
          have hc2 : i = s.ops.length ∨ i = 9 := by omega
          have hfin : gOps s = (ops, l) := by
            rw [gOps, ← hf]
            rcases hc2 with h | h
            · rw [h, List.take_of_length_le (Nat.le_refl _), List.take_of_length_le (by omega)]
            · rw [h]
          refine hV2 _ (mkSt [(1, .b (.c (.ptr 0 0))), (2, .b (.c (.ptr 1 0))), (4, .b (.c (.ptr 2 0))), (13, .b (.c (.own 4 l.length)))]
            [(0, .fix ((sceneE s).map CV.p)), (1, .fix ((List.range 10).map fun _ => CV.p .any)), (2, .fix [.p (PI (gScript s).bits), .p (PI (gCanvas s).x0), .p (PI (gCanvas s).y0), .p (PI (gCanvas s).x1), .p (PI (gCanvas s).y1), .p (PI (gTileW s)), .p (PI (gTileH s)), .p (ints (gScript s).order), .p (imgL (gImages s)), .own 3 ops.length]),
             (3, .arr 34 12 ops.length (fnOf opE ops)), (4, .arr 34 12 (l.length + jk.length) (fnOf opE (l ++ jk)))] 5) ?_ ?_
          · refine le_of [(1, some 1), (2, some 2), (3, some 3), (4, some 4)] rfl (by decide) rfl ?_ ?_
            all_goals simp (maxSteps := 1000000) (disch := omega) only [go_sem, ↓reduceIte, Nat.reduceEqDiff, Nat.reduceAdd, Nat.reduceMul, Nat.reduceSub, Nat.reduceMod, Nat.reduceLeDiff, Nat.reduceLT, Nat.reduceBEq, reduceCtorEq, Int.reduceLT, Int.reduceLE, Int.reduceToNat, Int.reduceEq, Int.reduceAdd]
            repeat' (refine And.intro ?_ ?_)
            all_goals first | rfl | omega | exact .inl rfl | trivial | skip
          clear hV2 hraw hstep hf
          refine cw_assoc ?_
          refine cw_step fun K hK => ?_
          simp (maxSteps := 1000000) (disch := omega) only [go_sem, ↓reduceIte, Nat.reduceEqDiff, Nat.reduceAdd, Nat.reduceMul, Nat.reduceSub, Nat.reduceMod, Nat.reduceLeDiff, Nat.reduceLT, Nat.reduceBEq, reduceCtorEq, Int.reduceLT, Int.reduceLE, Int.reduceToNat, Int.reduceEq, Int.reduceAdd]
          repeat' (refine And.intro ?_ ?_)
          all_goals first | (refine hK _ ?_; clear hK K) | exact auto_cl | skip
          refine cw_blocks fun KB3 hB3 => ?_
          refine cw_loop (X := Nat) (fun k => mkSt [(1, .b (.c (.ptr 0 0))), (2, .b (.c (.ptr 1 0))), (4, .b (.c (.ptr 2 0))), (13, .b (.c (.own 4 l.length))), (19, .b (I k))]
            [(0, .fix ((sceneE s).map CV.p)), (1, .fix ((List.range 10).map fun _ => CV.p .any)), (2, .fix [.p (PI (gScript s).bits), .p (PI (gCanvas s).x0), .p (PI (gCanvas s).y0), .p (PI (gCanvas s).x1), .p (PI (gCanvas s).y1), .p (PI (gTileW s)), .p (PI (gTileH s)), .p (ints (gScript s).order), .p (imgL (gImages s)), .own 3 (ops.length + k)]),
             (3, .arr 34 12 (ops.length + k) (fnOf opE (ops ++ List.replicate k popOp))), (4, .arr 34 12 (l.length + jk.length) (fnOf opE (l ++ jk)))] 5) (fun k => k ≤ l.length) (fun k => l.length - k) 0 ?_ ?_ ?_
          · omega
          · refine le_of [(1, some 1), (2, some 2), (3, some 3), (4, some 4)] rfl (by decide) rfl ?_ ?_
            all_goals simp (maxSteps := 1000000) (disch := omega) only [go_sem, ↓reduceIte, Nat.reduceEqDiff, Nat.reduceAdd, Nat.reduceMul, Nat.reduceSub, Nat.reduceMod, Nat.reduceLeDiff, Nat.reduceLT, Nat.reduceBEq, reduceCtorEq, Int.reduceLT, Int.reduceLE, Int.reduceToNat, Int.reduceEq, Int.reduceAdd]
            repeat' (refine And.intro ?_ ?_)
            all_goals first | rfl | omega | exact .inl rfl | trivial | skip
            exact .inl (by rw [List.replicate_zero, List.append_nil])
          · intro k hk
            repeat' (first | refine cw_assoc ?_ | refine cw_skips ?_ | refine cw_labels ?_ | ((first | refine cw_step (fun K hK => ?_) | refine cw_last (fun K hK => ?_) | refine cw_stepD (by decide +kernel) (by decide +kernel) (fun K hK => ?_) | refine cw_lastD (by decide +kernel) (by decide +kernel) (fun K hK => ?_) | refine rgB_some ?_); (try simp (maxSteps := 1000000) (disch := omega) only [go_sem, ↓reduceIte, Nat.reduceEqDiff, Nat.reduceAdd, Nat.reduceMul, Nat.reduceSub, Nat.reduceMod, Nat.reduceLeDiff, Nat.reduceLT, Nat.reduceBEq, reduceCtorEq, Int.reduceLT, Int.reduceLE, Int.reduceToNat, Int.reduceEq, Int.reduceAdd]); (repeat' (refine And.intro ?_ ?_)); (all_goals first | (refine hK _ ?_; clear hK K) | exact auto_cl | skip)) | ((first | apply cw_ite | apply cw_iteN); (case hf => rfl); (case hc => simp (maxSteps := 1000000) (disch := omega) only [go_sem, ↓reduceIte, Nat.reduceEqDiff, Nat.reduceAdd, Nat.reduceMul, Nat.reduceSub, Nat.reduceMod, Nat.reduceLeDiff, Nat.reduceLT, Nat.reduceBEq, reduceCtorEq, Int.reduceLT, Int.reduceLE, Int.reduceToNat, Int.reduceEq, Int.reduceAdd]; rfl); (all_goals first | (intro hb; (try simp only [decide_eq_true_eq, decide_eq_false_iff_not, beq_iff_eq, beq_eq_false_iff_ne, bne_iff_ne, bne_eq_false_iff_eq, ne_eq, Bool.not_eq_true, Bool.not_eq_false, Bool.not_true, Bool.not_false, Bool.not_eq_eq_eq_not, Int.not_lt, Int.not_le, gt_iff_lt, ge_iff_le, Bool.cond_eq_ite, Bool.if_false_right, Bool.if_true_left, Bool.and_eq_true, Bool.or_eq_true, Bool.and_eq_false_imp, Bool.or_eq_false_iff, Decidable.not_not, beq_true, beq_false, iteT, iteF, cond_true, cond_false] at hb)) | skip)) | exact atN_intro | ((first | apply cw_if | apply cw_cond); (case hc => simp (maxSteps := 1000000) (disch := omega) only [go_sem, ↓reduceIte, Nat.reduceEqDiff, Nat.reduceAdd, Nat.reduceMul, Nat.reduceSub, Nat.reduceMod, Nat.reduceLeDiff, Nat.reduceLT, Nat.reduceBEq, reduceCtorEq, Int.reduceLT, Int.reduceLE, Int.reduceToNat, Int.reduceEq, Int.reduceAdd]; rfl); (all_goals (intro hb; (try simp only [decide_eq_true_eq, decide_eq_false_iff_not, beq_iff_eq, beq_eq_false_iff_ne, bne_iff_ne, bne_eq_false_iff_eq, ne_eq, Bool.not_eq_true, Bool.not_eq_false, Bool.not_true, Bool.not_false, Bool.not_eq_eq_eq_not, Int.not_lt, Int.not_le, gt_iff_lt, ge_iff_le, Bool.cond_eq_ite, Bool.if_false_right, Bool.if_true_left, Bool.and_eq_true, Bool.or_eq_true, Bool.and_eq_false_imp, Bool.or_eq_false_iff, Decidable.not_not, beq_true, beq_false, iteT, iteF, cond_true, cond_false] at hb); try (exfalso; omega)))) | (refine cw_blocks (fun KB hB => ?_)) | (refine cw_block ?_) | ((first | refine cw_exits ?_ | refine cw_exit ?_ | refine cw_skip ?_); simp (maxSteps := 1000000) (disch := omega) only [go_sem, ↓reduceIte, Nat.reduceEqDiff, Nat.reduceAdd, Nat.reduceMul, Nat.reduceSub, Nat.reduceMod, Nat.reduceLeDiff, Nat.reduceLT, Nat.reduceBEq, reduceCtorEq, Int.reduceLT, Int.reduceLE, Int.reduceToNat, Int.reduceEq, Int.reduceAdd]) | (refine hB _ ?_; clear hB KB) | (refine exit_by (S := Sg) (by assumption) ?_) | ((first | refine cw_rets ?_ | refine cw_ret ?_); simp (maxSteps := 1000000) (disch := omega) only [go_sem, ↓reduceIte, Nat.reduceEqDiff, Nat.reduceAdd, Nat.reduceMul, Nat.reduceSub, Nat.reduceMod, Nat.reduceLeDiff, Nat.reduceLT, Nat.reduceBEq, reduceCtorEq, Int.reduceLT, Int.reduceLE, Int.reduceToNat, Int.reduceEq, Int.reduceAdd]; (try clear hB KB); (try clear hK K)))
            · rw [thenQ_normal]
              refine wk_loop (k + 1) ?_ (by omega) (by omega)
              have hl1 : (ops ++ List.replicate k popOp).length = ops.length + k := by simp
              have he : (ops ++ List.replicate k popOp) ++ [popOp] = ops ++ List.replicate (k + 1) popOp := by rw [List.append_assoc, List.replicate_succ']
              refine le_of [(1, some 1), (2, some 2), (3, some 6), (4, some 4)] rfl (by decide) rfl ?_ ?_
              all_goals simp (maxSteps := 1000000) (disch := omega) only [go_sem, ↓reduceIte, Nat.reduceEqDiff, Nat.reduceAdd, Nat.reduceMul, Nat.reduceSub, Nat.reduceMod, Nat.reduceLeDiff, Nat.reduceLT, Nat.reduceBEq, reduceCtorEq, Int.reduceLT, Int.reduceLE, Int.reduceToNat, Int.reduceEq, Int.reduceAdd]
              repeat' (refine And.intro ?_ ?_)
              all_goals first | rfl | omega | exact .inl rfl | trivial | skip
              have key := fun g hg => arr_push (enc := opE) (xs := ops ++ List.replicate k popOp) (x := popOp) (s := 12) (g := g) hg
              simp only [hl1, he] at key
              refine .inr (key _ fun j hj => ?_)
              have hivl : j = 0 ∨ j = 1 ∨ j = 2 ∨ j = 3 ∨ j = 4 ∨ j = 5 ∨ j = 6 ∨ j = 7 ∨ j = 8 ∨ j = 9 ∨ j = 10 ∨ j = 11 := by omega
              rcases hivl with rfl | rfl | rfl | rfl | rfl | rfl | rfl | rfl | rfl | rfl | rfl | rfl <;> rfl
            · have hk2 : k = l.length := by omega
              have e2 : ops ++ List.replicate k popOp = (gScript s).ops := by
                rw [hk2]
                show _ = (gOps s).1 ++ List.replicate (gOps s).2.length popOp
                rw [hfin]
              have e1 : ops.length + k = (gScript s).ops.length := by rw [← e2]; simp
              rw [e1, e2]
              refine sle_b (ble_agg ?_)
              simp only [List.map_cons, List.map_nil, cleL_cons, cleL_nil]
              repeat' (refine And.intro ?_ ?_)
              all_goals first | exact .inl rfl | exact .inl trivial | exact .inr nil_le | trivial | skip
end Go.Proofs.YtfjaojlbnjdmgaaDoor

set_option linter.unusedSimpArgs false
set_option linter.unusedVariables false
set_option maxRecDepth 8000
set_option maxHeartbeats 8000000
namespace Go.Proofs.YtfjaojlbnjdmgaaDoor
open Go Go.SL
open Go.RowKit (wrap64)

theorem lst_leP {sz n : Nat} {f g : Nat → Nat → PV} (h : ∀ i, i < n → ∀ j, j < sz → PV.le (f i j) (g i j)) : PV.le (.lst sz n f) (.lst sz n g) := fun _ _ u hu => by
  obtain ⟨a, c, e, hn, hb⟩ := hu
  refine ⟨a, c, e, hn, fun h0 => ?_⟩
  obtain ⟨b, o, ha, hok, hc⟩ := hb h0
  refine ⟨b, o, ha, hok, fun i hi j hj => ?_⟩
  obtain ⟨x, h1, h2, h3⟩ := hc i hi j hj
  exact ⟨x, h1, h2, h i hi j hj _ _ _ h3⟩
theorem cleL_denR {ρ : Rho} {ok : Nat → Prop} {w : World} : ∀ {l r : List CV}, CLeL l r → l.length = r.length ∧ ∀ {u : Nat → Value}, (∀ j, DenC ρ ok w (l.getD j .any) (u j)) → ∀ j, DenC ρ ok w (r.getD j .any) (u j)
  | [], [], _ => ⟨rfl, fun h => h⟩
  | .p x :: l, .p y :: r, h => by
    rw [cleL_cons] at h
    obtain ⟨h1, h2⟩ := h
    obtain ⟨q1, q2⟩ := cleL_denR (ρ := ρ) (ok := ok) (w := w) h2
    refine ⟨by simp [q1], fun {u} hu j => ?_⟩
    cases j with
    | zero =>
      rcases h1 with e | e
      · rw [← e]; exact hu 0
      · exact e _ _ _ (hu 0)
    | succ j => exact q2 (u := fun k => u (k + 1)) (fun k => hu (k + 1)) j
theorem bvle_agg {l r : List CV} (h : CLeL l r) : BV.le (.agg l) (.agg r) := fun ρ ok w u ⟨us, hu, hs, h1, hd⟩ => by
  obtain ⟨q1, q2⟩ := cleL_denR (ρ := ρ) (ok := ok) (w := w) h
  exact ⟨us, hu, by rw [hs, q1], h1, q2 hd⟩
theorem flat2 (a b : Int) : SV.flat (.tup [I a, I b]) := fun v hv => by
  rcases List.mem_cons.1 hv with rfl | hv
  · trivial
  · rw [List.mem_singleton.1 hv]; trivial
def aOp : Op := ⟨1, 0, 0, 0, 0, 0, 0, 255, 4, 1, false, false⟩
def aPush : Op := ⟨2, 0, 0, 0, 0, 0, 0, 128, 4, 1, true, false⟩
def aPop : Op := ⟨3, 0, 0, 0, 0, 0, 0, 0, 0, 0, false, false⟩
def aImage : Image := ⟨1, 1, true, ⟨0, 0, 0, 0, 0⟩, ⟨0, 0, 0, []⟩, ⟨0, 0, 0, []⟩, ⟨0, 0, 0, []⟩, ⟨0, 0, 0, []⟩, ⟨0, 0, 0, []⟩⟩
def aOne : Script := ⟨8, ⟨0, 0, 1, 1⟩, 1, 1, [], [aImage], [aOp]⟩
def aTwo : Script := ⟨8, ⟨0, 0, 1, 1⟩, 1, 1, [], [aImage], [aPush, aOp, aPop]⟩
theorem aOne_e : errorM aOne = (1, 0) := by decide +kernel
theorem aTwo_e : errorM aTwo = (5, 0) := by decide +kernel
theorem awake_spec : Pure Sg 11 [] (fun r => r = .b (B true)) := by
  have h1 : Pure Sg 13 [ag (scriptE aOne)] (fun x => x = .tup [I 1, I 0]) := by
    have := berror_spec aOne ⟨by decide, by decide, by decide⟩
    rw [aOne_e] at this
    exact this
  have h2 : Pure Sg 13 [ag (scriptE aTwo)] (fun x => x = .tup [I 5, I 0]) := by
    have := berror_spec aTwo ⟨by decide, by decide, by decide⟩
    rw [aTwo_e] at this
    exact this
  refine pure_of Tryd.func11 rfl (rs := [.tmp 0]) rfl rfl mixed (by decide +kernel) (Nat.le_of_ble_eq_true rfl) (argsLt_mem (by simp (maxSteps := 1000000) (disch := omega) only [go_sem, ↓reduceIte, Nat.reduceEqDiff, Nat.reduceAdd, Nat.reduceMul, Nat.reduceSub, Nat.reduceMod, Nat.reduceLeDiff, Nat.reduceLT, Nat.reduceBEq, reduceCtorEq, Int.reduceLT, Int.reduceLE, Int.reduceToNat, Int.reduceEq, Int.reduceAdd])) ?_
  repeat' (first | refine cw_assoc ?_ | refine cw_skips ?_ | refine cw_labels ?_ | ((first | refine cw_step (fun K hK => ?_) | refine cw_last (fun K hK => ?_) | refine cw_stepD (by decide +kernel) (by decide +kernel) (fun K hK => ?_) | refine cw_lastD (by decide +kernel) (by decide +kernel) (fun K hK => ?_) | refine rgB_some ?_); (try simp (maxSteps := 1000000) (disch := omega) only [go_sem, ↓reduceIte, Nat.reduceEqDiff, Nat.reduceAdd, Nat.reduceMul, Nat.reduceSub, Nat.reduceMod, Nat.reduceLeDiff, Nat.reduceLT, Nat.reduceBEq, reduceCtorEq, Int.reduceLT, Int.reduceLE, Int.reduceToNat, Int.reduceEq, Int.reduceAdd]); (repeat' (refine And.intro ?_ ?_)); (all_goals first | (refine hK _ ?_; clear hK K) | exact auto_cl | skip)) | ((first | apply cw_ite | apply cw_iteN); (case hf => rfl); (case hc => simp (maxSteps := 1000000) (disch := omega) only [go_sem, ↓reduceIte, Nat.reduceEqDiff, Nat.reduceAdd, Nat.reduceMul, Nat.reduceSub, Nat.reduceMod, Nat.reduceLeDiff, Nat.reduceLT, Nat.reduceBEq, reduceCtorEq, Int.reduceLT, Int.reduceLE, Int.reduceToNat, Int.reduceEq, Int.reduceAdd]; rfl); (all_goals first | (intro hb; (try simp only [decide_eq_true_eq, decide_eq_false_iff_not, beq_iff_eq, beq_eq_false_iff_ne, bne_iff_ne, bne_eq_false_iff_eq, ne_eq, Bool.not_eq_true, Bool.not_eq_false, Bool.not_true, Bool.not_false, Bool.not_eq_eq_eq_not, Int.not_lt, Int.not_le, gt_iff_lt, ge_iff_le, Bool.cond_eq_ite, Bool.if_false_right, Bool.if_true_left, Bool.and_eq_true, Bool.or_eq_true, Bool.and_eq_false_imp, Bool.or_eq_false_iff, Decidable.not_not, beq_true, beq_false, iteT, iteF, cond_true, cond_false] at hb)) | skip)) | exact atN_intro | ((first | apply cw_if | apply cw_cond); (case hc => simp (maxSteps := 1000000) (disch := omega) only [go_sem, ↓reduceIte, Nat.reduceEqDiff, Nat.reduceAdd, Nat.reduceMul, Nat.reduceSub, Nat.reduceMod, Nat.reduceLeDiff, Nat.reduceLT, Nat.reduceBEq, reduceCtorEq, Int.reduceLT, Int.reduceLE, Int.reduceToNat, Int.reduceEq, Int.reduceAdd]; rfl); (all_goals (intro hb; (try simp only [decide_eq_true_eq, decide_eq_false_iff_not, beq_iff_eq, beq_eq_false_iff_ne, bne_iff_ne, bne_eq_false_iff_eq, ne_eq, Bool.not_eq_true, Bool.not_eq_false, Bool.not_true, Bool.not_false, Bool.not_eq_eq_eq_not, Int.not_lt, Int.not_le, gt_iff_lt, ge_iff_le, Bool.cond_eq_ite, Bool.if_false_right, Bool.if_true_left, Bool.and_eq_true, Bool.or_eq_true, Bool.and_eq_false_imp, Bool.or_eq_false_iff, Decidable.not_not, beq_true, beq_false, iteT, iteF, cond_true, cond_false] at hb); try (exfalso; omega)))) | (refine cw_blocks (fun KB hB => ?_)) | (refine cw_block ?_) | ((first | refine cw_exits ?_ | refine cw_exit ?_ | refine cw_skip ?_); simp (maxSteps := 1000000) (disch := omega) only [go_sem, ↓reduceIte, Nat.reduceEqDiff, Nat.reduceAdd, Nat.reduceMul, Nat.reduceSub, Nat.reduceMod, Nat.reduceLeDiff, Nat.reduceLT, Nat.reduceBEq, reduceCtorEq, Int.reduceLT, Int.reduceLE, Int.reduceToNat, Int.reduceEq, Int.reduceAdd]) | (refine hB _ ?_; clear hB KB) | (refine exit_by (S := Sg) (by assumption) ?_) | ((first | refine cw_rets ?_ | refine cw_ret ?_); simp (maxSteps := 1000000) (disch := omega) only [go_sem, ↓reduceIte, Nat.reduceEqDiff, Nat.reduceAdd, Nat.reduceMul, Nat.reduceSub, Nat.reduceMod, Nat.reduceLeDiff, Nat.reduceLT, Nat.reduceBEq, reduceCtorEq, Int.reduceLT, Int.reduceLE, Int.reduceToNat, Int.reduceEq, Int.reduceAdd]; (try clear hB KB); (try clear hK K)))
  refine call_lends ?_ ?_ (by simp (maxSteps := 1000000) (disch := omega) only [go_sem, ↓reduceIte, Nat.reduceEqDiff, Nat.reduceAdd, Nat.reduceMul, Nat.reduceSub, Nat.reduceMod, Nat.reduceLeDiff, Nat.reduceLT, Nat.reduceBEq, reduceCtorEq, Int.reduceLT, Int.reduceLE, Int.reduceToNat, Int.reduceEq, Int.reduceAdd]) ?_ (h1)
  try simp (maxSteps := 1000000) (disch := omega) only [go_sem, ↓reduceIte, Nat.reduceEqDiff, Nat.reduceAdd, Nat.reduceMul, Nat.reduceSub, Nat.reduceMod, Nat.reduceLeDiff, Nat.reduceLT, Nat.reduceBEq, reduceCtorEq, Int.reduceLT, Int.reduceLE, Int.reduceToNat, Int.reduceEq, Int.reduceAdd]
  try (refine hK _ ?_; clear hK K)
  · repeat' (first | refine cw_assoc ?_ | refine cw_skips ?_ | refine cw_labels ?_ | ((first | refine cw_step (fun K hK => ?_) | refine cw_last (fun K hK => ?_) | refine cw_stepD (by decide +kernel) (by decide +kernel) (fun K hK => ?_) | refine cw_lastD (by decide +kernel) (by decide +kernel) (fun K hK => ?_) | refine rgB_some ?_); (try simp (maxSteps := 1000000) (disch := omega) only [go_sem, ↓reduceIte, Nat.reduceEqDiff, Nat.reduceAdd, Nat.reduceMul, Nat.reduceSub, Nat.reduceMod, Nat.reduceLeDiff, Nat.reduceLT, Nat.reduceBEq, reduceCtorEq, Int.reduceLT, Int.reduceLE, Int.reduceToNat, Int.reduceEq, Int.reduceAdd]); (repeat' (refine And.intro ?_ ?_)); (all_goals first | (refine hK _ ?_; clear hK K) | exact auto_cl | skip)) | ((first | apply cw_ite | apply cw_iteN); (case hf => rfl); (case hc => simp (maxSteps := 1000000) (disch := omega) only [go_sem, ↓reduceIte, Nat.reduceEqDiff, Nat.reduceAdd, Nat.reduceMul, Nat.reduceSub, Nat.reduceMod, Nat.reduceLeDiff, Nat.reduceLT, Nat.reduceBEq, reduceCtorEq, Int.reduceLT, Int.reduceLE, Int.reduceToNat, Int.reduceEq, Int.reduceAdd]; rfl); (all_goals first | (intro hb; (try simp only [decide_eq_true_eq, decide_eq_false_iff_not, beq_iff_eq, beq_eq_false_iff_ne, bne_iff_ne, bne_eq_false_iff_eq, ne_eq, Bool.not_eq_true, Bool.not_eq_false, Bool.not_true, Bool.not_false, Bool.not_eq_eq_eq_not, Int.not_lt, Int.not_le, gt_iff_lt, ge_iff_le, Bool.cond_eq_ite, Bool.if_false_right, Bool.if_true_left, Bool.and_eq_true, Bool.or_eq_true, Bool.and_eq_false_imp, Bool.or_eq_false_iff, Decidable.not_not, beq_true, beq_false, iteT, iteF, cond_true, cond_false] at hb)) | skip)) | exact atN_intro | ((first | apply cw_if | apply cw_cond); (case hc => simp (maxSteps := 1000000) (disch := omega) only [go_sem, ↓reduceIte, Nat.reduceEqDiff, Nat.reduceAdd, Nat.reduceMul, Nat.reduceSub, Nat.reduceMod, Nat.reduceLeDiff, Nat.reduceLT, Nat.reduceBEq, reduceCtorEq, Int.reduceLT, Int.reduceLE, Int.reduceToNat, Int.reduceEq, Int.reduceAdd]; rfl); (all_goals (intro hb; (try simp only [decide_eq_true_eq, decide_eq_false_iff_not, beq_iff_eq, beq_eq_false_iff_ne, bne_iff_ne, bne_eq_false_iff_eq, ne_eq, Bool.not_eq_true, Bool.not_eq_false, Bool.not_true, Bool.not_false, Bool.not_eq_eq_eq_not, Int.not_lt, Int.not_le, gt_iff_lt, ge_iff_le, Bool.cond_eq_ite, Bool.if_false_right, Bool.if_true_left, Bool.and_eq_true, Bool.or_eq_true, Bool.and_eq_false_imp, Bool.or_eq_false_iff, Decidable.not_not, beq_true, beq_false, iteT, iteF, cond_true, cond_false] at hb); try (exfalso; omega)))) | (refine cw_blocks (fun KB hB => ?_)) | (refine cw_block ?_) | ((first | refine cw_exits ?_ | refine cw_exit ?_ | refine cw_skip ?_); simp (maxSteps := 1000000) (disch := omega) only [go_sem, ↓reduceIte, Nat.reduceEqDiff, Nat.reduceAdd, Nat.reduceMul, Nat.reduceSub, Nat.reduceMod, Nat.reduceLeDiff, Nat.reduceLT, Nat.reduceBEq, reduceCtorEq, Int.reduceLT, Int.reduceLE, Int.reduceToNat, Int.reduceEq, Int.reduceAdd]) | (refine hB _ ?_; clear hB KB) | (refine exit_by (S := Sg) (by assumption) ?_) | ((first | refine cw_rets ?_ | refine cw_ret ?_); simp (maxSteps := 1000000) (disch := omega) only [go_sem, ↓reduceIte, Nat.reduceEqDiff, Nat.reduceAdd, Nat.reduceMul, Nat.reduceSub, Nat.reduceMod, Nat.reduceLeDiff, Nat.reduceLT, Nat.reduceBEq, reduceCtorEq, Int.reduceLT, Int.reduceLE, Int.reduceToNat, Int.reduceEq, Int.reduceAdd]; (try clear hB KB); (try clear hK K)))
    refine call_lends ?_ ?_ (by simp (maxSteps := 1000000) (disch := omega) only [go_sem, ↓reduceIte, Nat.reduceEqDiff, Nat.reduceAdd, Nat.reduceMul, Nat.reduceSub, Nat.reduceMod, Nat.reduceLeDiff, Nat.reduceLT, Nat.reduceBEq, reduceCtorEq, Int.reduceLT, Int.reduceLE, Int.reduceToNat, Int.reduceEq, Int.reduceAdd]) ?_ (h2)
    try simp (maxSteps := 1000000) (disch := omega) only [go_sem, ↓reduceIte, Nat.reduceEqDiff, Nat.reduceAdd, Nat.reduceMul, Nat.reduceSub, Nat.reduceMod, Nat.reduceLeDiff, Nat.reduceLT, Nat.reduceBEq, reduceCtorEq, Int.reduceLT, Int.reduceLE, Int.reduceToNat, Int.reduceEq, Int.reduceAdd]
    try (refine hK _ ?_; clear hK K)
    · repeat' (first | refine cw_assoc ?_ | refine cw_skips ?_ | refine cw_labels ?_ | ((first | refine cw_step (fun K hK => ?_) | refine cw_last (fun K hK => ?_) | refine cw_stepD (by decide +kernel) (by decide +kernel) (fun K hK => ?_) | refine cw_lastD (by decide +kernel) (by decide +kernel) (fun K hK => ?_) | refine rgB_some ?_); (try simp (maxSteps := 1000000) (disch := omega) only [go_sem, ↓reduceIte, Nat.reduceEqDiff, Nat.reduceAdd, Nat.reduceMul, Nat.reduceSub, Nat.reduceMod, Nat.reduceLeDiff, Nat.reduceLT, Nat.reduceBEq, reduceCtorEq, Int.reduceLT, Int.reduceLE, Int.reduceToNat, Int.reduceEq, Int.reduceAdd]); (repeat' (refine And.intro ?_ ?_)); (all_goals first | (refine hK _ ?_; clear hK K) | exact auto_cl | skip)) | ((first | apply cw_ite | apply cw_iteN); (case hf => rfl); (case hc => simp (maxSteps := 1000000) (disch := omega) only [go_sem, ↓reduceIte, Nat.reduceEqDiff, Nat.reduceAdd, Nat.reduceMul, Nat.reduceSub, Nat.reduceMod, Nat.reduceLeDiff, Nat.reduceLT, Nat.reduceBEq, reduceCtorEq, Int.reduceLT, Int.reduceLE, Int.reduceToNat, Int.reduceEq, Int.reduceAdd]; rfl); (all_goals first | (intro hb; (try simp only [decide_eq_true_eq, decide_eq_false_iff_not, beq_iff_eq, beq_eq_false_iff_ne, bne_iff_ne, bne_eq_false_iff_eq, ne_eq, Bool.not_eq_true, Bool.not_eq_false, Bool.not_true, Bool.not_false, Bool.not_eq_eq_eq_not, Int.not_lt, Int.not_le, gt_iff_lt, ge_iff_le, Bool.cond_eq_ite, Bool.if_false_right, Bool.if_true_left, Bool.and_eq_true, Bool.or_eq_true, Bool.and_eq_false_imp, Bool.or_eq_false_iff, Decidable.not_not, beq_true, beq_false, iteT, iteF, cond_true, cond_false] at hb)) | skip)) | exact atN_intro | ((first | apply cw_if | apply cw_cond); (case hc => simp (maxSteps := 1000000) (disch := omega) only [go_sem, ↓reduceIte, Nat.reduceEqDiff, Nat.reduceAdd, Nat.reduceMul, Nat.reduceSub, Nat.reduceMod, Nat.reduceLeDiff, Nat.reduceLT, Nat.reduceBEq, reduceCtorEq, Int.reduceLT, Int.reduceLE, Int.reduceToNat, Int.reduceEq, Int.reduceAdd]; rfl); (all_goals (intro hb; (try simp only [decide_eq_true_eq, decide_eq_false_iff_not, beq_iff_eq, beq_eq_false_iff_ne, bne_iff_ne, bne_eq_false_iff_eq, ne_eq, Bool.not_eq_true, Bool.not_eq_false, Bool.not_true, Bool.not_false, Bool.not_eq_eq_eq_not, Int.not_lt, Int.not_le, gt_iff_lt, ge_iff_le, Bool.cond_eq_ite, Bool.if_false_right, Bool.if_true_left, Bool.and_eq_true, Bool.or_eq_true, Bool.and_eq_false_imp, Bool.or_eq_false_iff, Decidable.not_not, beq_true, beq_false, iteT, iteF, cond_true, cond_false] at hb); try (exfalso; omega)))) | (refine cw_blocks (fun KB hB => ?_)) | (refine cw_block ?_) | ((first | refine cw_exits ?_ | refine cw_exit ?_ | refine cw_skip ?_); simp (maxSteps := 1000000) (disch := omega) only [go_sem, ↓reduceIte, Nat.reduceEqDiff, Nat.reduceAdd, Nat.reduceMul, Nat.reduceSub, Nat.reduceMod, Nat.reduceLeDiff, Nat.reduceLT, Nat.reduceBEq, reduceCtorEq, Int.reduceLT, Int.reduceLE, Int.reduceToNat, Int.reduceEq, Int.reduceAdd]) | (refine hB _ ?_; clear hB KB) | (refine exit_by (S := Sg) (by assumption) ?_) | ((first | refine cw_rets ?_ | refine cw_ret ?_); simp (maxSteps := 1000000) (disch := omega) only [go_sem, ↓reduceIte, Nat.reduceEqDiff, Nat.reduceAdd, Nat.reduceMul, Nat.reduceSub, Nat.reduceMod, Nat.reduceLeDiff, Nat.reduceLT, Nat.reduceBEq, reduceCtorEq, Int.reduceLT, Int.reduceLE, Int.reduceToNat, Int.reduceEq, Int.reduceAdd]; (try clear hB KB); (try clear hK K)))
      rfl
    · refine ⟨bvle_agg ?_, trivial⟩
      simp only [List.map_cons, List.map_nil, cleL_cons, cleL_nil]
      repeat' (refine And.intro ?_ ?_)
      all_goals first | exact .inl rfl | exact .inl trivial | exact .inr nil_le | trivial | skip
      · refine .inr (lst_leP fun i hi j hj => ?_)
        have : i = 0 := by omega
        subst this
        have hivl : j = 0 ∨ j = 1 ∨ j = 2 ∨ j = 3 ∨ j = 4 ∨ j = 5 ∨ j = 6 ∨ j = 7 ∨ j = 8 ∨ j = 9 ∨ j = 10 ∨ j = 11 ∨ j = 12 ∨ j = 13 ∨ j = 14 ∨ j = 15 ∨ j = 16 ∨ j = 17 ∨ j = 18 ∨ j = 19 ∨ j = 20 ∨ j = 21 ∨ j = 22 ∨ j = 23 ∨ j = 24 ∨ j = 25 ∨ j = 26 ∨ j = 27 := by omega
        rcases hivl with rfl | rfl | rfl | rfl | rfl | rfl | rfl | rfl | rfl | rfl | rfl | rfl | rfl | rfl | rfl | rfl | rfl | rfl | rfl | rfl | rfl | rfl | rfl | rfl | rfl | rfl | rfl | rfl <;> (first | exact PV.le_refl _ | exact nil_le)
      · refine .inr (lst_leP fun i hi j hj => ?_)
        have : i = 0 ∨ i = 1 ∨ i = 2 := by omega
        rcases this with rfl | rfl | rfl
        · have hivl : j = 0 ∨ j = 1 ∨ j = 2 ∨ j = 3 ∨ j = 4 ∨ j = 5 ∨ j = 6 ∨ j = 7 ∨ j = 8 ∨ j = 9 ∨ j = 10 ∨ j = 11 := by omega
          rcases hivl with rfl | rfl | rfl | rfl | rfl | rfl | rfl | rfl | rfl | rfl | rfl | rfl <;> exact PV.le_refl _
        · have hivl : j = 0 ∨ j = 1 ∨ j = 2 ∨ j = 3 ∨ j = 4 ∨ j = 5 ∨ j = 6 ∨ j = 7 ∨ j = 8 ∨ j = 9 ∨ j = 10 ∨ j = 11 := by omega
          rcases hivl with rfl | rfl | rfl | rfl | rfl | rfl | rfl | rfl | rfl | rfl | rfl | rfl <;> exact PV.le_refl _
        · have hivl : j = 0 ∨ j = 1 ∨ j = 2 ∨ j = 3 ∨ j = 4 ∨ j = 5 ∨ j = 6 ∨ j = 7 ∨ j = 8 ∨ j = 9 ∨ j = 10 ∨ j = 11 := by omega
          rcases hivl with rfl | rfl | rfl | rfl | rfl | rfl | rfl | rfl | rfl | rfl | rfl | rfl <;> exact PV.le_refl _
    exact flat2 _ _
  · refine ⟨bvle_agg ?_, trivial⟩
    simp only [List.map_cons, List.map_nil, cleL_cons, cleL_nil]
    repeat' (refine And.intro ?_ ?_)
    all_goals first | exact .inl rfl | exact .inl trivial | exact .inr nil_le | trivial | skip
    · refine .inr (lst_leP fun i hi j hj => ?_)
      have : i = 0 := by omega
      subst this
      have hivl : j = 0 ∨ j = 1 ∨ j = 2 ∨ j = 3 ∨ j = 4 ∨ j = 5 ∨ j = 6 ∨ j = 7 ∨ j = 8 ∨ j = 9 ∨ j = 10 ∨ j = 11 ∨ j = 12 ∨ j = 13 ∨ j = 14 ∨ j = 15 ∨ j = 16 ∨ j = 17 ∨ j = 18 ∨ j = 19 ∨ j = 20 ∨ j = 21 ∨ j = 22 ∨ j = 23 ∨ j = 24 ∨ j = 25 ∨ j = 26 ∨ j = 27 := by omega
      rcases hivl with rfl | rfl | rfl | rfl | rfl | rfl | rfl | rfl | rfl | rfl | rfl | rfl | rfl | rfl | rfl | rfl | rfl | rfl | rfl | rfl | rfl | rfl | rfl | rfl | rfl | rfl | rfl | rfl <;> (first | exact PV.le_refl _ | exact nil_le)
    · refine .inr (lst_leP fun i hi j hj => ?_)
      have : i = 0 := by omega
      subst this
      have hivl : j = 0 ∨ j = 1 ∨ j = 2 ∨ j = 3 ∨ j = 4 ∨ j = 5 ∨ j = 6 ∨ j = 7 ∨ j = 8 ∨ j = 9 ∨ j = 10 ∨ j = 11 := by omega
      rcases hivl with rfl | rfl | rfl | rfl | rfl | rfl | rfl | rfl | rfl | rfl | rfl | rfl <;> exact PV.le_refl _
  exact flat2 _ _
end Go.Proofs.YtfjaojlbnjdmgaaDoor

set_option linter.unusedSimpArgs false
set_option linter.unusedVariables false
set_option maxRecDepth 8000
set_option maxHeartbeats 8000000
namespace Go.Proofs.YtfjaojlbnjdmgaaDoor
open Go Go.SL
open Go.RowKit (wrap64)

/-- P30.1 -/
theorem constants_spec (o m : Int) (ho : i64 o) (hm : i64 m) : Pure Sg 3 [I o, I m] (fun r => r = .b (B true)) := by
  obtain ⟨o1, o2⟩ := ho
  obtain ⟨m1, m2⟩ := hm
  have ha := awake_spec
  refine pure_of Tryd.func3 rfl (rs := [.tmp 4]) rfl rfl mixed (by decide +kernel) (Nat.le_of_ble_eq_true rfl) (argsLt_mem (by simp (maxSteps := 1000000) (disch := omega) only [go_sem, ↓reduceIte, Nat.reduceEqDiff, Nat.reduceAdd, Nat.reduceMul, Nat.reduceSub, Nat.reduceMod, Nat.reduceLeDiff, Nat.reduceLT, Nat.reduceBEq, reduceCtorEq, Int.reduceLT, Int.reduceLE, Int.reduceToNat, Int.reduceEq, Int.reduceAdd])) ?_
  repeat' (first | refine cw_assoc ?_ | refine cw_skips ?_ | refine cw_labels ?_ | ((first | refine cw_step (fun K hK => ?_) | refine cw_last (fun K hK => ?_) | refine cw_stepD (by decide +kernel) (by decide +kernel) (fun K hK => ?_) | refine cw_lastD (by decide +kernel) (by decide +kernel) (fun K hK => ?_) | refine rgB_some ?_ | refine call_a (modp_spec _ _ (by omega) (by omega)) ?_ | refine gcall_a (fun hg => modp_spec _ _ (by omega) (by omega)) ?_ | refine call_a (lip_spec _ _) ?_ | refine gcall_a (fun hg => lip_spec _ _) ?_ | refine call_a (rlip_spec _ _) ?_ | refine gcall_a (fun hg => rlip_spec _ _) ?_ | refine call_a (ha) ?_ | refine gcall_a (fun hg => ha) ?_); (try simp (maxSteps := 1000000) (disch := omega) only [go_sem, ↓reduceIte, Nat.reduceEqDiff, Nat.reduceAdd, Nat.reduceMul, Nat.reduceSub, Nat.reduceMod, Nat.reduceLeDiff, Nat.reduceLT, Nat.reduceBEq, reduceCtorEq, Int.reduceLT, Int.reduceLE, Int.reduceToNat, Int.reduceEq, Int.reduceAdd]); (repeat' (refine And.intro ?_ ?_)); (all_goals first | (refine hK _ ?_; clear hK K) | exact auto_cl | skip)) | ((first | apply cw_ite | apply cw_iteN); (case hf => rfl); (case hc => simp (maxSteps := 1000000) (disch := omega) only [go_sem, ↓reduceIte, Nat.reduceEqDiff, Nat.reduceAdd, Nat.reduceMul, Nat.reduceSub, Nat.reduceMod, Nat.reduceLeDiff, Nat.reduceLT, Nat.reduceBEq, reduceCtorEq, Int.reduceLT, Int.reduceLE, Int.reduceToNat, Int.reduceEq, Int.reduceAdd]; rfl); (all_goals first | (intro hb; (try simp only [decide_eq_true_eq, decide_eq_false_iff_not, beq_iff_eq, beq_eq_false_iff_ne, bne_iff_ne, bne_eq_false_iff_eq, ne_eq, Bool.not_eq_true, Bool.not_eq_false, Bool.not_true, Bool.not_false, Bool.not_eq_eq_eq_not, Int.not_lt, Int.not_le, gt_iff_lt, ge_iff_le, Bool.cond_eq_ite, Bool.if_false_right, Bool.if_true_left, Bool.and_eq_true, Bool.or_eq_true, Bool.and_eq_false_imp, Bool.or_eq_false_iff, Decidable.not_not, beq_true, beq_false, iteT, iteF, cond_true, cond_false] at hb)) | skip)) | exact atN_intro | ((first | apply cw_if | apply cw_cond); (case hc => simp (maxSteps := 1000000) (disch := omega) only [go_sem, ↓reduceIte, Nat.reduceEqDiff, Nat.reduceAdd, Nat.reduceMul, Nat.reduceSub, Nat.reduceMod, Nat.reduceLeDiff, Nat.reduceLT, Nat.reduceBEq, reduceCtorEq, Int.reduceLT, Int.reduceLE, Int.reduceToNat, Int.reduceEq, Int.reduceAdd]; rfl); (all_goals (intro hb; (try simp only [decide_eq_true_eq, decide_eq_false_iff_not, beq_iff_eq, beq_eq_false_iff_ne, bne_iff_ne, bne_eq_false_iff_eq, ne_eq, Bool.not_eq_true, Bool.not_eq_false, Bool.not_true, Bool.not_false, Bool.not_eq_eq_eq_not, Int.not_lt, Int.not_le, gt_iff_lt, ge_iff_le, Bool.cond_eq_ite, Bool.if_false_right, Bool.if_true_left, Bool.and_eq_true, Bool.or_eq_true, Bool.and_eq_false_imp, Bool.or_eq_false_iff, Decidable.not_not, beq_true, beq_false, iteT, iteF, cond_true, cond_false] at hb); try (exfalso; omega)))) | (refine cw_blocks (fun KB hB => ?_)) | (refine cw_block ?_) | ((first | refine cw_exits ?_ | refine cw_exit ?_ | refine cw_skip ?_); simp (maxSteps := 1000000) (disch := omega) only [go_sem, ↓reduceIte, Nat.reduceEqDiff, Nat.reduceAdd, Nat.reduceMul, Nat.reduceSub, Nat.reduceMod, Nat.reduceLeDiff, Nat.reduceLT, Nat.reduceBEq, reduceCtorEq, Int.reduceLT, Int.reduceLE, Int.reduceToNat, Int.reduceEq, Int.reduceAdd]) | (refine hB _ ?_; clear hB KB) | (refine exit_by (S := Sg) (by assumption) ?_) | ((first | refine cw_rets ?_ | refine cw_ret ?_); simp (maxSteps := 1000000) (disch := omega) only [go_sem, ↓reduceIte, Nat.reduceEqDiff, Nat.reduceAdd, Nat.reduceMul, Nat.reduceSub, Nat.reduceMod, Nat.reduceLeDiff, Nat.reduceLT, Nat.reduceBEq, reduceCtorEq, Int.reduceLT, Int.reduceLE, Int.reduceToNat, Int.reduceEq, Int.reduceAdd]; (try clear hB KB); (try clear hK K)))
  simp only [beq_self_eq_true, Bool.and_self]

theorem gorder_len (s : Scene) : (gScript s).order.length ≤ 64 := by
  have ht := tiles_le s
  show (gPerm s.order _).length ≤ 64
  unfold gPerm
  split
  · exact Nat.zero_le _
  · rw [(permGo_ok (l := s.order) _ 0 _ (iota_len _) (iota_nodup _)).1]
    omega
theorem g_len (s : Scene) {t : Script} (ho : t.order = (gScript s).order) (hi : t.images.length ≤ 64) (hp : t.ops.length ≤ 4096) : ScriptLen t :=
  ⟨by rw [ho]; exact Nat.le_trans (gorder_len s) (by decide), by omega, by omega⟩
theorem gimages_len (s : Scene) : (gScript s).images.length ≤ 64 := by
  have := gImages_le s
  show (gImages s).length ≤ 64
  omega
theorem gops_len (s : Scene) : (gScript s).ops.length ≤ 18 := (gScript_good s).len
theorem gScript_len (s : Scene) : ScriptLen (gScript s) := g_len s rfl (gimages_len s) (Nat.le_trans (gops_len s) (by decide))
theorem gSmooth_len (s : Scene) : ScriptLen (smoothM (gScript s)) := g_len s rfl (gimages_len s) (by
  show ((gScript s).ops.map smoothO).length ≤ 4096
  rw [List.length_map]; exact Nat.le_trans (gops_len s) (by decide))
theorem gApp_len (s : Scene) (o : Op) : ScriptLen { gScript s with ops := (gScript s).ops ++ [o] } := g_len s rfl (gimages_len s) (by
  show ((gScript s).ops ++ [o]).length ≤ 4096
  have := gops_len s
  rw [List.length_append]; simp; omega)

/-- P30.2, the first. -/
theorem agrees_spec (c : Scene) (o : Op) (hc : SceneOk c) : Pure Sg 4 [ag (sceneE c), ag (opE o)] (fun r => r = .b (B true)) := by
  have ha := awake_spec
  have hs := gscript_spec c hc
  have hm := smooth_spec (gScript c) (Nat.le_trans (gops_len c) (by decide))
  have e1 := berror_spec _ (gScript_len c)
  have e2 := rerror_spec _ (gScript_len c)
  have e3 := berror_spec _ (gSmooth_len c)
  have e4 := rerror_spec _ (gSmooth_len c)
  have e5 := berror_spec _ (gApp_len c o)
  have e6 := rerror_spec _ (gApp_len c o)
  have es := smooth_error c
  refine pure_of Tryd.func4 rfl (rs := [.tmp 4]) rfl rfl mixed (by decide +kernel) (Nat.le_of_ble_eq_true rfl) (argsLt_mem (by simp (maxSteps := 1000000) (disch := omega) only [go_sem, ↓reduceIte, Nat.reduceEqDiff, Nat.reduceAdd, Nat.reduceMul, Nat.reduceSub, Nat.reduceMod, Nat.reduceLeDiff, Nat.reduceLT, Nat.reduceBEq, reduceCtorEq, Int.reduceLT, Int.reduceLE, Int.reduceToNat, Int.reduceEq, Int.reduceAdd])) ?_
  repeat' (first | refine cw_assoc ?_ | refine cw_skips ?_ | refine cw_labels ?_ | ((first | refine cw_step (fun K hK => ?_) | refine cw_last (fun K hK => ?_) | refine cw_stepD (by decide +kernel) (by decide +kernel) (fun K hK => ?_) | refine cw_lastD (by decide +kernel) (by decide +kernel) (fun K hK => ?_) | refine rgB_some ?_ | refine call_a (hs) ?_ | refine gcall_a (fun hg => hs) ?_ | refine call_a (ha) ?_ | refine gcall_a (fun hg => ha) ?_ | refine call_a (hm) ?_ | refine gcall_a (fun hg => hm) ?_ | refine call_a (e1) ?_ | refine gcall_a (fun hg => e1) ?_ | refine call_a (e2) ?_ | refine gcall_a (fun hg => e2) ?_ | refine call_a (e3) ?_ | refine gcall_a (fun hg => e3) ?_ | refine call_a (e4) ?_ | refine gcall_a (fun hg => e4) ?_); (try simp (maxSteps := 1000000) (disch := omega) only [go_sem, ↓reduceIte, Nat.reduceEqDiff, Nat.reduceAdd, Nat.reduceMul, Nat.reduceSub, Nat.reduceMod, Nat.reduceLeDiff, Nat.reduceLT, Nat.reduceBEq, reduceCtorEq, Int.reduceLT, Int.reduceLE, Int.reduceToNat, Int.reduceEq, Int.reduceAdd]); (repeat' (refine And.intro ?_ ?_)); (all_goals first | (refine hK _ ?_; clear hK K) | exact auto_cl | skip)) | ((first | apply cw_ite | apply cw_iteN); (case hf => rfl); (case hc => simp (maxSteps := 1000000) (disch := omega) only [go_sem, ↓reduceIte, Nat.reduceEqDiff, Nat.reduceAdd, Nat.reduceMul, Nat.reduceSub, Nat.reduceMod, Nat.reduceLeDiff, Nat.reduceLT, Nat.reduceBEq, reduceCtorEq, Int.reduceLT, Int.reduceLE, Int.reduceToNat, Int.reduceEq, Int.reduceAdd]; rfl); (all_goals first | (intro hb; (try simp only [decide_eq_true_eq, decide_eq_false_iff_not, beq_iff_eq, beq_eq_false_iff_ne, bne_iff_ne, bne_eq_false_iff_eq, ne_eq, Bool.not_eq_true, Bool.not_eq_false, Bool.not_true, Bool.not_false, Bool.not_eq_eq_eq_not, Int.not_lt, Int.not_le, gt_iff_lt, ge_iff_le, Bool.cond_eq_ite, Bool.if_false_right, Bool.if_true_left, Bool.and_eq_true, Bool.or_eq_true, Bool.and_eq_false_imp, Bool.or_eq_false_iff, Decidable.not_not, beq_true, beq_false, iteT, iteF, cond_true, cond_false] at hb)) | skip)) | exact atN_intro | ((first | apply cw_if | apply cw_cond); (case hc => simp (maxSteps := 1000000) (disch := omega) only [go_sem, ↓reduceIte, Nat.reduceEqDiff, Nat.reduceAdd, Nat.reduceMul, Nat.reduceSub, Nat.reduceMod, Nat.reduceLeDiff, Nat.reduceLT, Nat.reduceBEq, reduceCtorEq, Int.reduceLT, Int.reduceLE, Int.reduceToNat, Int.reduceEq, Int.reduceAdd]; rfl); (all_goals (intro hb; (try simp only [decide_eq_true_eq, decide_eq_false_iff_not, beq_iff_eq, beq_eq_false_iff_ne, bne_iff_ne, bne_eq_false_iff_eq, ne_eq, Bool.not_eq_true, Bool.not_eq_false, Bool.not_true, Bool.not_false, Bool.not_eq_eq_eq_not, Int.not_lt, Int.not_le, gt_iff_lt, ge_iff_le, Bool.cond_eq_ite, Bool.if_false_right, Bool.if_true_left, Bool.and_eq_true, Bool.or_eq_true, Bool.and_eq_false_imp, Bool.or_eq_false_iff, Decidable.not_not, beq_true, beq_false, iteT, iteF, cond_true, cond_false] at hb); try (exfalso; omega)))) | (refine cw_blocks (fun KB hB => ?_)) | (refine cw_block ?_) | ((first | refine cw_exits ?_ | refine cw_exit ?_ | refine cw_skip ?_); simp (maxSteps := 1000000) (disch := omega) only [go_sem, ↓reduceIte, Nat.reduceEqDiff, Nat.reduceAdd, Nat.reduceMul, Nat.reduceSub, Nat.reduceMod, Nat.reduceLeDiff, Nat.reduceLT, Nat.reduceBEq, reduceCtorEq, Int.reduceLT, Int.reduceLE, Int.reduceToNat, Int.reduceEq, Int.reduceAdd]) | (refine hB _ ?_; clear hB KB) | (refine exit_by (S := Sg) (by assumption) ?_) | ((first | refine cw_rets ?_ | refine cw_ret ?_); simp (maxSteps := 1000000) (disch := omega) only [go_sem, ↓reduceIte, Nat.reduceEqDiff, Nat.reduceAdd, Nat.reduceMul, Nat.reduceSub, Nat.reduceMod, Nat.reduceLeDiff, Nat.reduceLT, Nat.reduceBEq, reduceCtorEq, Int.reduceLT, Int.reduceLE, Int.reduceToNat, Int.reduceEq, Int.reduceAdd]; (try clear hB KB); (try clear hK K)))
  have hgl := gops_len c
  have hlen : ((gScript c).ops ++ [o]).length = (gScript c).ops.length + 1 := by simp
  refine cw_stepT (mkSt [(5, .b (.c (.ptr 1 0))), (6, .b (I (errorM (gScript c)).1)), (7, .b (I (errorM (gScript c)).2)), (8, .b (I (errorM (gScript c)).1)), (9, .b (I (errorM (gScript c)).2)),
      (11, .b (I (errorM (smoothM (gScript c))).1)), (12, .b (I (errorM (smoothM (gScript c))).2)), (13, .b (I (errorM (smoothM (gScript c))).1)), (14, .b (I (errorM (smoothM (gScript c))).2))]
    [(0, .fix ((sceneE c).map CV.p)), (1, .fix (((scriptE (gScript c)).map CV.p).take 9 ++ [.own 2 ((gScript c).ops.length + 1)])), (2, .arr 34 12 ((gScript c).ops.length + 1) (fnOf opE ((gScript c).ops ++ [o])))] 3) (.br 0 (.br 1 (.br 2 (.br 3 (.br 4 (.br 5 (.br 6 (.br 7 .leaf .nil) .nil) .nil) .nil) .nil) (.br 3 (.br 2 (.br 4 (.br 5 (.br 6 (.br 7 .leaf .nil) .nil) .nil) .nil) (.br 4 (.br 2 (.br 5 (.br 6 (.br 7 .leaf .nil) .nil) .nil) .nil) .nil)) .nil)) (.br 3 (.br 1 (.br 2 (.br 4 (.br 5 (.br 6 (.br 7 .leaf .nil) .nil) .nil) .nil) (.br 4 (.br 2 (.br 5 (.br 6 (.br 7 .leaf .nil) .nil) .nil) .nil) .nil)) (.br 4 (.br 1 (.br 2 (.br 5 (.br 6 (.br 7 .leaf .nil) .nil) .nil) .nil) .nil) .nil)) .nil)) (.br 3 (.br 0 (.br 1 (.br 2 (.br 4 (.br 5 (.br 6 (.br 7 .leaf .nil) .nil) .nil) .nil) (.br 4 (.br 2 (.br 5 (.br 6 (.br 7 .leaf .nil) .nil) .nil) .nil) .nil)) (.br 4 (.br 1 (.br 2 (.br 5 (.br 6 (.br 7 .leaf .nil) .nil) .nil) .nil) .nil) .nil)) (.br 4 (.br 0 (.br 1 (.br 2 (.br 5 (.br 6 (.br 7 .leaf .nil) .nil) .nil) .nil) .nil) .nil) .nil)) .nil)) (by decide +kernel) ?_ ?_
  · simp (maxSteps := 1000000) (disch := omega) only [go_sem, ↓reduceIte, Nat.reduceEqDiff, Nat.reduceAdd, Nat.reduceMul, Nat.reduceSub, Nat.reduceMod, Nat.reduceLeDiff, Nat.reduceLT, Nat.reduceBEq, reduceCtorEq, Int.reduceLT, Int.reduceLE, Int.reduceToNat, Int.reduceEq, Int.reduceAdd]
    repeat' (refine And.intro ?_ ?_)
    all_goals first | omega | exact Nat.le_of_ble_eq_true rfl | trivial | skip
    all_goals refine ⟨_, ?_, rfl⟩
    all_goals
      refine le_of [(1, some 2), (2, some 6)] rfl (by decide) rfl ?_ ?_
      all_goals simp (maxSteps := 1000000) (disch := omega) only [go_sem, ↓reduceIte, Nat.reduceEqDiff, Nat.reduceAdd, Nat.reduceMul, Nat.reduceSub, Nat.reduceMod, Nat.reduceLeDiff, Nat.reduceLT, Nat.reduceBEq, reduceCtorEq, Int.reduceLT, Int.reduceLE, Int.reduceToNat, Int.reduceEq, Int.reduceAdd]
      repeat' (refine And.intro ?_ ?_)
      all_goals first | rfl | omega | exact .inl rfl | trivial | skip
    all_goals
      refine .inr fun a ha j hj => arr_push (fun j hj => ?_) a ha j hj
      have hivl : j = 0 ∨ j = 1 ∨ j = 2 ∨ j = 3 ∨ j = 4 ∨ j = 5 ∨ j = 6 ∨ j = 7 ∨ j = 8 ∨ j = 9 ∨ j = 10 ∨ j = 11 := by omega
      rcases hivl with rfl | rfl | rfl | rfl | rfl | rfl | rfl | rfl | rfl | rfl | rfl | rfl <;> rfl
  clear hs hm e1 e2 e3 e4
  repeat' (first | refine cw_assoc ?_ | refine cw_skips ?_ | refine cw_labels ?_ | ((first | refine cw_step (fun K hK => ?_) | refine cw_last (fun K hK => ?_) | refine cw_stepD (by decide +kernel) (by decide +kernel) (fun K hK => ?_) | refine cw_lastD (by decide +kernel) (by decide +kernel) (fun K hK => ?_) | refine rgB_some ?_); (try simp (maxSteps := 1000000) (disch := omega) only [go_sem, ↓reduceIte, Nat.reduceEqDiff, Nat.reduceAdd, Nat.reduceMul, Nat.reduceSub, Nat.reduceMod, Nat.reduceLeDiff, Nat.reduceLT, Nat.reduceBEq, reduceCtorEq, Int.reduceLT, Int.reduceLE, Int.reduceToNat, Int.reduceEq, Int.reduceAdd]); (repeat' (refine And.intro ?_ ?_)); (all_goals first | (refine hK _ ?_; clear hK K) | exact auto_cl | skip)) | ((first | apply cw_ite | apply cw_iteN); (case hf => rfl); (case hc => simp (maxSteps := 1000000) (disch := omega) only [go_sem, ↓reduceIte, Nat.reduceEqDiff, Nat.reduceAdd, Nat.reduceMul, Nat.reduceSub, Nat.reduceMod, Nat.reduceLeDiff, Nat.reduceLT, Nat.reduceBEq, reduceCtorEq, Int.reduceLT, Int.reduceLE, Int.reduceToNat, Int.reduceEq, Int.reduceAdd]; rfl); (all_goals first | (intro hb; (try simp only [decide_eq_true_eq, decide_eq_false_iff_not, beq_iff_eq, beq_eq_false_iff_ne, bne_iff_ne, bne_eq_false_iff_eq, ne_eq, Bool.not_eq_true, Bool.not_eq_false, Bool.not_true, Bool.not_false, Bool.not_eq_eq_eq_not, Int.not_lt, Int.not_le, gt_iff_lt, ge_iff_le, Bool.cond_eq_ite, Bool.if_false_right, Bool.if_true_left, Bool.and_eq_true, Bool.or_eq_true, Bool.and_eq_false_imp, Bool.or_eq_false_iff, Decidable.not_not, beq_true, beq_false, iteT, iteF, cond_true, cond_false] at hb)) | skip)) | exact atN_intro | ((first | apply cw_if | apply cw_cond); (case hc => simp (maxSteps := 1000000) (disch := omega) only [go_sem, ↓reduceIte, Nat.reduceEqDiff, Nat.reduceAdd, Nat.reduceMul, Nat.reduceSub, Nat.reduceMod, Nat.reduceLeDiff, Nat.reduceLT, Nat.reduceBEq, reduceCtorEq, Int.reduceLT, Int.reduceLE, Int.reduceToNat, Int.reduceEq, Int.reduceAdd]; rfl); (all_goals (intro hb; (try simp only [decide_eq_true_eq, decide_eq_false_iff_not, beq_iff_eq, beq_eq_false_iff_ne, bne_iff_ne, bne_eq_false_iff_eq, ne_eq, Bool.not_eq_true, Bool.not_eq_false, Bool.not_true, Bool.not_false, Bool.not_eq_eq_eq_not, Int.not_lt, Int.not_le, gt_iff_lt, ge_iff_le, Bool.cond_eq_ite, Bool.if_false_right, Bool.if_true_left, Bool.and_eq_true, Bool.or_eq_true, Bool.and_eq_false_imp, Bool.or_eq_false_iff, Decidable.not_not, beq_true, beq_false, iteT, iteF, cond_true, cond_false] at hb); try (exfalso; omega)))) | (refine cw_blocks (fun KB hB => ?_)) | (refine cw_block ?_) | ((first | refine cw_exits ?_ | refine cw_exit ?_ | refine cw_skip ?_); simp (maxSteps := 1000000) (disch := omega) only [go_sem, ↓reduceIte, Nat.reduceEqDiff, Nat.reduceAdd, Nat.reduceMul, Nat.reduceSub, Nat.reduceMod, Nat.reduceLeDiff, Nat.reduceLT, Nat.reduceBEq, reduceCtorEq, Int.reduceLT, Int.reduceLE, Int.reduceToNat, Int.reduceEq, Int.reduceAdd]) | (refine hB _ ?_; clear hB KB) | (refine exit_by (S := Sg) (by assumption) ?_) | ((first | refine cw_rets ?_ | refine cw_ret ?_); simp (maxSteps := 1000000) (disch := omega) only [go_sem, ↓reduceIte, Nat.reduceEqDiff, Nat.reduceAdd, Nat.reduceMul, Nat.reduceSub, Nat.reduceMod, Nat.reduceLeDiff, Nat.reduceLT, Nat.reduceBEq, reduceCtorEq, Int.reduceLT, Int.reduceLE, Int.reduceToNat, Int.reduceEq, Int.reduceAdd]; (try clear hB KB); (try clear hK K)))
  refine call_lends ?_ ?_ (by simp (maxSteps := 1000000) (disch := omega) only [go_sem, ↓reduceIte, Nat.reduceEqDiff, Nat.reduceAdd, Nat.reduceMul, Nat.reduceSub, Nat.reduceMod, Nat.reduceLeDiff, Nat.reduceLT, Nat.reduceBEq, reduceCtorEq, Int.reduceLT, Int.reduceLE, Int.reduceToNat, Int.reduceEq, Int.reduceAdd]) ?_ (e5)
  try simp (maxSteps := 1000000) (disch := omega) only [go_sem, ↓reduceIte, Nat.reduceEqDiff, Nat.reduceAdd, Nat.reduceMul, Nat.reduceSub, Nat.reduceMod, Nat.reduceLeDiff, Nat.reduceLT, Nat.reduceBEq, reduceCtorEq, Int.reduceLT, Int.reduceLE, Int.reduceToNat, Int.reduceEq, Int.reduceAdd]
  try (refine hK _ ?_; clear hK K)
  · repeat' (first | refine cw_assoc ?_ | refine cw_skips ?_ | refine cw_labels ?_ | ((first | refine cw_step (fun K hK => ?_) | refine cw_last (fun K hK => ?_) | refine cw_stepD (by decide +kernel) (by decide +kernel) (fun K hK => ?_) | refine cw_lastD (by decide +kernel) (by decide +kernel) (fun K hK => ?_) | refine rgB_some ?_); (try simp (maxSteps := 1000000) (disch := omega) only [go_sem, ↓reduceIte, Nat.reduceEqDiff, Nat.reduceAdd, Nat.reduceMul, Nat.reduceSub, Nat.reduceMod, Nat.reduceLeDiff, Nat.reduceLT, Nat.reduceBEq, reduceCtorEq, Int.reduceLT, Int.reduceLE, Int.reduceToNat, Int.reduceEq, Int.reduceAdd]); (repeat' (refine And.intro ?_ ?_)); (all_goals first | (refine hK _ ?_; clear hK K) | exact auto_cl | skip)) | ((first | apply cw_ite | apply cw_iteN); (case hf => rfl); (case hc => simp (maxSteps := 1000000) (disch := omega) only [go_sem, ↓reduceIte, Nat.reduceEqDiff, Nat.reduceAdd, Nat.reduceMul, Nat.reduceSub, Nat.reduceMod, Nat.reduceLeDiff, Nat.reduceLT, Nat.reduceBEq, reduceCtorEq, Int.reduceLT, Int.reduceLE, Int.reduceToNat, Int.reduceEq, Int.reduceAdd]; rfl); (all_goals first | (intro hb; (try simp only [decide_eq_true_eq, decide_eq_false_iff_not, beq_iff_eq, beq_eq_false_iff_ne, bne_iff_ne, bne_eq_false_iff_eq, ne_eq, Bool.not_eq_true, Bool.not_eq_false, Bool.not_true, Bool.not_false, Bool.not_eq_eq_eq_not, Int.not_lt, Int.not_le, gt_iff_lt, ge_iff_le, Bool.cond_eq_ite, Bool.if_false_right, Bool.if_true_left, Bool.and_eq_true, Bool.or_eq_true, Bool.and_eq_false_imp, Bool.or_eq_false_iff, Decidable.not_not, beq_true, beq_false, iteT, iteF, cond_true, cond_false] at hb)) | skip)) | exact atN_intro | ((first | apply cw_if | apply cw_cond); (case hc => simp (maxSteps := 1000000) (disch := omega) only [go_sem, ↓reduceIte, Nat.reduceEqDiff, Nat.reduceAdd, Nat.reduceMul, Nat.reduceSub, Nat.reduceMod, Nat.reduceLeDiff, Nat.reduceLT, Nat.reduceBEq, reduceCtorEq, Int.reduceLT, Int.reduceLE, Int.reduceToNat, Int.reduceEq, Int.reduceAdd]; rfl); (all_goals (intro hb; (try simp only [decide_eq_true_eq, decide_eq_false_iff_not, beq_iff_eq, beq_eq_false_iff_ne, bne_iff_ne, bne_eq_false_iff_eq, ne_eq, Bool.not_eq_true, Bool.not_eq_false, Bool.not_true, Bool.not_false, Bool.not_eq_eq_eq_not, Int.not_lt, Int.not_le, gt_iff_lt, ge_iff_le, Bool.cond_eq_ite, Bool.if_false_right, Bool.if_true_left, Bool.and_eq_true, Bool.or_eq_true, Bool.and_eq_false_imp, Bool.or_eq_false_iff, Decidable.not_not, beq_true, beq_false, iteT, iteF, cond_true, cond_false] at hb); try (exfalso; omega)))) | (refine cw_blocks (fun KB hB => ?_)) | (refine cw_block ?_) | ((first | refine cw_exits ?_ | refine cw_exit ?_ | refine cw_skip ?_); simp (maxSteps := 1000000) (disch := omega) only [go_sem, ↓reduceIte, Nat.reduceEqDiff, Nat.reduceAdd, Nat.reduceMul, Nat.reduceSub, Nat.reduceMod, Nat.reduceLeDiff, Nat.reduceLT, Nat.reduceBEq, reduceCtorEq, Int.reduceLT, Int.reduceLE, Int.reduceToNat, Int.reduceEq, Int.reduceAdd]) | (refine hB _ ?_; clear hB KB) | (refine exit_by (S := Sg) (by assumption) ?_) | ((first | refine cw_rets ?_ | refine cw_ret ?_); simp (maxSteps := 1000000) (disch := omega) only [go_sem, ↓reduceIte, Nat.reduceEqDiff, Nat.reduceAdd, Nat.reduceMul, Nat.reduceSub, Nat.reduceMod, Nat.reduceLeDiff, Nat.reduceLT, Nat.reduceBEq, reduceCtorEq, Int.reduceLT, Int.reduceLE, Int.reduceToNat, Int.reduceEq, Int.reduceAdd]; (try clear hB KB); (try clear hK K)))
    refine call_lends ?_ ?_ (by simp (maxSteps := 1000000) (disch := omega) only [go_sem, ↓reduceIte, Nat.reduceEqDiff, Nat.reduceAdd, Nat.reduceMul, Nat.reduceSub, Nat.reduceMod, Nat.reduceLeDiff, Nat.reduceLT, Nat.reduceBEq, reduceCtorEq, Int.reduceLT, Int.reduceLE, Int.reduceToNat, Int.reduceEq, Int.reduceAdd]) ?_ (e6)
    try simp (maxSteps := 1000000) (disch := omega) only [go_sem, ↓reduceIte, Nat.reduceEqDiff, Nat.reduceAdd, Nat.reduceMul, Nat.reduceSub, Nat.reduceMod, Nat.reduceLeDiff, Nat.reduceLT, Nat.reduceBEq, reduceCtorEq, Int.reduceLT, Int.reduceLE, Int.reduceToNat, Int.reduceEq, Int.reduceAdd]
    try (refine hK _ ?_; clear hK K)
    · repeat' (first | refine cw_assoc ?_ | refine cw_skips ?_ | refine cw_labels ?_ | ((first | refine cw_step (fun K hK => ?_) | refine cw_last (fun K hK => ?_) | refine cw_stepD (by decide +kernel) (by decide +kernel) (fun K hK => ?_) | refine cw_lastD (by decide +kernel) (by decide +kernel) (fun K hK => ?_) | refine rgB_some ?_ | refine call_a (ha) ?_ | refine gcall_a (fun hg => ha) ?_); (try simp (maxSteps := 1000000) (disch := omega) only [go_sem, ↓reduceIte, Nat.reduceEqDiff, Nat.reduceAdd, Nat.reduceMul, Nat.reduceSub, Nat.reduceMod, Nat.reduceLeDiff, Nat.reduceLT, Nat.reduceBEq, reduceCtorEq, Int.reduceLT, Int.reduceLE, Int.reduceToNat, Int.reduceEq, Int.reduceAdd]); (repeat' (refine And.intro ?_ ?_)); (all_goals first | (refine hK _ ?_; clear hK K) | exact auto_cl | skip)) | ((first | apply cw_ite | apply cw_iteN); (case hf => rfl); (case hc => simp (maxSteps := 1000000) (disch := omega) only [go_sem, ↓reduceIte, Nat.reduceEqDiff, Nat.reduceAdd, Nat.reduceMul, Nat.reduceSub, Nat.reduceMod, Nat.reduceLeDiff, Nat.reduceLT, Nat.reduceBEq, reduceCtorEq, Int.reduceLT, Int.reduceLE, Int.reduceToNat, Int.reduceEq, Int.reduceAdd]; rfl); (all_goals first | (intro hb; (try simp only [decide_eq_true_eq, decide_eq_false_iff_not, beq_iff_eq, beq_eq_false_iff_ne, bne_iff_ne, bne_eq_false_iff_eq, ne_eq, Bool.not_eq_true, Bool.not_eq_false, Bool.not_true, Bool.not_false, Bool.not_eq_eq_eq_not, Int.not_lt, Int.not_le, gt_iff_lt, ge_iff_le, Bool.cond_eq_ite, Bool.if_false_right, Bool.if_true_left, Bool.and_eq_true, Bool.or_eq_true, Bool.and_eq_false_imp, Bool.or_eq_false_iff, Decidable.not_not, beq_true, beq_false, iteT, iteF, cond_true, cond_false] at hb)) | skip)) | exact atN_intro | ((first | apply cw_if | apply cw_cond); (case hc => simp (maxSteps := 1000000) (disch := omega) only [go_sem, ↓reduceIte, Nat.reduceEqDiff, Nat.reduceAdd, Nat.reduceMul, Nat.reduceSub, Nat.reduceMod, Nat.reduceLeDiff, Nat.reduceLT, Nat.reduceBEq, reduceCtorEq, Int.reduceLT, Int.reduceLE, Int.reduceToNat, Int.reduceEq, Int.reduceAdd]; rfl); (all_goals (intro hb; (try simp only [decide_eq_true_eq, decide_eq_false_iff_not, beq_iff_eq, beq_eq_false_iff_ne, bne_iff_ne, bne_eq_false_iff_eq, ne_eq, Bool.not_eq_true, Bool.not_eq_false, Bool.not_true, Bool.not_false, Bool.not_eq_eq_eq_not, Int.not_lt, Int.not_le, gt_iff_lt, ge_iff_le, Bool.cond_eq_ite, Bool.if_false_right, Bool.if_true_left, Bool.and_eq_true, Bool.or_eq_true, Bool.and_eq_false_imp, Bool.or_eq_false_iff, Decidable.not_not, beq_true, beq_false, iteT, iteF, cond_true, cond_false] at hb); try (exfalso; omega)))) | (refine cw_blocks (fun KB hB => ?_)) | (refine cw_block ?_) | ((first | refine cw_exits ?_ | refine cw_exit ?_ | refine cw_skip ?_); simp (maxSteps := 1000000) (disch := omega) only [go_sem, ↓reduceIte, Nat.reduceEqDiff, Nat.reduceAdd, Nat.reduceMul, Nat.reduceSub, Nat.reduceMod, Nat.reduceLeDiff, Nat.reduceLT, Nat.reduceBEq, reduceCtorEq, Int.reduceLT, Int.reduceLE, Int.reduceToNat, Int.reduceEq, Int.reduceAdd]) | (refine hB _ ?_; clear hB KB) | (refine exit_by (S := Sg) (by assumption) ?_) | ((first | refine cw_rets ?_ | refine cw_ret ?_); simp (maxSteps := 1000000) (disch := omega) only [go_sem, ↓reduceIte, Nat.reduceEqDiff, Nat.reduceAdd, Nat.reduceMul, Nat.reduceSub, Nat.reduceMod, Nat.reduceLeDiff, Nat.reduceLT, Nat.reduceBEq, reduceCtorEq, Int.reduceLT, Int.reduceLE, Int.reduceToNat, Int.reduceEq, Int.reduceAdd]; (try clear hB KB); (try clear hK K)))
      simp only [es, beq_self_eq_true, Bool.and_self]
    · refine ⟨bvle_agg ?_, trivial⟩
      simp (maxSteps := 1000000) (disch := omega) only [go_sem, ↓reduceIte, Nat.reduceEqDiff, Nat.reduceAdd, Nat.reduceMul, Nat.reduceSub, Nat.reduceMod, Nat.reduceLeDiff, Nat.reduceLT, Nat.reduceBEq, reduceCtorEq, Int.reduceLT, Int.reduceLE, Int.reduceToNat, Int.reduceEq, Int.reduceAdd, List.map_cons, List.map_nil, cleL_cons, cleL_nil]
      exact .inl (by rw [hlen])
    exact flat2 _ _
  · refine ⟨bvle_agg ?_, trivial⟩
    simp (maxSteps := 1000000) (disch := omega) only [go_sem, ↓reduceIte, Nat.reduceEqDiff, Nat.reduceAdd, Nat.reduceMul, Nat.reduceSub, Nat.reduceMod, Nat.reduceLeDiff, Nat.reduceLT, Nat.reduceBEq, reduceCtorEq, Int.reduceLT, Int.reduceLE, Int.reduceToNat, Int.reduceEq, Int.reduceAdd, List.map_cons, List.map_nil, cleL_cons, cleL_nil]
    exact .inl (by rw [hlen])
  exact flat2 _ _
end Go.Proofs.YtfjaojlbnjdmgaaDoor
