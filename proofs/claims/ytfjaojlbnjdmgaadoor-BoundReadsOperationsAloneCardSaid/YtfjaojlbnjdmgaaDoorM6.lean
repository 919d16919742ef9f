/- Part 6 of the proof: F28, F30, F31, F29, F32. -/
import Derived.Test.YtfjaojlbnjdmgaaDoorM0
import Derived.Test.YtfjaojlbnjdmgaaDoorM1
import Derived.Test.YtfjaojlbnjdmgaaDoorM2
import Derived.Test.YtfjaojlbnjdmgaaDoorM3
import Derived.Test.YtfjaojlbnjdmgaaDoorM4
import Derived.Test.YtfjaojlbnjdmgaaDoorM5
set_option linter.unusedSimpArgs false
set_option linter.unusedVariables false
set_option maxRecDepth 8000
set_option maxHeartbeats 8000000
namespace Go.Proofs.YtfjaojlbnjdmgaaDoor
open Go Go.SL
open Go.RowKit (wrap64)

theorem bStep_op0 {b : Int} {st : List Lev} {l : List Op} {o : Op} (hl : st.length = l.length + 1) (h3 : o.kind = 3 → 0 < l.length) : ((bStep b st o).getD 0 default).op = (st.getD 0 default).op := by
  have hp : ∀ (st : List Lev) (o : Op) (q : Int), 0 < st.length → ((paintTop b st o q).getD 0 default).op = (st.getD 0 default).op := fun st o q h => by
    rw [paintTop, getD_push, List.length_dropLast]
    by_cases h1 : 0 < st.length - 1
    · rw [if_pos h1, getD_dropLast h1]
    · rw [if_neg h1, if_pos (by omega), paintM_op.1, lastL, show st.length - 1 = 0 by omega]
  unfold bStep
  split
  · rw [getD_push, if_pos (by omega)]
  split
  · rename_i hk
    have := h3 hk
    rw [hp _ _ _ (by rw [List.length_dropLast]; omega), getD_dropLast (by omega)]
  · rw [hp _ _ _ (by omega)]
theorem bAll {s : Script} (h : (opsM s).1 = 0) (hb : burnsM s.ops = false) : ∀ i, i ≤ s.ops.length → ∃ st l, BInv s i st l ∧ (st.getD 0 default).op = isoOp
  | 0, _ => ⟨lev0, [], bInv0 h, rfl⟩
  | i + 1, hi => by
    obtain ⟨st, l, h1, h2⟩ := bAll h hb i (by omega)
    refine ⟨_, _, bInv_step h1 (by omega) hb, ?_⟩
    have he := (bInv_op h1 (by omega) hb).1
    rw [bStep_op0 h1.len (fun h3 => opErr_pop he h3), h2]
/-- What is left at the end. -/
theorem bEnd {s : Script} (h : (opsM s).1 = 0) (hb : burnsM s.ops = false) : ∃ x : Lev, boundAll s.bits s.ops = [x] ∧ x.op = isoOp ∧ LevOk x := by
  obtain ⟨st, l, h1, h2⟩ := bAll h hb s.ops.length (Nat.le_refl _)
  have hgo := h1.go
  rw [List.drop_length, opsGo] at hgo
  have hl : l.length = 0 := by
    by_cases hc : 0 < l.length
    · rw [if_pos hc] at hgo; cases hgo
    · omega
  have hs : st.length = 1 := by rw [h1.len, hl]
  have he : boundAll s.bits s.ops = st := by rw [h1.eq, List.take_of_length_le (Nat.le_refl _)]; rfl
  obtain ⟨x, rfl⟩ := List.length_eq_one_iff.1 hs
  exact ⟨x, he, h2, h1.ok.ok 0 (by simp)⟩
theorem lipB_pos {m : Int} (h : isOp m = true) (h7 : m ≠ 7) (h8 : m ≠ 8) : 1 ≤ lipB 4 m := by
  simp only [isOp, decide_eq_true_eq] at h
  have : m = 1 ∨ m = 2 ∨ m = 3 ∨ m = 4 ∨ m = 5 ∨ m = 6 ∨ m = 9 ∨ m = 10 ∨ m = 11 ∨ m = 12 := by omega
  rcases this with rfl | rfl | rfl | rfl | rfl | rfl | rfl | rfl | rfl | rfl <;> decide
/-- One more draw outside all groups, with src-over. -/
theorem grow {s : Script} {o : Op} (h : (opsM s).1 = 0) (hb : burnsM s.ops = false) (hk : o.kind = 1) (ho : o.operator = 4) (hm : isOp o.mode = true) (h7 : o.mode ≠ 7) (h8 : o.mode ≠ 8) :
    boundN s.bits (s.ops ++ [o]) > boundN s.bits s.ops ∨ boundN s.bits s.ops = 1099511627776 ∧ boundN s.bits (s.ops ++ [o]) = boundN s.bits s.ops := by
  obtain ⟨x, h1, h2, h3⟩ := bEnd h hb
  have e1 : boundN s.bits s.ops = x.e := by rw [boundN, h1]; rfl
  have hB := lipB_pos hm h7 h8
  have hr := lip_range o.operator o.mode
  have hq := qOf_ok (b := s.bits) (o := o) (q := 0) (Int.le_refl _)
  have e2 : boundN s.bits (s.ops ++ [o]) = min (lipA o.operator o.mode * qOf s.bits o 0 + lipB o.operator o.mode * x.e + 1) 1099511627776 := by
    have : boundAll s.bits (s.ops ++ [o]) = bStep s.bits (boundAll s.bits s.ops) o := by rw [boundAll, List.foldl_append]; rfl
    rw [boundN, this, h1, bStep, if_neg (by omega), if_neg (by omega), paintTop]
    show (paintM x o (qOf s.bits o 0)).e = _
    rw [paintM, h2, if_neg (by show ¬ (false = true); decide)]
  rw [e1, e2]
  obtain ⟨p1, p2, p3, p4⟩ := h3
  have a1 : 0 ≤ lipA o.operator o.mode * qOf s.bits o 0 := Int.mul_nonneg hr.1 hq.1
  rw [ho] at a1 ⊢
  have a2 : 1 * x.e ≤ lipB 4 o.mode * x.e := Int.mul_le_mul_of_nonneg_right hB p1
  omega

def drawO (s : Scene) (r : Raw) : Op := gOp r false (gImages s).length (gCanvas s).x0 (gCanvas s).y0 false (gMax s.bits)
def growO (s : Scene) (r : Raw) : Op := if (drawO s r).mode = 7 ∨ (drawO s r).mode = 8 then { drawO s r with mode := 11 } else drawO s r
theorem drawO_err (s : Scene) (r : Raw) : (drawO s r).kind = 1 ∧ (drawO s r).operator = 4 ∧ opErr (gScript s).bits (gImages s).length (drawO s r) [] = 0 := by
  have hg := (gOp_ok (s := s) (r := { r with kind := 3 }) (l := [⟨0, 0, 0, 0, 0, 0, 0, 0, 0, 0, false, false⟩]) (by decide)).1
  have e : gOp { r with kind := 3 } (decide ((3 : Int) % 8 < 3)) (gImages s).length (gCanvas s).x0 (gCanvas s).y0 (ctxOk [⟨0, 0, 0, 0, 0, 0, 0, 0, 0, 0, false, false⟩]) (gMax s.bits) = drawO s r := rfl
  rw [show ({ r with kind := 3 } : Raw).kind = 3 from rfl, e] at hg
  have hk : (drawO s r).kind = 1 := rfl
  have ho : (drawO s r).operator = 4 := rfl
  refine ⟨hk, ho, ?_⟩
  rw [opErr_zero] at hg ⊢
  obtain ⟨g1, g2, g3, g4⟩ := hg
  have hk3 : (drawO s r).kind ≠ 3 := by omega
  obtain ⟨q1, q2, q3, q4, q5, q6, q7⟩ := g4 hk3
  exact ⟨g1, g2, fun h => absurd h hk3, fun _ => ⟨q1, q2, q3, q4, q5, fun h => absurd ho h, fun h => by omega⟩⟩
theorem growO_err (s : Scene) (r : Raw) : (growO s r).kind = 1 ∧ (growO s r).operator = 4 ∧ isOp (growO s r).mode = true ∧ (growO s r).mode ≠ 7 ∧ (growO s r).mode ≠ 8 ∧ opErr (gScript s).bits (gImages s).length (growO s r) [] = 0 := by
  obtain ⟨h1, h2, h3⟩ := drawO_err s r
  have hz := h3
  rw [opErr_zero] at hz
  obtain ⟨g1, g2, g3, g4⟩ := hz
  have hk3 : (drawO s r).kind ≠ 3 := by omega
  obtain ⟨q1, q2, q3, q4, q5, q6, q7⟩ := g4 hk3
  unfold growO
  split
  · refine ⟨h1, h2, rfl, by dsimp only; omega, by dsimp only; omega, ?_⟩
    rw [opErr_zero]
    refine ⟨g1, ?_, g3, fun _ => ⟨q1, q2, q3, q4, rfl, q6, q7⟩⟩
    simp only [fieldsM, if_neg hk3] at g2 ⊢
    exact g2
  · rename_i hc
    exact ⟨h1, h2, q5, fun h => hc (.inl h), fun h => hc (.inr h), h3⟩
def growS (s : Scene) (r : Raw) : Script := { smoothM (gScript s) with ops := (gScript s).ops.map smoothO ++ [growO s r] }
theorem growS_ok (s : Scene) (r : Raw) : errorM (growS s r) = (boundN (gScript s).bits ((gScript s).ops.map smoothO ++ [growO s r]), 0) ∧ ScriptLen (growS s r) := by
  have hg := smooth_good (gScript_good s)
  obtain ⟨h1, h2, h3, h4, h5, h6⟩ := growO_err s r
  have hl : (growS s r).ops.length ≤ 4096 := by
    show ((gScript s).ops.map smoothO ++ [growO s r]).length ≤ 4096
    have := hg.len
    rw [List.length_append]
    simp only [List.length_cons, List.length_nil]
    omega
  have hf : frameM (growS s r) = 0 := gframe (s := s) (t := growS s r) rfl rfl rfl rfl rfl (gimages_len s) hl
  have ho : opsM (growS s r) = (0, 0) := opsM_ok hf (okAll_append.2 ⟨hg.ok, by rw [hg.op]; exact h6, trivial⟩) (by
    show openAfter ((gScript s).ops.map smoothO ++ [growO s r]) [] = []
    rw [openAfter_append, hg.op]
    show nextOpen [] (growO s r) = []
    rw [nextOpen, if_neg (by omega), if_neg (by omega)])
  have hb : burnsM (growS s r).ops = false := by
    show burnsM ((gScript s).ops.map smoothO ++ [growO s r]) = false
    have := smooth_burns (gScript s).ops
    unfold burnsM at this ⊢
    rw [List.any_append, this]
    simp [h4, h5]
  exact ⟨errorM_ok ho hb, g_len s rfl (gimages_len s) hl⟩
theorem smooth_opsM (s : Scene) : opsM (smoothM (gScript s)) = (0, 0) := by
  have hg := smooth_good (gScript_good s)
  refine opsM_ok (gframe rfl rfl rfl rfl rfl (gimages_len s) ?_) hg.ok hg.op
  exact Nat.le_trans hg.len (by decide)
theorem grow_law (s : Scene) (r : Raw) : (errorM (growS s r)).1 > (errorM (smoothM (gScript s))).1 ∨ (errorM (smoothM (gScript s))).1 = 1099511627776 ∧ (errorM (growS s r)).1 = (errorM (smoothM (gScript s))).1 := by
  obtain ⟨h1, h2, h3, h4, h5, h6⟩ := growO_err s r
  rw [(growS_ok s r).1, smooth_error]
  exact grow (s := smoothM (gScript s)) (by rw [smooth_opsM]) (smooth_burns _) h1 h2 h3 h4 h5
end Go.Proofs.YtfjaojlbnjdmgaaDoor

set_option linter.unusedSimpArgs false
set_option linter.unusedVariables false
set_option maxRecDepth 8000
namespace Go.Proofs.YtfjaojlbnjdmgaaDoor
open Go Go.SL

/-! The bound reads the operations alone: the plain law. -/
def norm (b : Int) (o : Op) : Op := { o with image := 0, x := 0, y := 0, maskX := 0, maskY := 0, opacity := if o.opacity = maxOf b then maxOf b else 0 }
def ln (b : Int) (l : Lev) : Lev := { l with op := norm b l.op }
theorem qOf_norm {b : Int} (hb : maxOf b ≠ 0) (o : Op) (q : Int) : qOf b (norm b o) q = qOf b o q := by
  unfold qOf norm
  dsimp only
  by_cases h : o.opacity = maxOf b
  · rw [if_pos h, if_pos rfl, if_pos h]
  · simp only [if_neg h, if_neg (show ¬ (0 : Int) = maxOf b from fun e => hb e.symm)]
theorem lastL_map {b : Int} (hb : maxOf b ≠ 0) (l : List Lev) : lastL (l.map (ln b)) = ln b (lastL l) := by
  have hd : ln b default = default := by
    show (⟨norm b default, 0, 0⟩ : Lev) = ⟨default, 0, 0⟩
    have : norm b default = default := by
      show (⟨0, 0, 0, 0, 0, 0, 0, if (0 : Int) = maxOf b then maxOf b else 0, 0, 0, false, false⟩ : Op) = ⟨0, 0, 0, 0, 0, 0, 0, 0, 0, 0, false, false⟩
      rw [if_neg (fun e => hb e.symm)]
    rw [this]
  unfold lastL
  rw [List.length_map, List.getD_eq_getElem?_getD, List.getD_eq_getElem?_getD, List.getElem?_map]
  cases l[l.length - 1]? with
  | none => exact hd.symm
  | some x => rfl
theorem paint_map {b : Int} (L : Lev) (o : Op) (q : Int) : paintM (ln b L) (norm b o) q = ln b (paintM L o q) := by
  unfold paintM ln norm
  dsimp only
  split <;> rfl
theorem begin_map {b : Int} (L : Lev) (o : Op) : beginM (ln b L) (norm b o) = ln b (beginM L o) := by
  unfold beginM ln norm
  dsimp only
  split
  · rfl
  split <;> rfl
theorem paintTop_map {b : Int} (hb : maxOf b ≠ 0) (l : List Lev) (o : Op) (q : Int) : paintTop b (l.map (ln b)) (norm b o) q = (paintTop b l o q).map (ln b) := by
  rw [paintTop, paintTop, lastL_map hb, qOf_norm hb, paint_map, List.map_append, List.map_dropLast]; rfl
theorem bStep_map {b : Int} (hb : maxOf b ≠ 0) (l : List Lev) (o : Op) : bStep b (l.map (ln b)) (norm b o) = (bStep b l o).map (ln b) := by
  unfold bStep
  have hk : (norm b o).kind = o.kind := rfl
  rw [hk]
  split
  · rw [lastL_map hb, begin_map, List.map_append]; rfl
  split
  · rw [lastL_map hb]
    show paintTop b (l.map (ln b)).dropLast (norm b (lastL l).op) (resultM (lastL l)) = _
    rw [← List.map_dropLast, paintTop_map hb]
  · exact paintTop_map hb l o 0
theorem fold_map {b : Int} (hb : maxOf b ≠ 0) : ∀ (ops : List Op) (l : List Lev), (ops.map (norm b)).foldl (bStep b) (l.map (ln b)) = (ops.foldl (bStep b) l).map (ln b)
  | [], l => rfl
  | o :: r, l => by
    show (r.map (norm b)).foldl (bStep b) (bStep b (l.map (ln b)) (norm b o)) = (r.foldl (bStep b) (bStep b l o)).map (ln b)
    rw [bStep_map hb, fold_map hb r]
theorem boundN_norm {b : Int} (hb : maxOf b ≠ 0) (ops : List Op) : boundN b (ops.map (norm b)) = boundN b ops := by
  have h0 : lev0.map (ln b) = lev0 := by
    show [(⟨norm b isoOp, 0, 0⟩ : Lev)] = [⟨isoOp, 0, 0⟩]
    have : norm b isoOp = isoOp := by
      show (⟨0, 0, 0, 0, 0, 0, 0, if (0 : Int) = maxOf b then maxOf b else 0, 0, 0, true, false⟩ : Op) = ⟨0, 0, 0, 0, 0, 0, 0, 0, 0, 0, true, false⟩
      rw [if_neg (fun e => hb e.symm)]
    rw [this]
  have h := fold_map hb ops lev0
  rw [h0] at h
  rw [boundN, boundN, boundAll, boundAll, h]
  cases ops.foldl (bStep b) lev0 with
  | nil => rfl
  | cons a r => rfl
/-- What the law changes. -/
def chgO (m a v : Int) (o : Op) : Op :=
  { o with x := if o.kind = 1 then o.x + a % 50 else o.x, y := if o.kind = 1 then o.y - a % 7 else o.y, opacity := if o.kind ≠ 3 ∧ o.opacity ≠ m then v % m else o.opacity }
theorem chg_norm {b a v : Int} (hb : 0 < maxOf b) (o : Op) : norm b (chgO (maxOf b) a v o) = norm b o := by
  unfold norm chgO
  dsimp only
  have h1 := Int.emod_lt_of_pos v hb
  by_cases h : o.kind ≠ 3 ∧ o.opacity ≠ maxOf b
  · rw [if_pos h, if_neg (by omega), if_neg h.2]
  · rw [if_neg h]
theorem chg_same {m a v : Int} : Same (chgO m a v) := ⟨fun _ => rfl, fun _ => rfl, fun _ => rfl⟩
theorem chg_err {b a v : Int} {n : Nat} {o : Op} {l : List Op} (hb : 0 < maxOf b) (ht : OpTame (maxOf b) o) (h : opErr b n o l = 0) : opErr b n (chgO (maxOf b) a v o) (l.map (chgO (maxOf b) a v)) = 0 := by
  have hc := ctxOk_map (chg_same (m := maxOf b) (a := a) (v := v)) l
  rw [opErr_zero] at h ⊢
  rw [hc, List.length_map]
  obtain ⟨h1, h2, h3, h4⟩ := h
  obtain ⟨⟨x1, x2⟩, ⟨y1, y2⟩, ⟨o1, o2⟩, ⟨m1, m2⟩, ⟨m3, m4⟩⟩ := ht
  have e1 := Int.emod_nonneg a (show (50 : Int) ≠ 0 by omega)
  have e2 := Int.emod_lt_of_pos a (show (0 : Int) < 50 by omega)
  have e3 := Int.emod_nonneg a (show (7 : Int) ≠ 0 by omega)
  have e4 := Int.emod_lt_of_pos a (show (0 : Int) < 7 by omega)
  have e5 := Int.emod_lt_of_pos v hb
  refine ⟨h1, ?_, h3, fun hk => ?_⟩
  · by_cases hk : o.kind = 3
    · have e : chgO (maxOf b) a v o = o := by
        unfold chgO
        rw [if_neg (by omega), if_neg (by omega), if_neg (fun q => q.1 hk)]
      rw [e]; exact h2
    · have e : fieldsM (chgO (maxOf b) a v o) = fieldsM o := by
        unfold fieldsM chgO
        by_cases hk1 : o.kind = 1
        · have hk2 : ¬ o.kind = 2 := by omega
          simp [hk1]
        · simp [hk, hk1]
      rw [e]; exact h2
  · obtain ⟨q1, q2, q3, q4, q5, q6, q7⟩ := h4 hk
    refine ⟨q1, ?_, ?_, q4, q5, q6, q7⟩
    · simp only [withinM, chgO, List.all_cons, List.all_nil, Bool.and_true, Bool.and_eq_true, decide_eq_true_eq]
      refine ⟨?_, ?_, ?_, ?_⟩ <;> (repeat' split) <;> omega
    · show (if o.kind ≠ 3 ∧ o.opacity ≠ maxOf b then v % maxOf b else o.opacity) ≤ maxOf b
      split <;> omega
end Go.Proofs.YtfjaojlbnjdmgaaDoor

set_option linter.unusedSimpArgs false
set_option linter.unusedVariables false
set_option maxRecDepth 8000
set_option maxHeartbeats 8000000
namespace Go.Proofs.YtfjaojlbnjdmgaaDoor
open Go Go.SL
open Go.RowKit (wrap64)

/-- Some images replaced. -/
def mixI (x y : List Image) : List Image := y.take x.length ++ x.drop y.length
theorem mixI_len (x y : List Image) : (mixI x y).length = x.length := by
  rw [mixI, List.length_append, List.length_take, List.length_drop]; omega
def readS (c d : Scene) (a v : Int) : Script :=
  { smoothM (gScript c) with ops := ((gScript c).ops.map smoothO).map (chgO (gMax c.bits) a v), images := mixI (gImages c) (gImages d) }
theorem readS_ok (c d : Scene) (a v : Int) : errorM (readS c d a v) = (boundN (gScript c).bits ((gScript c).ops.map smoothO), 0) ∧ ScriptLen (readS c d a v) := by
  have hg := smooth_good (gScript_good c)
  have hi := gImages_le c
  have hu := gMax_u c.bits
  have hm := maxOf_g c
  have hb : 0 < maxOf (gScript c).bits := by omega
  have hl : (readS c d a v).ops.length ≤ 4096 := by
    show (((gScript c).ops.map smoothO).map (chgO (gMax c.bits) a v)).length ≤ 4096
    have := hg.len
    rw [List.length_map]; omega
  have hil : (readS c d a v).images.length = (gImages c).length := mixI_len _ _
  have hf : frameM (readS c d a v) = 0 := gframe (s := c) (t := readS c d a v) rfl rfl rfl rfl rfl (by omega) hl
  have hk : okAll (gScript c).bits (gImages c).length (((gScript c).ops.map smoothO).map (chgO (gMax c.bits) a v)) [] := by
    rw [← hm]
    refine okAll_map chg_same _ [] (fun o ho l he => ?_) hg.ok
    refine chg_err hb ?_ he
    have := hg.tame o ho
    rw [hm]; exact this
  have ho : opsM (readS c d a v) = (0, 0) := opsM_ok hf (by rw [hil]; exact hk) (by
    have := openAfter_map (chg_same (m := gMax c.bits) (a := a) (v := v)) ((gScript c).ops.map smoothO) []
    rw [hg.op] at this
    exact this)
  have hbu : burnsM (readS c d a v).ops = false := by
    have h := smooth_burns (gScript c).ops
    show burnsM (((gScript c).ops.map smoothO).map (chgO (gMax c.bits) a v)) = false
    unfold burnsM at h ⊢
    rw [List.any_map]
    exact h
  refine ⟨?_, g_len c rfl (by omega) hl⟩
  rw [errorM_ok ho hbu]
  have hn : (((gScript c).ops.map smoothO).map (chgO (gMax c.bits) a v)).map (norm (gScript c).bits) = ((gScript c).ops.map smoothO).map (norm (gScript c).bits) := by
    rw [List.map_map]
    refine List.map_congr_left fun o _ => ?_
    rw [← hm]
    exact chg_norm hb o
  have e1 := boundN_norm (b := (gScript c).bits) (by omega) (((gScript c).ops.map smoothO).map (chgO (gMax c.bits) a v))
  have e2 := boundN_norm (b := (gScript c).bits) (by omega) ((gScript c).ops.map smoothO)
  show (boundN (gScript c).bits (((gScript c).ops.map smoothO).map (chgO (gMax c.bits) a v)), (0 : Int)) = _
  rw [← e1, hn, e2]
end Go.Proofs.YtfjaojlbnjdmgaaDoor

set_option linter.unusedSimpArgs false
set_option linter.unusedVariables false
set_option maxRecDepth 8000
set_option maxHeartbeats 8000000
namespace Go.Proofs.YtfjaojlbnjdmgaaDoor
open Go Go.SL
open Go.RowKit (wrap64)

/-- P30.2, the fourth. -/
theorem grows_spec (c : Scene) (r : Raw) (hc : SceneOk c) (hr : RawOk r) : Pure Sg 7 [ag (sceneE c), ag (rawE r)] (fun r => r = .b (B true)) := by
  have ha := awake_spec
  have hs := gscript_spec c hc
  have hm := smooth_spec (gScript c) (Nat.le_trans (gops_len c) (by decide))
  have hu := gMax_u c.bits
  have hi := gImages_le c
  have hcb : -2000000000 ≤ (gCanvas c).x0 ∧ (gCanvas c).x0 ≤ 2000000000 ∧ -2000000000 ≤ (gCanvas c).y0 ∧ (gCanvas c).y0 ≤ 2000000000 := by
    obtain ⟨h1, h2, h3, h4, h5, h6⟩ := gCanvas_small c
    omega
  have hmx : Pure Sg 16 [I (smoothM (gScript c)).bits] (fun x => x = .tup [U (gMax c.bits), B (decide ((gScript c).bits = 8 ∨ (gScript c).bits = 16))]) := by
    have := r01max_spec (gScript c).bits
    rw [show (if (gScript c).bits = 8 then (255 : Int) else if (gScript c).bits = 16 then 65535 else 0) = gMax c.bits from maxOf_g c] at this
    exact this
  have hop : Pure Sg 18 [ag (rawE r), B false, I (gImages c).length, ag (rectE (gCanvas c)), B false, U (gMax c.bits)] (fun x => x = .b (ag (opE (drawO c r)))) :=
    op_spec r false (gImages c).length (gCanvas c) false (gMax c.bits) hr (by omega) (by omega) hcb.1 hcb.2.1 hcb.2.2.1 hcb.2.2.2 (by unfold u16; omega)
  refine pure_of Tryd.func7 rfl (rs := [.tmp 4]) rfl rfl mixed (by decide +kernel) (Nat.le_of_ble_eq_true rfl) (argsLt_mem (by simp (maxSteps := 1000000) (disch := omega) only [go_sem, ↓reduceIte, Nat.reduceEqDiff, Nat.reduceAdd, Nat.reduceMul, Nat.reduceSub, Nat.reduceMod, Nat.reduceLeDiff, Nat.reduceLT, Nat.reduceBEq, reduceCtorEq, Int.reduceLT, Int.reduceLE, Int.reduceToNat, Int.reduceEq, Int.reduceAdd])) ?_
  repeat' (first | ((first | ((with_reducible refine cw_stepDK (id := 3) [] (by decide +kernel) (by decide +kernel) ?_ (fun K hK => ?_)); (focus (intro iw hiw; (try simp (maxSteps := 1000000) (disch := omega) only [go_sem, ↓reduceIte, Nat.reduceEqDiff, Nat.reduceAdd, Nat.reduceMul, Nat.reduceSub, Nat.reduceMod, Nat.reduceLeDiff, Nat.reduceLT, Nat.reduceBEq, reduceCtorEq, Int.reduceLT, Int.reduceLE, Int.reduceToNat, Int.reduceEq, Int.reduceAdd] at hiw ⊢); (repeat (first | rfl | rw [if_neg (by omega)])); done))) | ((with_reducible refine cw_lastDK (id := 3) [] (by decide +kernel) (by decide +kernel) ?_ (fun K hK => ?_)); (focus (intro iw hiw; (try simp (maxSteps := 1000000) (disch := omega) only [go_sem, ↓reduceIte, Nat.reduceEqDiff, Nat.reduceAdd, Nat.reduceMul, Nat.reduceSub, Nat.reduceMod, Nat.reduceLeDiff, Nat.reduceLT, Nat.reduceBEq, reduceCtorEq, Int.reduceLT, Int.reduceLE, Int.reduceToNat, Int.reduceEq, Int.reduceAdd] at hiw ⊢); (repeat (first | rfl | rw [if_neg (by omega)])); done)))); (try simp (maxSteps := 1000000) (disch := omega) only [go_sem, ↓reduceIte, Nat.reduceEqDiff, Nat.reduceAdd, Nat.reduceMul, Nat.reduceSub, Nat.reduceMod, Nat.reduceLeDiff, Nat.reduceLT, Nat.reduceBEq, reduceCtorEq, Int.reduceLT, Int.reduceLE, Int.reduceToNat, Int.reduceEq, Int.reduceAdd]); (repeat' (refine And.intro ?_ ?_)); (all_goals first | (refine hK _ (by simp (maxSteps := 1000000) (disch := omega) only [go_sem, ↓reduceIte, Nat.reduceEqDiff, Nat.reduceAdd, Nat.reduceMul, Nat.reduceSub, Nat.reduceMod, Nat.reduceLeDiff, Nat.reduceLT, Nat.reduceBEq, reduceCtorEq, Int.reduceLT, Int.reduceLE, Int.reduceToNat, Int.reduceEq, Int.reduceAdd]) ?_; clear hK K) | exact auto_cl | skip)) | refine cw_assoc ?_ | refine cw_skips ?_ | refine cw_labels ?_ | ((first | refine cw_step (fun K hK => ?_) | refine cw_last (fun K hK => ?_) | refine cw_stepD (by decide +kernel) (by decide +kernel) (fun K hK => ?_) | refine cw_lastD (by decide +kernel) (by decide +kernel) (fun K hK => ?_) | refine rgB_some ?_ | refine call_a (hs) ?_ | refine gcall_a (fun hg => hs) ?_ | refine call_a (hm) ?_ | refine gcall_a (fun hg => hm) ?_ | refine call_a (hmx) ?_ | refine gcall_a (fun hg => hmx) ?_ | refine call_a (hop) ?_ | refine gcall_a (fun hg => hop) ?_); (try simp (maxSteps := 1000000) (disch := omega) only [go_sem, ↓reduceIte, Nat.reduceEqDiff, Nat.reduceAdd, Nat.reduceMul, Nat.reduceSub, Nat.reduceMod, Nat.reduceLeDiff, Nat.reduceLT, Nat.reduceBEq, reduceCtorEq, Int.reduceLT, Int.reduceLE, Int.reduceToNat, Int.reduceEq, Int.reduceAdd]); (repeat' (refine And.intro ?_ ?_)); (all_goals first | (refine hK _ ?_; clear hK K) | exact auto_cl | skip)) | ((first | apply cw_ite | apply cw_iteN); (case hf => rfl); (case hc => simp (maxSteps := 1000000) (disch := omega) only [go_sem, ↓reduceIte, Nat.reduceEqDiff, Nat.reduceAdd, Nat.reduceMul, Nat.reduceSub, Nat.reduceMod, Nat.reduceLeDiff, Nat.reduceLT, Nat.reduceBEq, reduceCtorEq, Int.reduceLT, Int.reduceLE, Int.reduceToNat, Int.reduceEq, Int.reduceAdd]; rfl); (all_goals first | (intro hb; (try simp only [decide_eq_true_eq, decide_eq_false_iff_not, beq_iff_eq, beq_eq_false_iff_ne, bne_iff_ne, bne_eq_false_iff_eq, ne_eq, Bool.not_eq_true, Bool.not_eq_false, Bool.not_true, Bool.not_false, Bool.not_eq_eq_eq_not, Int.not_lt, Int.not_le, gt_iff_lt, ge_iff_le, Bool.cond_eq_ite, Bool.if_false_right, Bool.if_true_left, Bool.and_eq_true, Bool.or_eq_true, Bool.and_eq_false_imp, Bool.or_eq_false_iff, Decidable.not_not, beq_true, beq_false, iteT, iteF, cond_true, cond_false] at hb)) | skip)) | exact atN_intro | ((first | apply cw_if | apply cw_cond); (case hc => simp (maxSteps := 1000000) (disch := omega) only [go_sem, ↓reduceIte, Nat.reduceEqDiff, Nat.reduceAdd, Nat.reduceMul, Nat.reduceSub, Nat.reduceMod, Nat.reduceLeDiff, Nat.reduceLT, Nat.reduceBEq, reduceCtorEq, Int.reduceLT, Int.reduceLE, Int.reduceToNat, Int.reduceEq, Int.reduceAdd]; rfl); (all_goals (intro hb; (try simp only [decide_eq_true_eq, decide_eq_false_iff_not, beq_iff_eq, beq_eq_false_iff_ne, bne_iff_ne, bne_eq_false_iff_eq, ne_eq, Bool.not_eq_true, Bool.not_eq_false, Bool.not_true, Bool.not_false, Bool.not_eq_eq_eq_not, Int.not_lt, Int.not_le, gt_iff_lt, ge_iff_le, Bool.cond_eq_ite, Bool.if_false_right, Bool.if_true_left, Bool.and_eq_true, Bool.or_eq_true, Bool.and_eq_false_imp, Bool.or_eq_false_iff, Decidable.not_not, beq_true, beq_false, iteT, iteF, cond_true, cond_false] at hb); try (exfalso; omega)))) | (refine cw_blocks (fun KB hB => ?_)) | (refine cw_block ?_) | ((first | refine cw_exits ?_ | refine cw_exit ?_ | refine cw_skip ?_); simp (maxSteps := 1000000) (disch := omega) only [go_sem, ↓reduceIte, Nat.reduceEqDiff, Nat.reduceAdd, Nat.reduceMul, Nat.reduceSub, Nat.reduceMod, Nat.reduceLeDiff, Nat.reduceLT, Nat.reduceBEq, reduceCtorEq, Int.reduceLT, Int.reduceLE, Int.reduceToNat, Int.reduceEq, Int.reduceAdd]) | (refine hB _ ?_; clear hB KB) | (refine exit_by (S := Sg) (by assumption) ?_) | ((first | refine cw_rets ?_ | refine cw_ret ?_); simp (maxSteps := 1000000) (disch := omega) only [go_sem, ↓reduceIte, Nat.reduceEqDiff, Nat.reduceAdd, Nat.reduceMul, Nat.reduceSub, Nat.reduceMod, Nat.reduceLeDiff, Nat.reduceLT, Nat.reduceBEq, reduceCtorEq, Int.reduceLT, Int.reduceLE, Int.reduceToNat, Int.reduceEq, Int.reduceAdd]; (try clear hB KB); (try clear hK K)))
  have hgO : growO c r = { drawO c r with mode := if ((drawO c r).mode == 7 || (drawO c r).mode == 8) = true then 11 else (drawO c r).mode } := by
    unfold growO
    by_cases h : (drawO c r).mode = 7 ∨ (drawO c r).mode = 8
    · rw [if_pos h, if_pos (by simpa using h)]
    · rw [if_neg h, if_neg (by simpa using h)]
  have hgl : ((gScript c).ops.map smoothO).length ≤ 18 := by rw [List.length_map]; exact gops_len c
  refine cw_stepT (mkSt [(5, .b (.c (.ptr 1 0))), (9, .b (.c (.ptr 2 0)))]
    [(0, .fix ((sceneE c).map CV.p)), (1, .fix ((scriptE (smoothM (gScript c))).map CV.p)), (2, .fix (((scriptE (smoothM (gScript c))).map CV.p).take 9 ++ [.own 3 ((smoothM (gScript c)).ops.length + 1)])), (3, .arr 34 12 ((smoothM (gScript c)).ops.length + 1) (fnOf opE ((smoothM (gScript c)).ops ++ [growO c r])))] 4) (.br 0 (.br 1 (.br 2 (.br 3 (.br 4 (.br 5 (.br 6 (.br 7 .leaf .nil) .nil) .nil) .nil) .nil) (.br 3 (.br 2 (.br 4 (.br 5 (.br 6 (.br 7 .leaf .nil) .nil) .nil) .nil) (.br 4 (.br 2 (.br 5 (.br 6 (.br 7 .leaf .nil) .nil) .nil) .nil) .nil)) .nil)) (.br 3 (.br 1 (.br 2 (.br 4 (.br 5 (.br 6 (.br 7 .leaf .nil) .nil) .nil) .nil) (.br 4 (.br 2 (.br 5 (.br 6 (.br 7 .leaf .nil) .nil) .nil) .nil) .nil)) (.br 4 (.br 1 (.br 2 (.br 5 (.br 6 (.br 7 .leaf .nil) .nil) .nil) .nil) .nil) .nil)) .nil)) (.br 3 (.br 0 (.br 1 (.br 2 (.br 4 (.br 5 (.br 6 (.br 7 .leaf .nil) .nil) .nil) .nil) (.br 4 (.br 2 (.br 5 (.br 6 (.br 7 .leaf .nil) .nil) .nil) .nil) .nil)) (.br 4 (.br 1 (.br 2 (.br 5 (.br 6 (.br 7 .leaf .nil) .nil) .nil) .nil) .nil) .nil)) (.br 4 (.br 0 (.br 1 (.br 2 (.br 5 (.br 6 (.br 7 .leaf .nil) .nil) .nil) .nil) .nil) .nil) .nil)) .nil)) (by decide +kernel) ?_ ?_
  · have hgl2 : (smoothM (gScript c)).ops.length ≤ 18 := hgl
    simp (maxSteps := 1000000) (disch := omega) only [go_sem, ↓reduceIte, Nat.reduceEqDiff, Nat.reduceAdd, Nat.reduceMul, Nat.reduceSub, Nat.reduceMod, Nat.reduceLeDiff, Nat.reduceLT, Nat.reduceBEq, reduceCtorEq, Int.reduceLT, Int.reduceLE, Int.reduceToNat, Int.reduceEq, Int.reduceAdd]
    repeat' (refine And.intro ?_ ?_)
    all_goals first | omega | exact Nat.le_of_ble_eq_true rfl | trivial | skip
    all_goals refine ⟨_, ?_, rfl⟩
    all_goals
      refine le_of [(1, some 2), (2, some 4), (3, some 7)] rfl (by decide) rfl ?_ ?_
      all_goals simp (maxSteps := 1000000) (disch := omega) only [go_sem, ↓reduceIte, Nat.reduceEqDiff, Nat.reduceAdd, Nat.reduceMul, Nat.reduceSub, Nat.reduceMod, Nat.reduceLeDiff, Nat.reduceLT, Nat.reduceBEq, reduceCtorEq, Int.reduceLT, Int.reduceLE, Int.reduceToNat, Int.reduceEq, Int.reduceAdd]
      repeat' (refine And.intro ?_ ?_)
      all_goals first | rfl | omega | exact .inl rfl | trivial | skip
    all_goals rw [hgO]
    all_goals
      refine .inr fun a ha j hj => arr_push (fun j hj => ?_) a ha j hj
      have hivl : j = 0 ∨ j = 1 ∨ j = 2 ∨ j = 3 ∨ j = 4 ∨ j = 5 ∨ j = 6 ∨ j = 7 ∨ j = 8 ∨ j = 9 ∨ j = 10 ∨ j = 11 := by omega
      rcases hivl with rfl | rfl | rfl | rfl | rfl | rfl | rfl | rfl | rfl | rfl | rfl | rfl <;> rfl
  have h1 := berror_spec _ (gSmooth_len c)
  have h2 := berror_spec _ (growS_ok c r).2
  have hg := grow_law c r
  have he1 := smooth_error c
  have he2 := (growS_ok c r).1
  clear hs hm hop hmx
  repeat' (first | refine cw_assoc ?_ | refine cw_skips ?_ | refine cw_labels ?_ | ((first | refine cw_step (fun K hK => ?_) | refine cw_last (fun K hK => ?_) | refine cw_stepD (by decide +kernel) (by decide +kernel) (fun K hK => ?_) | refine cw_lastD (by decide +kernel) (by decide +kernel) (fun K hK => ?_) | refine rgB_some ?_ | refine call_a (h1) ?_ | refine gcall_a (fun hg => h1) ?_); (try simp (maxSteps := 1000000) (disch := omega) only [go_sem, ↓reduceIte, Nat.reduceEqDiff, Nat.reduceAdd, Nat.reduceMul, Nat.reduceSub, Nat.reduceMod, Nat.reduceLeDiff, Nat.reduceLT, Nat.reduceBEq, reduceCtorEq, Int.reduceLT, Int.reduceLE, Int.reduceToNat, Int.reduceEq, Int.reduceAdd]); (repeat' (refine And.intro ?_ ?_)); (all_goals first | (refine hK _ ?_; clear hK K) | exact auto_cl | skip)) | ((first | apply cw_ite | apply cw_iteN); (case hf => rfl); (case hc => simp (maxSteps := 1000000) (disch := omega) only [go_sem, ↓reduceIte, Nat.reduceEqDiff, Nat.reduceAdd, Nat.reduceMul, Nat.reduceSub, Nat.reduceMod, Nat.reduceLeDiff, Nat.reduceLT, Nat.reduceBEq, reduceCtorEq, Int.reduceLT, Int.reduceLE, Int.reduceToNat, Int.reduceEq, Int.reduceAdd]; rfl); (all_goals first | (intro hb; (try simp only [decide_eq_true_eq, decide_eq_false_iff_not, beq_iff_eq, beq_eq_false_iff_ne, bne_iff_ne, bne_eq_false_iff_eq, ne_eq, Bool.not_eq_true, Bool.not_eq_false, Bool.not_true, Bool.not_false, Bool.not_eq_eq_eq_not, Int.not_lt, Int.not_le, gt_iff_lt, ge_iff_le, Bool.cond_eq_ite, Bool.if_false_right, Bool.if_true_left, Bool.and_eq_true, Bool.or_eq_true, Bool.and_eq_false_imp, Bool.or_eq_false_iff, Decidable.not_not, beq_true, beq_false, iteT, iteF, cond_true, cond_false] at hb)) | skip)) | exact atN_intro | ((first | apply cw_if | apply cw_cond); (case hc => simp (maxSteps := 1000000) (disch := omega) only [go_sem, ↓reduceIte, Nat.reduceEqDiff, Nat.reduceAdd, Nat.reduceMul, Nat.reduceSub, Nat.reduceMod, Nat.reduceLeDiff, Nat.reduceLT, Nat.reduceBEq, reduceCtorEq, Int.reduceLT, Int.reduceLE, Int.reduceToNat, Int.reduceEq, Int.reduceAdd]; rfl); (all_goals (intro hb; (try simp only [decide_eq_true_eq, decide_eq_false_iff_not, beq_iff_eq, beq_eq_false_iff_ne, bne_iff_ne, bne_eq_false_iff_eq, ne_eq, Bool.not_eq_true, Bool.not_eq_false, Bool.not_true, Bool.not_false, Bool.not_eq_eq_eq_not, Int.not_lt, Int.not_le, gt_iff_lt, ge_iff_le, Bool.cond_eq_ite, Bool.if_false_right, Bool.if_true_left, Bool.and_eq_true, Bool.or_eq_true, Bool.and_eq_false_imp, Bool.or_eq_false_iff, Decidable.not_not, beq_true, beq_false, iteT, iteF, cond_true, cond_false] at hb); try (exfalso; omega)))) | (refine cw_blocks (fun KB hB => ?_)) | (refine cw_block ?_) | ((first | refine cw_exits ?_ | refine cw_exit ?_ | refine cw_skip ?_); simp (maxSteps := 1000000) (disch := omega) only [go_sem, ↓reduceIte, Nat.reduceEqDiff, Nat.reduceAdd, Nat.reduceMul, Nat.reduceSub, Nat.reduceMod, Nat.reduceLeDiff, Nat.reduceLT, Nat.reduceBEq, reduceCtorEq, Int.reduceLT, Int.reduceLE, Int.reduceToNat, Int.reduceEq, Int.reduceAdd]) | (refine hB _ ?_; clear hB KB) | (refine exit_by (S := Sg) (by assumption) ?_) | ((first | refine cw_rets ?_ | refine cw_ret ?_); simp (maxSteps := 1000000) (disch := omega) only [go_sem, ↓reduceIte, Nat.reduceEqDiff, Nat.reduceAdd, Nat.reduceMul, Nat.reduceSub, Nat.reduceMod, Nat.reduceLeDiff, Nat.reduceLT, Nat.reduceBEq, reduceCtorEq, Int.reduceLT, Int.reduceLE, Int.reduceToNat, Int.reduceEq, Int.reduceAdd]; (try clear hB KB); (try clear hK K)))
  refine call_lends ?_ ?_ (by simp (maxSteps := 1000000) (disch := omega) only [go_sem, ↓reduceIte, Nat.reduceEqDiff, Nat.reduceAdd, Nat.reduceMul, Nat.reduceSub, Nat.reduceMod, Nat.reduceLeDiff, Nat.reduceLT, Nat.reduceBEq, reduceCtorEq, Int.reduceLT, Int.reduceLE, Int.reduceToNat, Int.reduceEq, Int.reduceAdd]) ?_ (h2)
  try simp (maxSteps := 1000000) (disch := omega) only [go_sem, ↓reduceIte, Nat.reduceEqDiff, Nat.reduceAdd, Nat.reduceMul, Nat.reduceSub, Nat.reduceMod, Nat.reduceLeDiff, Nat.reduceLT, Nat.reduceBEq, reduceCtorEq, Int.reduceLT, Int.reduceLE, Int.reduceToNat, Int.reduceEq, Int.reduceAdd]
  try (refine hK _ ?_; clear hK K)
  · repeat' (first | refine cw_assoc ?_ | refine cw_skips ?_ | refine cw_labels ?_ | ((first | refine cw_step (fun K hK => ?_) | refine cw_last (fun K hK => ?_) | refine cw_stepD (by decide +kernel) (by decide +kernel) (fun K hK => ?_) | refine cw_lastD (by decide +kernel) (by decide +kernel) (fun K hK => ?_) | refine rgB_some ?_ | refine call_a (ha) ?_ | refine gcall_a (fun hg => ha) ?_); (try simp (maxSteps := 1000000) (disch := omega) only [go_sem, ↓reduceIte, Nat.reduceEqDiff, Nat.reduceAdd, Nat.reduceMul, Nat.reduceSub, Nat.reduceMod, Nat.reduceLeDiff, Nat.reduceLT, Nat.reduceBEq, reduceCtorEq, Int.reduceLT, Int.reduceLE, Int.reduceToNat, Int.reduceEq, Int.reduceAdd]); (repeat' (refine And.intro ?_ ?_)); (all_goals first | (refine hK _ ?_; clear hK K) | exact auto_cl | skip)) | ((first | apply cw_ite | apply cw_iteN); (case hf => rfl); (case hc => simp (maxSteps := 1000000) (disch := omega) only [go_sem, ↓reduceIte, Nat.reduceEqDiff, Nat.reduceAdd, Nat.reduceMul, Nat.reduceSub, Nat.reduceMod, Nat.reduceLeDiff, Nat.reduceLT, Nat.reduceBEq, reduceCtorEq, Int.reduceLT, Int.reduceLE, Int.reduceToNat, Int.reduceEq, Int.reduceAdd]; rfl); (all_goals first | (intro hb; (try simp only [decide_eq_true_eq, decide_eq_false_iff_not, beq_iff_eq, beq_eq_false_iff_ne, bne_iff_ne, bne_eq_false_iff_eq, ne_eq, Bool.not_eq_true, Bool.not_eq_false, Bool.not_true, Bool.not_false, Bool.not_eq_eq_eq_not, Int.not_lt, Int.not_le, gt_iff_lt, ge_iff_le, Bool.cond_eq_ite, Bool.if_false_right, Bool.if_true_left, Bool.and_eq_true, Bool.or_eq_true, Bool.and_eq_false_imp, Bool.or_eq_false_iff, Decidable.not_not, beq_true, beq_false, iteT, iteF, cond_true, cond_false] at hb)) | skip)) | exact atN_intro | ((first | apply cw_if | apply cw_cond); (case hc => simp (maxSteps := 1000000) (disch := omega) only [go_sem, ↓reduceIte, Nat.reduceEqDiff, Nat.reduceAdd, Nat.reduceMul, Nat.reduceSub, Nat.reduceMod, Nat.reduceLeDiff, Nat.reduceLT, Nat.reduceBEq, reduceCtorEq, Int.reduceLT, Int.reduceLE, Int.reduceToNat, Int.reduceEq, Int.reduceAdd]; rfl); (all_goals (intro hb; (try simp only [decide_eq_true_eq, decide_eq_false_iff_not, beq_iff_eq, beq_eq_false_iff_ne, bne_iff_ne, bne_eq_false_iff_eq, ne_eq, Bool.not_eq_true, Bool.not_eq_false, Bool.not_true, Bool.not_false, Bool.not_eq_eq_eq_not, Int.not_lt, Int.not_le, gt_iff_lt, ge_iff_le, Bool.cond_eq_ite, Bool.if_false_right, Bool.if_true_left, Bool.and_eq_true, Bool.or_eq_true, Bool.and_eq_false_imp, Bool.or_eq_false_iff, Decidable.not_not, beq_true, beq_false, iteT, iteF, cond_true, cond_false] at hb); try (exfalso; omega)))) | (refine cw_blocks (fun KB hB => ?_)) | (refine cw_block ?_) | ((first | refine cw_exits ?_ | refine cw_exit ?_ | refine cw_skip ?_); simp (maxSteps := 1000000) (disch := omega) only [go_sem, ↓reduceIte, Nat.reduceEqDiff, Nat.reduceAdd, Nat.reduceMul, Nat.reduceSub, Nat.reduceMod, Nat.reduceLeDiff, Nat.reduceLT, Nat.reduceBEq, reduceCtorEq, Int.reduceLT, Int.reduceLE, Int.reduceToNat, Int.reduceEq, Int.reduceAdd]) | (refine hB _ ?_; clear hB KB) | (refine exit_by (S := Sg) (by assumption) ?_) | ((first | refine cw_rets ?_ | refine cw_ret ?_); simp (maxSteps := 1000000) (disch := omega) only [go_sem, ↓reduceIte, Nat.reduceEqDiff, Nat.reduceAdd, Nat.reduceMul, Nat.reduceSub, Nat.reduceMod, Nat.reduceLeDiff, Nat.reduceLT, Nat.reduceBEq, reduceCtorEq, Int.reduceLT, Int.reduceLE, Int.reduceToNat, Int.reduceEq, Int.reduceAdd]; (try clear hB KB); (try clear hK K)))
    have s1 : (errorM (smoothM (gScript c))).2 = 0 := by rw [he1]
    have s2 : (errorM (growS c r)).2 = 0 := by rw [he2]
    have hb : (decide ((errorM (growS c r)).1 > (errorM (smoothM (gScript c))).1) || (errorM (smoothM (gScript c))).1 == 1099511627776 && (errorM (growS c r)).1 == (errorM (smoothM (gScript c))).1) = true := by
      simp only [Bool.or_eq_true, decide_eq_true_eq, Bool.and_eq_true, beq_iff_eq]
      exact hg
    rw [s1, s2, hb]
    rfl
  · refine ⟨bvle_agg ?_, trivial⟩
    simp (maxSteps := 1000000) (disch := omega) only [go_sem, ↓reduceIte, Nat.reduceEqDiff, Nat.reduceAdd, Nat.reduceMul, Nat.reduceSub, Nat.reduceMod, Nat.reduceLeDiff, Nat.reduceLT, Nat.reduceBEq, reduceCtorEq, Int.reduceLT, Int.reduceLE, Int.reduceToNat, Int.reduceEq, Int.reduceAdd, List.map_cons, List.map_nil, cleL_cons, cleL_nil]
    refine ⟨.inl rfl, .inl rfl, .inl rfl, .inl rfl, .inl rfl, .inl rfl, .inl rfl, .inl rfl, .inl rfl, .inl ?_⟩
    have e : (growS c r).ops.length = (smoothM (gScript c)).ops.length + 1 := by
      show ((smoothM (gScript c)).ops ++ [growO c r]).length = _
      simp
    rw [e]
    rfl
  exact flat2 _ _
end Go.Proofs.YtfjaojlbnjdmgaaDoor

set_option linter.unusedSimpArgs false
set_option linter.unusedVariables false
set_option maxRecDepth 8000
set_option maxHeartbeats 8000000
namespace Go.Proofs.YtfjaojlbnjdmgaaDoor
open Go Go.SL
open Go.RowKit (wrap64)

/-- P30.2, the third. -/
theorem reads_spec (c d : Scene) (a v : Int) (hc : SceneOk c) (hd : SceneOk d) (hat : i64 a) (hv : u16 v) : Pure Sg 6 [ag (sceneE c), ag (sceneE d), I a, U v] (fun r => r = .b (B true)) := by
  have ha := awake_spec
  have hs := gscript_spec c hc
  have hs2 := gscript_spec d hd
  have hm := smooth_spec (gScript c) (Nat.le_trans (gops_len c) (by decide))
  have hu := gMax_u c.bits
  have hi := gImages_le c
  have hi2 := gImages_le d
  obtain ⟨a1, a2⟩ := hat
  obtain ⟨v1, v2⟩ := hv
  have hmx : Pure Sg 16 [I (smoothM (gScript c)).bits] (fun x => x = .tup [U (gMax c.bits), B (decide ((gScript c).bits = 8 ∨ (gScript c).bits = 16))]) := by
    have := r01max_spec (gScript c).bits
    rw [show (if (gScript c).bits = 8 then (255 : Int) else if (gScript c).bits = 16 then 65535 else 0) = gMax c.bits from maxOf_g c] at this
    exact this
  have hgl : (smoothM (gScript c)).ops.length ≤ 18 := by
    show ((gScript c).ops.map smoothO).length ≤ 18
    rw [List.length_map]; exact gops_len c
  have htm : ∀ i, i < (smoothM (gScript c)).ops.length → OpTame (gMax c.bits) ((smoothM (gScript c)).ops.getD i default) := fun i hi => by
    refine (smooth_good (gScript_good c)).tame _ ?_
    rw [List.getD_eq_getElem?_getD, List.getElem?_eq_getElem hi]
    exact List.getElem_mem hi
  refine pure_of Tryd.func6 rfl (rs := [.tmp 8]) rfl rfl mixed (by decide +kernel) (Nat.le_of_ble_eq_true rfl) (argsLt_mem (by simp (maxSteps := 1000000) (disch := omega) only [go_sem, ↓reduceIte, Nat.reduceEqDiff, Nat.reduceAdd, Nat.reduceMul, Nat.reduceSub, Nat.reduceMod, Nat.reduceLeDiff, Nat.reduceLT, Nat.reduceBEq, reduceCtorEq, Int.reduceLT, Int.reduceLE, Int.reduceToNat, Int.reduceEq, Int.reduceAdd])) ?_
  repeat' (first | refine cw_assoc ?_ | refine cw_skips ?_ | refine cw_labels ?_ | ((first | refine cw_step (fun K hK => ?_) | refine cw_last (fun K hK => ?_) | refine cw_stepD (by decide +kernel) (by decide +kernel) (fun K hK => ?_) | refine cw_lastD (by decide +kernel) (by decide +kernel) (fun K hK => ?_) | refine rgB_some ?_ | refine call_a (hs) ?_ | refine gcall_a (fun hg => hs) ?_ | refine call_a (hm) ?_ | refine gcall_a (fun hg => hm) ?_ | refine call_a (hmx) ?_ | refine gcall_a (fun hg => hmx) ?_); (try simp (maxSteps := 1000000) (disch := omega) only [go_sem, ↓reduceIte, Nat.reduceEqDiff, Nat.reduceAdd, Nat.reduceMul, Nat.reduceSub, Nat.reduceMod, Nat.reduceLeDiff, Nat.reduceLT, Nat.reduceBEq, reduceCtorEq, Int.reduceLT, Int.reduceLE, Int.reduceToNat, Int.reduceEq, Int.reduceAdd]); (repeat' (refine And.intro ?_ ?_)); (all_goals first | (refine hK _ ?_; clear hK K) | exact auto_cl | skip)) | ((first | apply cw_ite | apply cw_iteN); (case hf => rfl); (case hc => simp (maxSteps := 1000000) (disch := omega) only [go_sem, ↓reduceIte, Nat.reduceEqDiff, Nat.reduceAdd, Nat.reduceMul, Nat.reduceSub, Nat.reduceMod, Nat.reduceLeDiff, Nat.reduceLT, Nat.reduceBEq, reduceCtorEq, Int.reduceLT, Int.reduceLE, Int.reduceToNat, Int.reduceEq, Int.reduceAdd]; rfl); (all_goals first | (intro hb; (try simp only [decide_eq_true_eq, decide_eq_false_iff_not, beq_iff_eq, beq_eq_false_iff_ne, bne_iff_ne, bne_eq_false_iff_eq, ne_eq, Bool.not_eq_true, Bool.not_eq_false, Bool.not_true, Bool.not_false, Bool.not_eq_eq_eq_not, Int.not_lt, Int.not_le, gt_iff_lt, ge_iff_le, Bool.cond_eq_ite, Bool.if_false_right, Bool.if_true_left, Bool.and_eq_true, Bool.or_eq_true, Bool.and_eq_false_imp, Bool.or_eq_false_iff, Decidable.not_not, beq_true, beq_false, iteT, iteF, cond_true, cond_false] at hb)) | skip)) | exact atN_intro | ((first | apply cw_if | apply cw_cond); (case hc => simp (maxSteps := 1000000) (disch := omega) only [go_sem, ↓reduceIte, Nat.reduceEqDiff, Nat.reduceAdd, Nat.reduceMul, Nat.reduceSub, Nat.reduceMod, Nat.reduceLeDiff, Nat.reduceLT, Nat.reduceBEq, reduceCtorEq, Int.reduceLT, Int.reduceLE, Int.reduceToNat, Int.reduceEq, Int.reduceAdd]; rfl); (all_goals (intro hb; (try simp only [decide_eq_true_eq, decide_eq_false_iff_not, beq_iff_eq, beq_eq_false_iff_ne, bne_iff_ne, bne_eq_false_iff_eq, ne_eq, Bool.not_eq_true, Bool.not_eq_false, Bool.not_true, Bool.not_false, Bool.not_eq_eq_eq_not, Int.not_lt, Int.not_le, gt_iff_lt, ge_iff_le, Bool.cond_eq_ite, Bool.if_false_right, Bool.if_true_left, Bool.and_eq_true, Bool.or_eq_true, Bool.and_eq_false_imp, Bool.or_eq_false_iff, Decidable.not_not, beq_true, beq_false, iteT, iteF, cond_true, cond_false] at hb); try (exfalso; omega)))) | (refine cw_blocks (fun KB hB => ?_)) | (refine cw_block ?_) | ((first | refine cw_exits ?_ | refine cw_exit ?_ | refine cw_skip ?_); simp (maxSteps := 1000000) (disch := omega) only [go_sem, ↓reduceIte, Nat.reduceEqDiff, Nat.reduceAdd, Nat.reduceMul, Nat.reduceSub, Nat.reduceMod, Nat.reduceLeDiff, Nat.reduceLT, Nat.reduceBEq, reduceCtorEq, Int.reduceLT, Int.reduceLE, Int.reduceToNat, Int.reduceEq, Int.reduceAdd]) | (refine hB _ ?_; clear hB KB) | (refine exit_by (S := Sg) (by assumption) ?_) | ((first | refine cw_rets ?_ | refine cw_ret ?_); simp (maxSteps := 1000000) (disch := omega) only [go_sem, ↓reduceIte, Nat.reduceEqDiff, Nat.reduceAdd, Nat.reduceMul, Nat.reduceSub, Nat.reduceMod, Nat.reduceLeDiff, Nat.reduceLT, Nat.reduceBEq, reduceCtorEq, Int.reduceLT, Int.reduceLE, Int.reduceToNat, Int.reduceEq, Int.reduceAdd]; (try clear hB KB); (try clear hK K)))
  refine cw_loop (X := Nat) (fun i => mkSt [(2, .b (I a)), (3, .b (U v)), (4, .b (.c (.ptr 0 0))), (5, .b (.c (.ptr 1 0))), (9, .b (.c (.ptr 2 0))), (10, .b (U (gMax c.bits))), (12, .b (.c (.ptr 3 0))), (13, .b (I i))]
    [(0, .fix ((sceneE c).map CV.p)), (1, .fix ((sceneE d).map CV.p)), (2, .fix ((scriptE (smoothM (gScript c))).map CV.p)), (3, .fix (((scriptE (smoothM (gScript c))).map CV.p).take 9 ++ [.own 4 (smoothM (gScript c)).ops.length])),
     (4, .arr 34 12 (smoothM (gScript c)).ops.length (fnOf opE (((smoothM (gScript c)).ops.take i).map (chgO (gMax c.bits) a v) ++ (smoothM (gScript c)).ops.drop i)))] 5) (fun i => i ≤ (smoothM (gScript c)).ops.length) (fun i => (smoothM (gScript c)).ops.length - i) 0 ?_ ?_ ?_
  · omega
  · refine le_of [(1, some 1), (2, some 2), (3, some 3), (4, some 4)] rfl (by decide) rfl ?_ ?_
    all_goals simp (maxSteps := 1000000) (disch := omega) only [go_sem, ↓reduceIte, Nat.reduceEqDiff, Nat.reduceAdd, Nat.reduceMul, Nat.reduceSub, Nat.reduceMod, Nat.reduceLeDiff, Nat.reduceLT, Nat.reduceBEq, reduceCtorEq, Int.reduceLT, Int.reduceLE, Int.reduceToNat, Int.reduceEq, Int.reduceAdd]
    repeat' (refine And.intro ?_ ?_)
    all_goals first | rfl | omega | exact .inl rfl | trivial | skip
  · intro i hi3
    by_cases hlt : i < (smoothM (gScript c)).ops.length
    · have hT := htm i hlt
      obtain ⟨⟨x1, x2⟩, ⟨y1, y2⟩, ⟨o1, o2⟩, _, _⟩ := hT
      have hg : ∀ (i k : Nat), k < (smoothM (gScript c)).ops.length → (List.map (chgO (gMax c.bits) a v) (List.take i (smoothM (gScript c)).ops) ++ List.drop i (smoothM (gScript c)).ops).getD k default = if k < i then chgO (gMax c.bits) a v ((smoothM (gScript c)).ops.getD k default) else (smoothM (gScript c)).ops.getD k default := fun i a ha => by
        simp only [List.getD_eq_getElem?_getD]
        by_cases h : a < i
        · rw [List.getElem?_append_left (by simp; omega), if_pos h]
          simp [List.getElem?_take, h, ha]
        · rw [List.getElem?_append_right (by simp; omega), if_neg h]
          simp only [List.length_map, List.length_take, List.getElem?_drop]
          congr 2; omega
      repeat' (first | refine cw_assoc ?_ | refine cw_skips ?_ | refine cw_labels ?_ | ((first | refine cw_step (fun K hK => ?_) | refine cw_last (fun K hK => ?_) | refine cw_stepD (by decide +kernel) (by decide +kernel) (fun K hK => ?_) | refine cw_lastD (by decide +kernel) (by decide +kernel) (fun K hK => ?_) | refine rgB_some ?_ | refine call_a (modp_spec _ _ (by omega) (by omega)) ?_ | refine gcall_a (fun hg => modp_spec _ _ (by omega) (by omega)) ?_); (try simp (maxSteps := 1000000) (disch := omega) only [go_sem, ↓reduceIte, Nat.reduceEqDiff, Nat.reduceAdd, Nat.reduceMul, Nat.reduceSub, Nat.reduceMod, Nat.reduceLeDiff, Nat.reduceLT, Nat.reduceBEq, reduceCtorEq, Int.reduceLT, Int.reduceLE, Int.reduceToNat, Int.reduceEq, Int.reduceAdd]); (repeat' (refine And.intro ?_ ?_)); (all_goals first | (refine hK _ ?_; clear hK K) | exact auto_cl | skip)) | ((first | apply cw_ite | apply cw_iteN); (case hf => rfl); (case hc => simp (maxSteps := 1000000) (disch := omega) only [go_sem, ↓reduceIte, Nat.reduceEqDiff, Nat.reduceAdd, Nat.reduceMul, Nat.reduceSub, Nat.reduceMod, Nat.reduceLeDiff, Nat.reduceLT, Nat.reduceBEq, reduceCtorEq, Int.reduceLT, Int.reduceLE, Int.reduceToNat, Int.reduceEq, Int.reduceAdd]; rfl); (all_goals first | (intro hb; (try simp only [decide_eq_true_eq, decide_eq_false_iff_not, beq_iff_eq, beq_eq_false_iff_ne, bne_iff_ne, bne_eq_false_iff_eq, ne_eq, Bool.not_eq_true, Bool.not_eq_false, Bool.not_true, Bool.not_false, Bool.not_eq_eq_eq_not, Int.not_lt, Int.not_le, gt_iff_lt, ge_iff_le, Bool.cond_eq_ite, Bool.if_false_right, Bool.if_true_left, Bool.and_eq_true, Bool.or_eq_true, Bool.and_eq_false_imp, Bool.or_eq_false_iff, Decidable.not_not, beq_true, beq_false, iteT, iteF, cond_true, cond_false] at hb)) | skip)) | exact atN_intro | ((first | apply cw_if | apply cw_cond); (case hc => simp (maxSteps := 1000000) (disch := omega) only [go_sem, ↓reduceIte, Nat.reduceEqDiff, Nat.reduceAdd, Nat.reduceMul, Nat.reduceSub, Nat.reduceMod, Nat.reduceLeDiff, Nat.reduceLT, Nat.reduceBEq, reduceCtorEq, Int.reduceLT, Int.reduceLE, Int.reduceToNat, Int.reduceEq, Int.reduceAdd]; rfl); (all_goals (intro hb; (try simp only [decide_eq_true_eq, decide_eq_false_iff_not, beq_iff_eq, beq_eq_false_iff_ne, bne_iff_ne, bne_eq_false_iff_eq, ne_eq, Bool.not_eq_true, Bool.not_eq_false, Bool.not_true, Bool.not_false, Bool.not_eq_eq_eq_not, Int.not_lt, Int.not_le, gt_iff_lt, ge_iff_le, Bool.cond_eq_ite, Bool.if_false_right, Bool.if_true_left, Bool.and_eq_true, Bool.or_eq_true, Bool.and_eq_false_imp, Bool.or_eq_false_iff, Decidable.not_not, beq_true, beq_false, iteT, iteF, cond_true, cond_false] at hb); try (exfalso; omega)))) | (refine cw_blocks (fun KB hB => ?_)) | (refine cw_block ?_) | ((first | refine cw_exits ?_ | refine cw_exit ?_ | refine cw_skip ?_); simp (maxSteps := 1000000) (disch := omega) only [go_sem, ↓reduceIte, Nat.reduceEqDiff, Nat.reduceAdd, Nat.reduceMul, Nat.reduceSub, Nat.reduceMod, Nat.reduceLeDiff, Nat.reduceLT, Nat.reduceBEq, reduceCtorEq, Int.reduceLT, Int.reduceLE, Int.reduceToNat, Int.reduceEq, Int.reduceAdd]) | (refine hB _ ?_; clear hB KB) | (refine exit_by (S := Sg) (by assumption) ?_) | ((first | refine cw_rets ?_ | refine cw_ret ?_); simp (maxSteps := 1000000) (disch := omega) only [go_sem, ↓reduceIte, Nat.reduceEqDiff, Nat.reduceAdd, Nat.reduceMul, Nat.reduceSub, Nat.reduceMod, Nat.reduceLeDiff, Nat.reduceLT, Nat.reduceBEq, reduceCtorEq, Int.reduceLT, Int.reduceLE, Int.reduceToNat, Int.reduceEq, Int.reduceAdd]; (try clear hB KB); (try clear hK K)))
      rw [thenQ_normal]
      refine wk_loop (i + 1) ?_ (by omega) (by omega)
      simp only [Int.toNat_natCast, hg i i hlt, Nat.lt_irrefl, if_false]
      refine le_of [(1, some 1), (2, some 2), (3, some 3), (4, some 4)] rfl (by decide) rfl ?_ ?_
      all_goals simp (maxSteps := 1000000) (disch := omega) only [go_sem, ↓reduceIte, Nat.reduceEqDiff, Nat.reduceAdd, Nat.reduceMul, Nat.reduceSub, Nat.reduceMod, Nat.reduceLeDiff, Nat.reduceLT, Nat.reduceBEq, reduceCtorEq, Int.reduceLT, Int.reduceLE, Int.reduceToNat, Int.reduceEq, Int.reduceAdd]
      repeat' (refine And.intro ?_ ?_)
      all_goals first | rfl | omega | exact .inl rfl | trivial | skip
      refine .inr fun k hk j hj => ?_
      have m1 := Int.emod_nonneg v (show gMax c.bits ≠ 0 by omega)
      have m2 := Int.emod_lt_of_pos v (show 0 < gMax c.bits by omega)
      have hw : IntKind.u16.wrap (v % gMax c.bits) = v % gMax c.bits := by simp (maxSteps := 1000000) (disch := omega) only [go_sem, ↓reduceIte, Nat.reduceEqDiff, Nat.reduceAdd, Nat.reduceMul, Nat.reduceSub, Nat.reduceMod, Nat.reduceLeDiff, Nat.reduceLT, Nat.reduceBEq, reduceCtorEq, Int.reduceLT, Int.reduceLE, Int.reduceToNat, Int.reduceEq, Int.reduceAdd]
      simp only [hw, hg (i + 1) k hk, hg i k hk]
      by_cases hki : k = i
      · subst hki
        simp only [if_true, if_pos (show k < k + 1 by omega)]
        have hivl : j = 0 ∨ j = 1 ∨ j = 2 ∨ j = 3 ∨ j = 4 ∨ j = 5 ∨ j = 6 ∨ j = 7 ∨ j = 8 ∨ j = 9 ∨ j = 10 ∨ j = 11 := by omega
        rcases hivl with rfl | rfl | rfl | rfl | rfl | rfl | rfl | rfl | rfl | rfl | rfl | rfl <;> exact PV.le_refl _
      · have hlt2 : (k < i + 1) ↔ (k < i) := by omega
        simp only [if_neg hki, hlt2]
        exact PV.le_refl _
    · have hie : i = (smoothM (gScript c)).ops.length := by omega
      have hil : (smoothM (gScript c)).images.length ≤ 4 := hi.2
      repeat' (first | refine cw_assoc ?_ | refine cw_skips ?_ | refine cw_labels ?_ | ((first | refine cw_step (fun K hK => ?_) | refine cw_last (fun K hK => ?_) | refine cw_stepD (by decide +kernel) (by decide +kernel) (fun K hK => ?_) | refine cw_lastD (by decide +kernel) (by decide +kernel) (fun K hK => ?_) | refine rgB_some ?_ | refine call_a (hs2) ?_ | refine gcall_a (fun hg => hs2) ?_); (try simp (maxSteps := 1000000) (disch := omega) only [go_sem, ↓reduceIte, Nat.reduceEqDiff, Nat.reduceAdd, Nat.reduceMul, Nat.reduceSub, Nat.reduceMod, Nat.reduceLeDiff, Nat.reduceLT, Nat.reduceBEq, reduceCtorEq, Int.reduceLT, Int.reduceLE, Int.reduceToNat, Int.reduceEq, Int.reduceAdd]); (repeat' (refine And.intro ?_ ?_)); (all_goals first | (refine hK _ ?_; clear hK K) | exact auto_cl | skip)) | ((first | apply cw_ite | apply cw_iteN); (case hf => rfl); (case hc => simp (maxSteps := 1000000) (disch := omega) only [go_sem, ↓reduceIte, Nat.reduceEqDiff, Nat.reduceAdd, Nat.reduceMul, Nat.reduceSub, Nat.reduceMod, Nat.reduceLeDiff, Nat.reduceLT, Nat.reduceBEq, reduceCtorEq, Int.reduceLT, Int.reduceLE, Int.reduceToNat, Int.reduceEq, Int.reduceAdd]; rfl); (all_goals first | (intro hb; (try simp only [decide_eq_true_eq, decide_eq_false_iff_not, beq_iff_eq, beq_eq_false_iff_ne, bne_iff_ne, bne_eq_false_iff_eq, ne_eq, Bool.not_eq_true, Bool.not_eq_false, Bool.not_true, Bool.not_false, Bool.not_eq_eq_eq_not, Int.not_lt, Int.not_le, gt_iff_lt, ge_iff_le, Bool.cond_eq_ite, Bool.if_false_right, Bool.if_true_left, Bool.and_eq_true, Bool.or_eq_true, Bool.and_eq_false_imp, Bool.or_eq_false_iff, Decidable.not_not, beq_true, beq_false, iteT, iteF, cond_true, cond_false] at hb)) | skip)) | exact atN_intro | ((first | apply cw_if | apply cw_cond); (case hc => simp (maxSteps := 1000000) (disch := omega) only [go_sem, ↓reduceIte, Nat.reduceEqDiff, Nat.reduceAdd, Nat.reduceMul, Nat.reduceSub, Nat.reduceMod, Nat.reduceLeDiff, Nat.reduceLT, Nat.reduceBEq, reduceCtorEq, Int.reduceLT, Int.reduceLE, Int.reduceToNat, Int.reduceEq, Int.reduceAdd]; rfl); (all_goals (intro hb; (try simp only [decide_eq_true_eq, decide_eq_false_iff_not, beq_iff_eq, beq_eq_false_iff_ne, bne_iff_ne, bne_eq_false_iff_eq, ne_eq, Bool.not_eq_true, Bool.not_eq_false, Bool.not_true, Bool.not_false, Bool.not_eq_eq_eq_not, Int.not_lt, Int.not_le, gt_iff_lt, ge_iff_le, Bool.cond_eq_ite, Bool.if_false_right, Bool.if_true_left, Bool.and_eq_true, Bool.or_eq_true, Bool.and_eq_false_imp, Bool.or_eq_false_iff, Decidable.not_not, beq_true, beq_false, iteT, iteF, cond_true, cond_false] at hb); try (exfalso; omega)))) | (refine cw_blocks (fun KB hB => ?_)) | (refine cw_block ?_) | ((first | refine cw_exits ?_ | refine cw_exit ?_ | refine cw_skip ?_); simp (maxSteps := 1000000) (disch := omega) only [go_sem, ↓reduceIte, Nat.reduceEqDiff, Nat.reduceAdd, Nat.reduceMul, Nat.reduceSub, Nat.reduceMod, Nat.reduceLeDiff, Nat.reduceLT, Nat.reduceBEq, reduceCtorEq, Int.reduceLT, Int.reduceLE, Int.reduceToNat, Int.reduceEq, Int.reduceAdd]) | (refine hB _ ?_; clear hB KB) | (refine exit_by (S := Sg) (by assumption) ?_) | ((first | refine cw_rets ?_ | refine cw_ret ?_); simp (maxSteps := 1000000) (disch := omega) only [go_sem, ↓reduceIte, Nat.reduceEqDiff, Nat.reduceAdd, Nat.reduceMul, Nat.reduceSub, Nat.reduceMod, Nat.reduceLeDiff, Nat.reduceLT, Nat.reduceBEq, reduceCtorEq, Int.reduceLT, Int.reduceLE, Int.reduceToNat, Int.reduceEq, Int.reduceAdd]; (try clear hB KB); (try clear hK K)))
      refine cw_loop (X := Nat) (fun k => mkSt [(9, .b (.c (.ptr 2 0))), (12, .b (.c (.ptr 3 0))), (15, .b (.c (.ptr 5 0))), (16, .b (I k))]
        [(0, .fix ((sceneE c).map CV.p)), (1, .fix ((sceneE d).map CV.p)), (2, .fix ((scriptE (smoothM (gScript c))).map CV.p)), (3, .fix (((scriptE (smoothM (gScript c))).map CV.p).take 8 ++ [.own 6 (smoothM (gScript c)).images.length, .own 4 (smoothM (gScript c)).ops.length])),
         (4, .arr 34 12 (smoothM (gScript c)).ops.length (fnOf opE ((smoothM (gScript c)).ops.map (chgO (gMax c.bits) a v)))), (5, .fix ((scriptE (gScript d)).map CV.p)),
         (6, .arr 58 28 (smoothM (gScript c)).images.length (fnOf imageE ((gImages d).take k ++ (gImages c).drop k)))] 7) (fun k => k ≤ (gImages c).length ∧ k ≤ (gImages d).length) (fun k => (gImages c).length - k) 0 ?_ ?_ ?_
      · exact ⟨Nat.zero_le _, Nat.zero_le _⟩
      · refine le_of [(1, some 1), (2, some 2), (3, some 3), (4, some 4), (5, some 5), (6, some 6)] rfl (by decide) rfl ?_ ?_
        all_goals simp (maxSteps := 1000000) (disch := omega) only [go_sem, ↓reduceIte, Nat.reduceEqDiff, Nat.reduceAdd, Nat.reduceMul, Nat.reduceSub, Nat.reduceMod, Nat.reduceLeDiff, Nat.reduceLT, Nat.reduceBEq, reduceCtorEq, Int.reduceLT, Int.reduceLE, Int.reduceToNat, Int.reduceEq, Int.reduceAdd]
        repeat' (refine And.intro ?_ ?_)
        all_goals first | rfl | omega | exact .inl rfl | trivial | skip
        · refine .inl ?_
          rw [hie, List.take_of_length_le (Nat.le_refl _), List.drop_of_length_le (Nat.le_refl _), List.append_nil]
      · rintro k ⟨hk1, hk2⟩
        have l1 : (smoothM (gScript c)).images.length = (gImages c).length := rfl
        have l2 : (gScript d).images.length = (gImages d).length := rfl
        have hmx2 : ∀ (k x : Nat), k ≤ (gImages c).length → k ≤ (gImages d).length → x < (gImages c).length → ((gImages d).take k ++ (gImages c).drop k).getD x default = if x < k then (gImages d).getD x default else (gImages c).getD x default := fun k x h1 h2 h3 => by
          simp only [List.getD_eq_getElem?_getD]
          by_cases h : x < k
          · rw [List.getElem?_append_left (by rw [List.length_take]; omega), if_pos h, List.getElem?_take, if_pos h]
          · rw [List.getElem?_append_right (by rw [List.length_take]; omega), if_neg h, List.getElem?_drop, List.length_take]
            congr 2; omega
        repeat' (first | ((first | ((with_reducible refine cw_stepDK (id := 19) [(111, 2), (103, 1), (106, 1), (109, 3)] (by decide +kernel) (by decide +kernel) ?_ (fun K hK => ?_)); (focus (intro iw hiw; (try simp (maxSteps := 1000000) (disch := omega) only [go_sem, ↓reduceIte, Nat.reduceEqDiff, Nat.reduceAdd, Nat.reduceMul, Nat.reduceSub, Nat.reduceMod, Nat.reduceLeDiff, Nat.reduceLT, Nat.reduceBEq, reduceCtorEq, Int.reduceLT, Int.reduceLE, Int.reduceToNat, Int.reduceEq, Int.reduceAdd] at hiw ⊢); (repeat (first | rfl | rw [if_neg (by omega)])); done))) | ((with_reducible refine cw_lastDK (id := 19) [(111, 2), (103, 1), (106, 1), (109, 3)] (by decide +kernel) (by decide +kernel) ?_ (fun K hK => ?_)); (focus (intro iw hiw; (try simp (maxSteps := 1000000) (disch := omega) only [go_sem, ↓reduceIte, Nat.reduceEqDiff, Nat.reduceAdd, Nat.reduceMul, Nat.reduceSub, Nat.reduceMod, Nat.reduceLeDiff, Nat.reduceLT, Nat.reduceBEq, reduceCtorEq, Int.reduceLT, Int.reduceLE, Int.reduceToNat, Int.reduceEq, Int.reduceAdd] at hiw ⊢); (repeat (first | rfl | rw [if_neg (by omega)])); done)))); (try simp (maxSteps := 1000000) (disch := omega) only [go_sem, ↓reduceIte, Nat.reduceEqDiff, Nat.reduceAdd, Nat.reduceMul, Nat.reduceSub, Nat.reduceMod, Nat.reduceLeDiff, Nat.reduceLT, Nat.reduceBEq, reduceCtorEq, Int.reduceLT, Int.reduceLE, Int.reduceToNat, Int.reduceEq, Int.reduceAdd]); (repeat' (refine And.intro ?_ ?_)); (all_goals first | (refine hK _ (by simp (maxSteps := 1000000) (disch := omega) only [go_sem, ↓reduceIte, Nat.reduceEqDiff, Nat.reduceAdd, Nat.reduceMul, Nat.reduceSub, Nat.reduceMod, Nat.reduceLeDiff, Nat.reduceLT, Nat.reduceBEq, reduceCtorEq, Int.reduceLT, Int.reduceLE, Int.reduceToNat, Int.reduceEq, Int.reduceAdd]) ?_; clear hK K) | exact auto_cl | skip)) | refine cw_assoc ?_ | refine cw_skips ?_ | refine cw_labels ?_ | ((first | refine cw_step (fun K hK => ?_) | refine cw_last (fun K hK => ?_) | refine cw_stepD (by decide +kernel) (by decide +kernel) (fun K hK => ?_) | refine cw_lastD (by decide +kernel) (by decide +kernel) (fun K hK => ?_) | refine rgB_some ?_); (try simp (maxSteps := 1000000) (disch := omega) only [go_sem, ↓reduceIte, Nat.reduceEqDiff, Nat.reduceAdd, Nat.reduceMul, Nat.reduceSub, Nat.reduceMod, Nat.reduceLeDiff, Nat.reduceLT, Nat.reduceBEq, reduceCtorEq, Int.reduceLT, Int.reduceLE, Int.reduceToNat, Int.reduceEq, Int.reduceAdd]); (repeat' (refine And.intro ?_ ?_)); (all_goals first | (refine hK _ ?_; clear hK K) | exact auto_cl | skip)) | ((first | apply cw_ite | apply cw_iteN); (case hf => rfl); (case hc => simp (maxSteps := 1000000) (disch := omega) only [go_sem, ↓reduceIte, Nat.reduceEqDiff, Nat.reduceAdd, Nat.reduceMul, Nat.reduceSub, Nat.reduceMod, Nat.reduceLeDiff, Nat.reduceLT, Nat.reduceBEq, reduceCtorEq, Int.reduceLT, Int.reduceLE, Int.reduceToNat, Int.reduceEq, Int.reduceAdd]; rfl); (all_goals first | (intro hb; (try simp only [decide_eq_true_eq, decide_eq_false_iff_not, beq_iff_eq, beq_eq_false_iff_ne, bne_iff_ne, bne_eq_false_iff_eq, ne_eq, Bool.not_eq_true, Bool.not_eq_false, Bool.not_true, Bool.not_false, Bool.not_eq_eq_eq_not, Int.not_lt, Int.not_le, gt_iff_lt, ge_iff_le, Bool.cond_eq_ite, Bool.if_false_right, Bool.if_true_left, Bool.and_eq_true, Bool.or_eq_true, Bool.and_eq_false_imp, Bool.or_eq_false_iff, Decidable.not_not, beq_true, beq_false, iteT, iteF, cond_true, cond_false] at hb)) | skip)) | exact atN_intro | ((first | apply cw_if | apply cw_cond); (case hc => simp (maxSteps := 1000000) (disch := omega) only [go_sem, ↓reduceIte, Nat.reduceEqDiff, Nat.reduceAdd, Nat.reduceMul, Nat.reduceSub, Nat.reduceMod, Nat.reduceLeDiff, Nat.reduceLT, Nat.reduceBEq, reduceCtorEq, Int.reduceLT, Int.reduceLE, Int.reduceToNat, Int.reduceEq, Int.reduceAdd]; rfl); (all_goals (intro hb; (try simp only [decide_eq_true_eq, decide_eq_false_iff_not, beq_iff_eq, beq_eq_false_iff_ne, bne_iff_ne, bne_eq_false_iff_eq, ne_eq, Bool.not_eq_true, Bool.not_eq_false, Bool.not_true, Bool.not_false, Bool.not_eq_eq_eq_not, Int.not_lt, Int.not_le, gt_iff_lt, ge_iff_le, Bool.cond_eq_ite, Bool.if_false_right, Bool.if_true_left, Bool.and_eq_true, Bool.or_eq_true, Bool.and_eq_false_imp, Bool.or_eq_false_iff, Decidable.not_not, beq_true, beq_false, iteT, iteF, cond_true, cond_false] at hb); try (exfalso; omega)))) | (refine cw_blocks (fun KB hB => ?_)) | (refine cw_block ?_) | ((first | refine cw_exits ?_ | refine cw_exit ?_ | refine cw_skip ?_); simp (maxSteps := 1000000) (disch := omega) only [go_sem, ↓reduceIte, Nat.reduceEqDiff, Nat.reduceAdd, Nat.reduceMul, Nat.reduceSub, Nat.reduceMod, Nat.reduceLeDiff, Nat.reduceLT, Nat.reduceBEq, reduceCtorEq, Int.reduceLT, Int.reduceLE, Int.reduceToNat, Int.reduceEq, Int.reduceAdd]) | (refine hB _ ?_; clear hB KB) | (refine exit_by (S := Sg) (by assumption) ?_) | ((first | refine cw_rets ?_ | refine cw_ret ?_); simp (maxSteps := 1000000) (disch := omega) only [go_sem, ↓reduceIte, Nat.reduceEqDiff, Nat.reduceAdd, Nat.reduceMul, Nat.reduceSub, Nat.reduceMod, Nat.reduceLeDiff, Nat.reduceLT, Nat.reduceBEq, reduceCtorEq, Int.reduceLT, Int.reduceLE, Int.reduceToNat, Int.reduceEq, Int.reduceAdd]; (try clear hB KB); (try clear hK K)))
        · rw [thenQ_normal]
          refine wk_loop (k + 1) ?_ (by omega) (by omega)
          refine le_of [(1, some 1), (2, some 2), (3, some 3), (4, some 4), (5, some 5), (6, some 6)] rfl (by decide) rfl ?_ ?_
          all_goals simp (maxSteps := 1000000) (disch := omega) only [go_sem, ↓reduceIte, Nat.reduceEqDiff, Nat.reduceAdd, Nat.reduceMul, Nat.reduceSub, Nat.reduceMod, Nat.reduceLeDiff, Nat.reduceLT, Nat.reduceBEq, reduceCtorEq, Int.reduceLT, Int.reduceLE, Int.reduceToNat, Int.reduceEq, Int.reduceAdd]
          repeat' (refine And.intro ?_ ?_)
          all_goals first | rfl | omega | exact .inl rfl | trivial | skip
          refine .inr fun x hx j hj => ?_
          have e1 := hmx2 k x (by omega) (by omega) (by omega)
          have e2 := hmx2 (k + 1) x (by omega) (by omega) (by omega)
          have e3 : (gScript d).images = gImages d := rfl
          simp only [Int.toNat_natCast, e1, e2, e3]
          by_cases hxk : x = k
          · subst hxk
            simp only [if_true, if_pos (show x < x + 1 by omega)]
            have hivl : j = 0 ∨ j = 1 ∨ j = 2 ∨ j = 3 ∨ j = 4 ∨ j = 5 ∨ j = 6 ∨ j = 7 ∨ j = 8 ∨ j = 9 ∨ j = 10 ∨ j = 11 ∨ j = 12 ∨ j = 13 ∨ j = 14 ∨ j = 15 ∨ j = 16 ∨ j = 17 ∨ j = 18 ∨ j = 19 ∨ j = 20 ∨ j = 21 ∨ j = 22 ∨ j = 23 ∨ j = 24 ∨ j = 25 ∨ j = 26 ∨ j = 27 := by omega
            rcases hivl with rfl | rfl | rfl | rfl | rfl | rfl | rfl | rfl | rfl | rfl | rfl | rfl | rfl | rfl | rfl | rfl | rfl | rfl | rfl | rfl | rfl | rfl | rfl | rfl | rfl | rfl | rfl | rfl <;> exact PV.le_refl _
          · have hlt2 : (x < k + 1) ↔ (x < k) := by omega
            simp only [if_neg hxk, hlt2]
            exact PV.le_refl _
        · have hmix : (gImages d).take k ++ (gImages c).drop k = mixI (gImages c) (gImages d) := by
            unfold mixI
            by_cases h : k < (gImages c).length
            · have : k = (gImages d).length := by omega
              rw [this, List.take_of_length_le (Nat.le_refl _), List.take_of_length_le (by omega)]
            · have : k = (gImages c).length := by omega
              rw [this, List.drop_of_length_le (Nat.le_refl _), List.drop_of_length_le (by omega)]
          have h1 := berror_spec _ (gSmooth_len c)
          have h2 := berror_spec _ (readS_ok c d a v).2
          have he1 := smooth_error c
          have he2 := (readS_ok c d a v).1
          refine call_eq h1 (by simp (maxSteps := 1000000) (disch := omega) only [go_sem, ↓reduceIte, Nat.reduceEqDiff, Nat.reduceAdd, Nat.reduceMul, Nat.reduceSub, Nat.reduceMod, Nat.reduceLeDiff, Nat.reduceLT, Nat.reduceBEq, reduceCtorEq, Int.reduceLT, Int.reduceLE, Int.reduceToNat, Int.reduceEq, Int.reduceAdd]) ?_
          try simp (maxSteps := 1000000) (disch := omega) only [go_sem, ↓reduceIte, Nat.reduceEqDiff, Nat.reduceAdd, Nat.reduceMul, Nat.reduceSub, Nat.reduceMod, Nat.reduceLeDiff, Nat.reduceLT, Nat.reduceBEq, reduceCtorEq, Int.reduceLT, Int.reduceLE, Int.reduceToNat, Int.reduceEq, Int.reduceAdd]
          repeat' (refine And.intro ?_ ?_)
          all_goals first | (refine hK _ ?_; clear hK K) | exact auto_cl | skip
          repeat' (first | refine cw_assoc ?_ | refine cw_skips ?_ | refine cw_labels ?_ | ((first | refine cw_step (fun K hK => ?_) | refine cw_last (fun K hK => ?_) | refine cw_stepD (by decide +kernel) (by decide +kernel) (fun K hK => ?_) | refine cw_lastD (by decide +kernel) (by decide +kernel) (fun K hK => ?_) | refine rgB_some ?_); (try simp (maxSteps := 1000000) (disch := omega) only [go_sem, ↓reduceIte, Nat.reduceEqDiff, Nat.reduceAdd, Nat.reduceMul, Nat.reduceSub, Nat.reduceMod, Nat.reduceLeDiff, Nat.reduceLT, Nat.reduceBEq, reduceCtorEq, Int.reduceLT, Int.reduceLE, Int.reduceToNat, Int.reduceEq, Int.reduceAdd]); (repeat' (refine And.intro ?_ ?_)); (all_goals first | (refine hK _ ?_; clear hK K) | exact auto_cl | skip)) | ((first | apply cw_ite | apply cw_iteN); (case hf => rfl); (case hc => simp (maxSteps := 1000000) (disch := omega) only [go_sem, ↓reduceIte, Nat.reduceEqDiff, Nat.reduceAdd, Nat.reduceMul, Nat.reduceSub, Nat.reduceMod, Nat.reduceLeDiff, Nat.reduceLT, Nat.reduceBEq, reduceCtorEq, Int.reduceLT, Int.reduceLE, Int.reduceToNat, Int.reduceEq, Int.reduceAdd]; rfl); (all_goals first | (intro hb; (try simp only [decide_eq_true_eq, decide_eq_false_iff_not, beq_iff_eq, beq_eq_false_iff_ne, bne_iff_ne, bne_eq_false_iff_eq, ne_eq, Bool.not_eq_true, Bool.not_eq_false, Bool.not_true, Bool.not_false, Bool.not_eq_eq_eq_not, Int.not_lt, Int.not_le, gt_iff_lt, ge_iff_le, Bool.cond_eq_ite, Bool.if_false_right, Bool.if_true_left, Bool.and_eq_true, Bool.or_eq_true, Bool.and_eq_false_imp, Bool.or_eq_false_iff, Decidable.not_not, beq_true, beq_false, iteT, iteF, cond_true, cond_false] at hb)) | skip)) | exact atN_intro | ((first | apply cw_if | apply cw_cond); (case hc => simp (maxSteps := 1000000) (disch := omega) only [go_sem, ↓reduceIte, Nat.reduceEqDiff, Nat.reduceAdd, Nat.reduceMul, Nat.reduceSub, Nat.reduceMod, Nat.reduceLeDiff, Nat.reduceLT, Nat.reduceBEq, reduceCtorEq, Int.reduceLT, Int.reduceLE, Int.reduceToNat, Int.reduceEq, Int.reduceAdd]; rfl); (all_goals (intro hb; (try simp only [decide_eq_true_eq, decide_eq_false_iff_not, beq_iff_eq, beq_eq_false_iff_ne, bne_iff_ne, bne_eq_false_iff_eq, ne_eq, Bool.not_eq_true, Bool.not_eq_false, Bool.not_true, Bool.not_false, Bool.not_eq_eq_eq_not, Int.not_lt, Int.not_le, gt_iff_lt, ge_iff_le, Bool.cond_eq_ite, Bool.if_false_right, Bool.if_true_left, Bool.and_eq_true, Bool.or_eq_true, Bool.and_eq_false_imp, Bool.or_eq_false_iff, Decidable.not_not, beq_true, beq_false, iteT, iteF, cond_true, cond_false] at hb); try (exfalso; omega)))) | (refine cw_blocks (fun KB hB => ?_)) | (refine cw_block ?_) | ((first | refine cw_exits ?_ | refine cw_exit ?_ | refine cw_skip ?_); simp (maxSteps := 1000000) (disch := omega) only [go_sem, ↓reduceIte, Nat.reduceEqDiff, Nat.reduceAdd, Nat.reduceMul, Nat.reduceSub, Nat.reduceMod, Nat.reduceLeDiff, Nat.reduceLT, Nat.reduceBEq, reduceCtorEq, Int.reduceLT, Int.reduceLE, Int.reduceToNat, Int.reduceEq, Int.reduceAdd]) | (refine hB _ ?_; clear hB KB) | (refine exit_by (S := Sg) (by assumption) ?_) | ((first | refine cw_rets ?_ | refine cw_ret ?_); simp (maxSteps := 1000000) (disch := omega) only [go_sem, ↓reduceIte, Nat.reduceEqDiff, Nat.reduceAdd, Nat.reduceMul, Nat.reduceSub, Nat.reduceMod, Nat.reduceLeDiff, Nat.reduceLT, Nat.reduceBEq, reduceCtorEq, Int.reduceLT, Int.reduceLE, Int.reduceToNat, Int.reduceEq, Int.reduceAdd]; (try clear hB KB); (try clear hK K)))
          refine call_lends ?_ ?_ (by simp (maxSteps := 1000000) (disch := omega) only [go_sem, ↓reduceIte, Nat.reduceEqDiff, Nat.reduceAdd, Nat.reduceMul, Nat.reduceSub, Nat.reduceMod, Nat.reduceLeDiff, Nat.reduceLT, Nat.reduceBEq, reduceCtorEq, Int.reduceLT, Int.reduceLE, Int.reduceToNat, Int.reduceEq, Int.reduceAdd]) ?_ (h2)
          try simp (maxSteps := 1000000) (disch := omega) only [go_sem, ↓reduceIte, Nat.reduceEqDiff, Nat.reduceAdd, Nat.reduceMul, Nat.reduceSub, Nat.reduceMod, Nat.reduceLeDiff, Nat.reduceLT, Nat.reduceBEq, reduceCtorEq, Int.reduceLT, Int.reduceLE, Int.reduceToNat, Int.reduceEq, Int.reduceAdd]
          try (refine hK _ ?_; clear hK K)
          · have hol : (smoothM (gScript c)).order.length ≤ 4611686018427387904 := (gSmooth_len c).order
            repeat' (first | refine cw_assoc ?_ | refine cw_skips ?_ | refine cw_labels ?_ | ((first | refine cw_step (fun K hK => ?_) | refine cw_last (fun K hK => ?_) | refine cw_stepD (by decide +kernel) (by decide +kernel) (fun K hK => ?_) | refine cw_lastD (by decide +kernel) (by decide +kernel) (fun K hK => ?_) | refine rgB_some ?_ | refine call_a (ha) ?_ | refine gcall_a (fun hg => ha) ?_ | refine call_a (sameInts_spec _ _ hol hol) ?_ | refine gcall_a (fun hg => sameInts_spec _ _ hol hol) ?_); (try simp (maxSteps := 1000000) (disch := omega) only [go_sem, ↓reduceIte, Nat.reduceEqDiff, Nat.reduceAdd, Nat.reduceMul, Nat.reduceSub, Nat.reduceMod, Nat.reduceLeDiff, Nat.reduceLT, Nat.reduceBEq, reduceCtorEq, Int.reduceLT, Int.reduceLE, Int.reduceToNat, Int.reduceEq, Int.reduceAdd]); (repeat' (refine And.intro ?_ ?_)); (all_goals first | (refine hK _ ?_; clear hK K) | exact auto_cl | skip)) | ((first | apply cw_ite | apply cw_iteN); (case hf => rfl); (case hc => simp (maxSteps := 1000000) (disch := omega) only [go_sem, ↓reduceIte, Nat.reduceEqDiff, Nat.reduceAdd, Nat.reduceMul, Nat.reduceSub, Nat.reduceMod, Nat.reduceLeDiff, Nat.reduceLT, Nat.reduceBEq, reduceCtorEq, Int.reduceLT, Int.reduceLE, Int.reduceToNat, Int.reduceEq, Int.reduceAdd]; rfl); (all_goals first | (intro hb; (try simp only [decide_eq_true_eq, decide_eq_false_iff_not, beq_iff_eq, beq_eq_false_iff_ne, bne_iff_ne, bne_eq_false_iff_eq, ne_eq, Bool.not_eq_true, Bool.not_eq_false, Bool.not_true, Bool.not_false, Bool.not_eq_eq_eq_not, Int.not_lt, Int.not_le, gt_iff_lt, ge_iff_le, Bool.cond_eq_ite, Bool.if_false_right, Bool.if_true_left, Bool.and_eq_true, Bool.or_eq_true, Bool.and_eq_false_imp, Bool.or_eq_false_iff, Decidable.not_not, beq_true, beq_false, iteT, iteF, cond_true, cond_false] at hb)) | skip)) | exact atN_intro | ((first | apply cw_if | apply cw_cond); (case hc => simp (maxSteps := 1000000) (disch := omega) only [go_sem, ↓reduceIte, Nat.reduceEqDiff, Nat.reduceAdd, Nat.reduceMul, Nat.reduceSub, Nat.reduceMod, Nat.reduceLeDiff, Nat.reduceLT, Nat.reduceBEq, reduceCtorEq, Int.reduceLT, Int.reduceLE, Int.reduceToNat, Int.reduceEq, Int.reduceAdd]; rfl); (all_goals (intro hb; (try simp only [decide_eq_true_eq, decide_eq_false_iff_not, beq_iff_eq, beq_eq_false_iff_ne, bne_iff_ne, bne_eq_false_iff_eq, ne_eq, Bool.not_eq_true, Bool.not_eq_false, Bool.not_true, Bool.not_false, Bool.not_eq_eq_eq_not, Int.not_lt, Int.not_le, gt_iff_lt, ge_iff_le, Bool.cond_eq_ite, Bool.if_false_right, Bool.if_true_left, Bool.and_eq_true, Bool.or_eq_true, Bool.and_eq_false_imp, Bool.or_eq_false_iff, Decidable.not_not, beq_true, beq_false, iteT, iteF, cond_true, cond_false] at hb); try (exfalso; omega)))) | (refine cw_blocks (fun KB hB => ?_)) | (refine cw_block ?_) | ((first | refine cw_exits ?_ | refine cw_exit ?_ | refine cw_skip ?_); simp (maxSteps := 1000000) (disch := omega) only [go_sem, ↓reduceIte, Nat.reduceEqDiff, Nat.reduceAdd, Nat.reduceMul, Nat.reduceSub, Nat.reduceMod, Nat.reduceLeDiff, Nat.reduceLT, Nat.reduceBEq, reduceCtorEq, Int.reduceLT, Int.reduceLE, Int.reduceToNat, Int.reduceEq, Int.reduceAdd]) | (refine hB _ ?_; clear hB KB) | (refine exit_by (S := Sg) (by assumption) ?_) | ((first | refine cw_rets ?_ | refine cw_ret ?_); simp (maxSteps := 1000000) (disch := omega) only [go_sem, ↓reduceIte, Nat.reduceEqDiff, Nat.reduceAdd, Nat.reduceMul, Nat.reduceSub, Nat.reduceMod, Nat.reduceLeDiff, Nat.reduceLT, Nat.reduceBEq, reduceCtorEq, Int.reduceLT, Int.reduceLE, Int.reduceToNat, Int.reduceEq, Int.reduceAdd]; (try clear hB KB); (try clear hK K)))
            have s1 : (errorM (smoothM (gScript c))).2 = 0 := by rw [he1]
            have s2 : (errorM (readS c d a v)).2 = 0 := by rw [he2]
            have s3 : (errorM (smoothM (gScript c))).1 = (errorM (readS c d a v)).1 := by rw [he1, he2]
            rw [s1, s2, s3]
            simp only [beq_self_eq_true, Bool.and_self]
          · refine ⟨bvle_agg ?_, trivial⟩
            simp (maxSteps := 1000000) (disch := omega) only [go_sem, ↓reduceIte, Nat.reduceEqDiff, Nat.reduceAdd, Nat.reduceMul, Nat.reduceSub, Nat.reduceMod, Nat.reduceLeDiff, Nat.reduceLT, Nat.reduceBEq, reduceCtorEq, Int.reduceLT, Int.reduceLE, Int.reduceToNat, Int.reduceEq, Int.reduceAdd, List.map_cons, List.map_nil, cleL_cons, cleL_nil]
            refine ⟨.inl rfl, .inl rfl, .inl rfl, .inl rfl, .inl rfl, .inl rfl, .inl rfl, .inl rfl, .inl ?_, .inl ?_⟩
            · have e : (readS c d a v).images = mixI (gImages c) (gImages d) := rfl
              rw [e, mixI_len, hmix]
              rfl
            · have e : (readS c d a v).ops = (smoothM (gScript c)).ops.map (chgO (gMax c.bits) a v) := rfl
              rw [e, List.length_map]
          exact flat2 _ _
end Go.Proofs.YtfjaojlbnjdmgaaDoor
