/- Part 6 of the proof: F28, F29. -/
import Derived.Test.YtfjaojlbnjdmgaaDoorM0
import Derived.Test.YtfjaojlbnjdmgaaDoorM1
import Derived.Test.YtfjaojlbnjdmgaaDoorM2
import Derived.Test.YtfjaojlbnjdmgaaDoorM3
import Derived.Test.YtfjaojlbnjdmgaaDoorM4
import Derived.Test.YtfjaojlbnjdmgaaDoorM5
set_option linter.unusedSimpArgs false
set_option linter.unusedVariables false
set_option maxRecDepth 8000
set_option maxHeartbeats 8000000
namespace Go.Proofs.YtfjaojlbnjdmgaaDoor
open Go Go.SL
open Go.RowKit (wrap64)

theorem bStep_op0 {b : Int} {st : List Lev} {l : List Op} {o : Op} (hl : st.length = l.length + 1) (h3 : o.kind = 3 → 0 < l.length) : ((bStep b st o).getD 0 default).op = (st.getD 0 default).op := by
  have hp : ∀ (st : List Lev) (o : Op) (q : Int), 0 < st.length → ((paintTop b st o q).getD 0 default).op = (st.getD 0 default).op := fun st o q h => by
    rw [paintTop, getD_push, List.length_dropLast]
    by_cases h1 : 0 < st.length - 1
    · rw [if_pos h1, getD_dropLast h1]
    · rw [if_neg h1, if_pos (by omega), paintM_op.1, lastL, show st.length - 1 = 0 by omega]
  unfold bStep
  split
  · rw [getD_push, if_pos (by omega)]
  split
  · rename_i hk
    have := h3 hk
    rw [hp _ _ _ (by rw [List.length_dropLast]; omega), getD_dropLast (by omega)]
  · rw [hp _ _ _ (by omega)]
theorem bAll {s : Script} (h : (opsM s).1 = 0) (hb : burnsM s.ops = false) : ∀ i, i ≤ s.ops.length → ∃ st l, BInv s i st l ∧ (st.getD 0 default).op = isoOp
  | 0, _ => ⟨lev0, [], bInv0 h, rfl⟩
  | i + 1, hi => by
    obtain ⟨st, l, h1, h2⟩ := bAll h hb i (by omega)
    refine ⟨_, _, bInv_step h1 (by omega) hb, ?_⟩
    have he := (bInv_op h1 (by omega) hb).1
    rw [bStep_op0 h1.len (fun h3 => opErr_pop he h3), h2]
/-- What is left at the end. -/
theorem bEnd {s : Script} (h : (opsM s).1 = 0) (hb : burnsM s.ops = false) : ∃ x : Lev, boundAll s.bits s.ops = [x] ∧ x.op = isoOp ∧ LevOk x := by
  obtain ⟨st, l, h1, h2⟩ := bAll h hb s.ops.length (Nat.le_refl _)
  have hgo := h1.go
  rw [List.drop_length, opsGo] at hgo
  have hl : l.length = 0 := by
    by_cases hc : 0 < l.length
    · rw [if_pos hc] at hgo; cases hgo
    · omega
  have hs : st.length = 1 := by rw [h1.len, hl]
  have he : boundAll s.bits s.ops = st := by rw [h1.eq, List.take_of_length_le (Nat.le_refl _)]; rfl
  obtain ⟨x, rfl⟩ := List.length_eq_one_iff.1 hs
  exact ⟨x, he, h2, h1.ok.ok 0 (by simp)⟩
theorem lipB_pos {m : Int} (h : isOp m = true) (h7 : m ≠ 7) (h8 : m ≠ 8) : 1 ≤ lipB 4 m := by
  simp only [isOp, decide_eq_true_eq] at h
  have : m = 1 ∨ m = 2 ∨ m = 3 ∨ m = 4 ∨ m = 5 ∨ m = 6 ∨ m = 9 ∨ m = 10 ∨ m = 11 ∨ m = 12 := by omega
  rcases this with rfl | rfl | rfl | rfl | rfl | rfl | rfl | rfl | rfl | rfl <;> decide
/-- One more draw outside all groups, with src-over. -/
theorem grow {s : Script} {o : Op} (h : (opsM s).1 = 0) (hb : burnsM s.ops = false) (hk : o.kind = 1) (ho : o.operator = 4) (hm : isOp o.mode = true) (h7 : o.mode ≠ 7) (h8 : o.mode ≠ 8) :
    boundN s.bits (s.ops ++ [o]) > boundN s.bits s.ops ∨ boundN s.bits s.ops = 1099511627776 ∧ boundN s.bits (s.ops ++ [o]) = boundN s.bits s.ops := by
  obtain ⟨x, h1, h2, h3⟩ := bEnd h hb
  have e1 : boundN s.bits s.ops = x.e := by rw [boundN, h1]; rfl
  have hB := lipB_pos hm h7 h8
  have hr := lip_range o.operator o.mode
  have hq := qOf_ok (b := s.bits) (o := o) (q := 0) (Int.le_refl _)
  have e2 : boundN s.bits (s.ops ++ [o]) = min (lipA o.operator o.mode * qOf s.bits o 0 + lipB o.operator o.mode * x.e + 1) 1099511627776 := by
    have : boundAll s.bits (s.ops ++ [o]) = bStep s.bits (boundAll s.bits s.ops) o := by rw [boundAll, List.foldl_append]; rfl
    rw [boundN, this, h1, bStep, if_neg (by omega), if_neg (by omega), paintTop]
    show (paintM x o (qOf s.bits o 0)).e = _
    rw [paintM, h2, if_neg (by show ¬ (false = true); decide)]
  rw [e1, e2]
  obtain ⟨p1, p2, p3, p4⟩ := h3
  have a1 : 0 ≤ lipA o.operator o.mode * qOf s.bits o 0 := Int.mul_nonneg hr.1 hq.1
  rw [ho] at a1 ⊢
  have a2 : 1 * x.e ≤ lipB 4 o.mode * x.e := Int.mul_le_mul_of_nonneg_right hB p1
  omega

def drawO (s : Scene) (r : Raw) : Op := gOp r false (gImages s).length (gCanvas s).x0 (gCanvas s).y0 false (gMax s.bits)
def growO (s : Scene) (r : Raw) : Op := if (drawO s r).mode = 7 ∨ (drawO s r).mode = 8 then { drawO s r with mode := 11 } else drawO s r
theorem drawO_err (s : Scene) (r : Raw) : (drawO s r).kind = 1 ∧ (drawO s r).operator = 4 ∧ opErr (gScript s).bits (gImages s).length (drawO s r) [] = 0 := by
  have hg := (gOp_ok (s := s) (r := { r with kind := 3 }) (l := [⟨0, 0, 0, 0, 0, 0, 0, 0, 0, 0, false, false⟩]) (by decide)).1
  have e : gOp { r with kind := 3 } (decide ((3 : Int) % 8 < 3)) (gImages s).length (gCanvas s).x0 (gCanvas s).y0 (ctxOk [⟨0, 0, 0, 0, 0, 0, 0, 0, 0, 0, false, false⟩]) (gMax s.bits) = drawO s r := rfl
  rw [show ({ r with kind := 3 } : Raw).kind = 3 from rfl, e] at hg
  have hk : (drawO s r).kind = 1 := rfl
  have ho : (drawO s r).operator = 4 := rfl
  refine ⟨hk, ho, ?_⟩
  rw [opErr_zero] at hg ⊢
  obtain ⟨g1, g2, g3, g4⟩ := hg
  have hk3 : (drawO s r).kind ≠ 3 := by omega
  obtain ⟨q1, q2, q3, q4, q5, q6, q7⟩ := g4 hk3
  exact ⟨g1, g2, fun h => absurd h hk3, fun _ => ⟨q1, q2, q3, q4, q5, fun h => absurd ho h, fun h => by omega⟩⟩
theorem growO_err (s : Scene) (r : Raw) : (growO s r).kind = 1 ∧ (growO s r).operator = 4 ∧ isOp (growO s r).mode = true ∧ (growO s r).mode ≠ 7 ∧ (growO s r).mode ≠ 8 ∧ opErr (gScript s).bits (gImages s).length (growO s r) [] = 0 := by
  obtain ⟨h1, h2, h3⟩ := drawO_err s r
  have hz := h3
  rw [opErr_zero] at hz
  obtain ⟨g1, g2, g3, g4⟩ := hz
  have hk3 : (drawO s r).kind ≠ 3 := by omega
  obtain ⟨q1, q2, q3, q4, q5, q6, q7⟩ := g4 hk3
  unfold growO
  split
  · refine ⟨h1, h2, rfl, by dsimp only; omega, by dsimp only; omega, ?_⟩
    rw [opErr_zero]
    refine ⟨g1, ?_, g3, fun _ => ⟨q1, q2, q3, q4, rfl, q6, q7⟩⟩
    simp only [fieldsM, if_neg hk3] at g2 ⊢
    exact g2
  · rename_i hc
    exact ⟨h1, h2, q5, fun h => hc (.inl h), fun h => hc (.inr h), h3⟩
def growS (s : Scene) (r : Raw) : Script := { smoothM (gScript s) with ops := (gScript s).ops.map smoothO ++ [growO s r] }
theorem growS_ok (s : Scene) (r : Raw) : errorM (growS s r) = (boundN (gScript s).bits ((gScript s).ops.map smoothO ++ [growO s r]), 0) ∧ ScriptLen (growS s r) := by
  have hg := smooth_good (gScript_good s)
  obtain ⟨h1, h2, h3, h4, h5, h6⟩ := growO_err s r
  have hl : (growS s r).ops.length ≤ 4096 := by
    show ((gScript s).ops.map smoothO ++ [growO s r]).length ≤ 4096
    have := hg.len
    rw [List.length_append]
    simp only [List.length_cons, List.length_nil]
    omega
  have hf : frameM (growS s r) = 0 := gframe (s := s) (t := growS s r) rfl rfl rfl rfl rfl (gimages_len s) hl
  have ho : opsM (growS s r) = (0, 0) := opsM_ok hf (okAll_append.2 ⟨hg.ok, by rw [hg.op]; exact h6, trivial⟩) (by
    show openAfter ((gScript s).ops.map smoothO ++ [growO s r]) [] = []
    rw [openAfter_append, hg.op]
    show nextOpen [] (growO s r) = []
    rw [nextOpen, if_neg (by omega), if_neg (by omega)])
  have hb : burnsM (growS s r).ops = false := by
    show burnsM ((gScript s).ops.map smoothO ++ [growO s r]) = false
    have := smooth_burns (gScript s).ops
    unfold burnsM at this ⊢
    rw [List.any_append, this]
    simp [h4, h5]
  exact ⟨errorM_ok ho hb, g_len s rfl (gimages_len s) hl⟩
theorem smooth_opsM (s : Scene) : opsM (smoothM (gScript s)) = (0, 0) := by
  have hg := smooth_good (gScript_good s)
  refine opsM_ok (gframe rfl rfl rfl rfl rfl (gimages_len s) ?_) hg.ok hg.op
  exact Nat.le_trans hg.len (by decide)
theorem grow_law (s : Scene) (r : Raw) : (errorM (growS s r)).1 > (errorM (smoothM (gScript s))).1 ∨ (errorM (smoothM (gScript s))).1 = 1099511627776 ∧ (errorM (growS s r)).1 = (errorM (smoothM (gScript s))).1 := by
  obtain ⟨h1, h2, h3, h4, h5, h6⟩ := growO_err s r
  rw [(growS_ok s r).1, smooth_error]
  exact grow (s := smoothM (gScript s)) (by rw [smooth_opsM]) (smooth_burns _) h1 h2 h3 h4 h5
end Go.Proofs.YtfjaojlbnjdmgaaDoor

set_option linter.unusedSimpArgs false
set_option linter.unusedVariables false
set_option maxRecDepth 8000
set_option maxHeartbeats 8000000
namespace Go.Proofs.YtfjaojlbnjdmgaaDoor
open Go Go.SL
open Go.RowKit (wrap64)

/-- P30.2, the fourth. -/
theorem grows_spec (c : Scene) (r : Raw) (hc : SceneOk c) (hr : RawOk r) : Pure Sg 7 [ag (sceneE c), ag (rawE r)] (fun r => r = .b (B true)) := by
  have ha := awake_spec
  have hs := gscript_spec c hc
  have hm := smooth_spec (gScript c) (Nat.le_trans (gops_len c) (by decide))
  have hu := gMax_u c.bits
  have hi := gImages_le c
  have hcb : -2000000000 ≤ (gCanvas c).x0 ∧ (gCanvas c).x0 ≤ 2000000000 ∧ -2000000000 ≤ (gCanvas c).y0 ∧ (gCanvas c).y0 ≤ 2000000000 := by
    obtain ⟨h1, h2, h3, h4, h5, h6⟩ := gCanvas_small c
    omega
  have hmx : Pure Sg 16 [I (smoothM (gScript c)).bits] (fun x => x = .tup [U (gMax c.bits), B (decide ((gScript c).bits = 8 ∨ (gScript c).bits = 16))]) := by
    have := r01max_spec (gScript c).bits
    rw [show (if (gScript c).bits = 8 then (255 : Int) else if (gScript c).bits = 16 then 65535 else 0) = gMax c.bits from maxOf_g c] at this
    exact this
  have hop : Pure Sg 18 [ag (rawE r), B false, I (gImages c).length, ag (rectE (gCanvas c)), B false, U (gMax c.bits)] (fun x => x = .b (ag (opE (drawO c r)))) :=
    op_spec r false (gImages c).length (gCanvas c) false (gMax c.bits) hr (by omega) (by omega) hcb.1 hcb.2.1 hcb.2.2.1 hcb.2.2.2 (by unfold u16; omega)
  refine pure_of Tryd.func7 rfl (rs := [.tmp 4]) rfl rfl mixed (by decide +kernel) (Nat.le_of_ble_eq_true rfl) (argsLt_mem (by simp (maxSteps := 1000000) (disch := omega) only [go_sem, ↓reduceIte, Nat.reduceEqDiff, Nat.reduceAdd, Nat.reduceMul, Nat.reduceSub, Nat.reduceMod, Nat.reduceLeDiff, Nat.reduceLT, Nat.reduceBEq, reduceCtorEq, Int.reduceLT, Int.reduceLE, Int.reduceToNat, Int.reduceEq, Int.reduceAdd])) ?_
  repeat' (first | ((first | ((with_reducible refine cw_stepDK (id := 3) [] (by decide +kernel) (by decide +kernel) ?_ (fun K hK => ?_)); (focus (intro iw hiw; (try simp (maxSteps := 1000000) (disch := omega) only [go_sem, ↓reduceIte, Nat.reduceEqDiff, Nat.reduceAdd, Nat.reduceMul, Nat.reduceSub, Nat.reduceMod, Nat.reduceLeDiff, Nat.reduceLT, Nat.reduceBEq, reduceCtorEq, Int.reduceLT, Int.reduceLE, Int.reduceToNat, Int.reduceEq, Int.reduceAdd] at hiw ⊢); (repeat (first | rfl | rw [if_neg (by omega)])); done))) | ((with_reducible refine cw_lastDK (id := 3) [] (by decide +kernel) (by decide +kernel) ?_ (fun K hK => ?_)); (focus (intro iw hiw; (try simp (maxSteps := 1000000) (disch := omega) only [go_sem, ↓reduceIte, Nat.reduceEqDiff, Nat.reduceAdd, Nat.reduceMul, Nat.reduceSub, Nat.reduceMod, Nat.reduceLeDiff, Nat.reduceLT, Nat.reduceBEq, reduceCtorEq, Int.reduceLT, Int.reduceLE, Int.reduceToNat, Int.reduceEq, Int.reduceAdd] at hiw ⊢); (repeat (first | rfl | rw [if_neg (by omega)])); done)))); (try simp (maxSteps := 1000000) (disch := omega) only [go_sem, ↓reduceIte, Nat.reduceEqDiff, Nat.reduceAdd, Nat.reduceMul, Nat.reduceSub, Nat.reduceMod, Nat.reduceLeDiff, Nat.reduceLT, Nat.reduceBEq, reduceCtorEq, Int.reduceLT, Int.reduceLE, Int.reduceToNat, Int.reduceEq, Int.reduceAdd]); (repeat' (refine And.intro ?_ ?_)); (all_goals first | (refine hK _ (by simp (maxSteps := 1000000) (disch := omega) only [go_sem, ↓reduceIte, Nat.reduceEqDiff, Nat.reduceAdd, Nat.reduceMul, Nat.reduceSub, Nat.reduceMod, Nat.reduceLeDiff, Nat.reduceLT, Nat.reduceBEq, reduceCtorEq, Int.reduceLT, Int.reduceLE, Int.reduceToNat, Int.reduceEq, Int.reduceAdd]) ?_; clear hK K) | exact auto_cl | skip)) | refine cw_assoc ?_ | refine cw_skips ?_ | refine cw_labels ?_ | ((first | refine cw_step (fun K hK => ?_) | refine cw_last (fun K hK => ?_) | refine cw_stepD (by decide +kernel) (by decide +kernel) (fun K hK => ?_) | refine cw_lastD (by decide +kernel) (by decide +kernel) (fun K hK => ?_) | refine rgB_some ?_ | refine call_a (hs) ?_ | refine gcall_a (fun hg => hs) ?_ | refine call_a (hm) ?_ | refine gcall_a (fun hg => hm) ?_ | refine call_a (hmx) ?_ | refine gcall_a (fun hg => hmx) ?_ | refine call_a (hop) ?_ | refine gcall_a (fun hg => hop) ?_); (try simp (maxSteps := 1000000) (disch := omega) only [go_sem, ↓reduceIte, Nat.reduceEqDiff, Nat.reduceAdd, Nat.reduceMul, Nat.reduceSub, Nat.reduceMod, Nat.reduceLeDiff, Nat.reduceLT, Nat.reduceBEq, reduceCtorEq, Int.reduceLT, Int.reduceLE, Int.reduceToNat, Int.reduceEq, Int.reduceAdd]); (repeat' (refine And.intro ?_ ?_)); (all_goals first | (refine hK _ ?_; clear hK K) | exact auto_cl | skip)) | ((first | apply cw_ite | apply cw_iteN); (case hf => rfl); (case hc => simp (maxSteps := 1000000) (disch := omega) only [go_sem, ↓reduceIte, Nat.reduceEqDiff, Nat.reduceAdd, Nat.reduceMul, Nat.reduceSub, Nat.reduceMod, Nat.reduceLeDiff, Nat.reduceLT, Nat.reduceBEq, reduceCtorEq, Int.reduceLT, Int.reduceLE, Int.reduceToNat, Int.reduceEq, Int.reduceAdd]; rfl); (all_goals first | (intro hb; (try simp only [decide_eq_true_eq, decide_eq_false_iff_not, beq_iff_eq, beq_eq_false_iff_ne, bne_iff_ne, bne_eq_false_iff_eq, ne_eq, Bool.not_eq_true, Bool.not_eq_false, Bool.not_true, Bool.not_false, Bool.not_eq_eq_eq_not, Int.not_lt, Int.not_le, gt_iff_lt, ge_iff_le, Bool.cond_eq_ite, Bool.if_false_right, Bool.if_true_left, Bool.and_eq_true, Bool.or_eq_true, Bool.and_eq_false_imp, Bool.or_eq_false_iff, Decidable.not_not, beq_true, beq_false, iteT, iteF, cond_true, cond_false] at hb)) | skip)) | exact atN_intro | ((first | apply cw_if | apply cw_cond); (case hc => simp (maxSteps := 1000000) (disch := omega) only [go_sem, ↓reduceIte, Nat.reduceEqDiff, Nat.reduceAdd, Nat.reduceMul, Nat.reduceSub, Nat.reduceMod, Nat.reduceLeDiff, Nat.reduceLT, Nat.reduceBEq, reduceCtorEq, Int.reduceLT, Int.reduceLE, Int.reduceToNat, Int.reduceEq, Int.reduceAdd]; rfl); (all_goals (intro hb; (try simp only [decide_eq_true_eq, decide_eq_false_iff_not, beq_iff_eq, beq_eq_false_iff_ne, bne_iff_ne, bne_eq_false_iff_eq, ne_eq, Bool.not_eq_true, Bool.not_eq_false, Bool.not_true, Bool.not_false, Bool.not_eq_eq_eq_not, Int.not_lt, Int.not_le, gt_iff_lt, ge_iff_le, Bool.cond_eq_ite, Bool.if_false_right, Bool.if_true_left, Bool.and_eq_true, Bool.or_eq_true, Bool.and_eq_false_imp, Bool.or_eq_false_iff, Decidable.not_not, beq_true, beq_false, iteT, iteF, cond_true, cond_false] at hb); try (exfalso; omega)))) | (refine cw_blocks (fun KB hB => ?_)) | (refine cw_block ?_) | ((first | refine cw_exits ?_ | refine cw_exit ?_ | refine cw_skip ?_); simp (maxSteps := 1000000) (disch := omega) only [go_sem, ↓reduceIte, Nat.reduceEqDiff, Nat.reduceAdd, Nat.reduceMul, Nat.reduceSub, Nat.reduceMod, Nat.reduceLeDiff, Nat.reduceLT, Nat.reduceBEq, reduceCtorEq, Int.reduceLT, Int.reduceLE, Int.reduceToNat, Int.reduceEq, Int.reduceAdd]) | (refine hB _ ?_; clear hB KB) | (refine exit_by (S := Sg) (by assumption) ?_) | ((first | refine cw_rets ?_ | refine cw_ret ?_); simp (maxSteps := 1000000) (disch := omega) only [go_sem, ↓reduceIte, Nat.reduceEqDiff, Nat.reduceAdd, Nat.reduceMul, Nat.reduceSub, Nat.reduceMod, Nat.reduceLeDiff, Nat.reduceLT, Nat.reduceBEq, reduceCtorEq, Int.reduceLT, Int.reduceLE, Int.reduceToNat, Int.reduceEq, Int.reduceAdd]; (try clear hB KB); (try clear hK K)))
  have hgO : growO c r = { drawO c r with mode := if ((drawO c r).mode == 7 || (drawO c r).mode == 8) = true then 11 else (drawO c r).mode } := by
    unfold growO
    by_cases h : (drawO c r).mode = 7 ∨ (drawO c r).mode = 8
    · rw [if_pos h, if_pos (by simpa using h)]
    · rw [if_neg h, if_neg (by simpa using h)]
  have hgl : ((gScript c).ops.map smoothO).length ≤ 18 := by rw [List.length_map]; exact gops_len c
  refine cw_stepT (mkSt [(5, .b (.c (.ptr 1 0))), (9, .b (.c (.ptr 2 0)))]
    [(0, .fix ((sceneE c).map CV.p)), (1, .fix ((scriptE (smoothM (gScript c))).map CV.p)), (2, .fix (((scriptE (smoothM (gScript c))).map CV.p).take 9 ++ [.own 3 ((smoothM (gScript c)).ops.length + 1)])), (3, .arr 34 12 ((smoothM (gScript c)).ops.length + 1) (fnOf opE ((smoothM (gScript c)).ops ++ [growO c r])))] 4) (.br 0 (.br 1 (.br 2 (.br 3 (.br 4 (.br 5 (.br 6 (.br 7 .leaf .nil) .nil) .nil) .nil) .nil) (.br 3 (.br 2 (.br 4 (.br 5 (.br 6 (.br 7 .leaf .nil) .nil) .nil) .nil) (.br 4 (.br 2 (.br 5 (.br 6 (.br 7 .leaf .nil) .nil) .nil) .nil) .nil)) .nil)) (.br 3 (.br 1 (.br 2 (.br 4 (.br 5 (.br 6 (.br 7 .leaf .nil) .nil) .nil) .nil) (.br 4 (.br 2 (.br 5 (.br 6 (.br 7 .leaf .nil) .nil) .nil) .nil) .nil)) (.br 4 (.br 1 (.br 2 (.br 5 (.br 6 (.br 7 .leaf .nil) .nil) .nil) .nil) .nil) .nil)) .nil)) (.br 3 (.br 0 (.br 1 (.br 2 (.br 4 (.br 5 (.br 6 (.br 7 .leaf .nil) .nil) .nil) .nil) (.br 4 (.br 2 (.br 5 (.br 6 (.br 7 .leaf .nil) .nil) .nil) .nil) .nil)) (.br 4 (.br 1 (.br 2 (.br 5 (.br 6 (.br 7 .leaf .nil) .nil) .nil) .nil) .nil) .nil)) (.br 4 (.br 0 (.br 1 (.br 2 (.br 5 (.br 6 (.br 7 .leaf .nil) .nil) .nil) .nil) .nil) .nil) .nil)) .nil)) (by decide +kernel) ?_ ?_
  · have hgl2 : (smoothM (gScript c)).ops.length ≤ 18 := hgl
    simp (maxSteps := 1000000) (disch := omega) only [go_sem, ↓reduceIte, Nat.reduceEqDiff, Nat.reduceAdd, Nat.reduceMul, Nat.reduceSub, Nat.reduceMod, Nat.reduceLeDiff, Nat.reduceLT, Nat.reduceBEq, reduceCtorEq, Int.reduceLT, Int.reduceLE, Int.reduceToNat, Int.reduceEq, Int.reduceAdd]
    repeat' (refine And.intro ?_ ?_)
    all_goals first | omega | exact Nat.le_of_ble_eq_true rfl | trivial | skip
    all_goals refine ⟨_, ?_, rfl⟩
    all_goals
      refine le_of [(1, some 2), (2, some 4), (3, some 7)] rfl (by decide) rfl ?_ ?_
      all_goals simp (maxSteps := 1000000) (disch := omega) only [go_sem, ↓reduceIte, Nat.reduceEqDiff, Nat.reduceAdd, Nat.reduceMul, Nat.reduceSub, Nat.reduceMod, Nat.reduceLeDiff, Nat.reduceLT, Nat.reduceBEq, reduceCtorEq, Int.reduceLT, Int.reduceLE, Int.reduceToNat, Int.reduceEq, Int.reduceAdd]
      repeat' (refine And.intro ?_ ?_)
      all_goals first | rfl | omega | exact .inl rfl | trivial | skip
    all_goals rw [hgO]
    all_goals
      refine .inr fun a ha j hj => arr_push (fun j hj => ?_) a ha j hj
      have hivl : j = 0 ∨ j = 1 ∨ j = 2 ∨ j = 3 ∨ j = 4 ∨ j = 5 ∨ j = 6 ∨ j = 7 ∨ j = 8 ∨ j = 9 ∨ j = 10 ∨ j = 11 := by omega
      rcases hivl with rfl | rfl | rfl | rfl | rfl | rfl | rfl | rfl | rfl | rfl | rfl | rfl <;> rfl
  have h1 := berror_spec _ (gSmooth_len c)
  have h2 := berror_spec _ (growS_ok c r).2
  have hg := grow_law c r
  have he1 := smooth_error c
  have he2 := (growS_ok c r).1
  clear hs hm hop hmx
  repeat' (first | refine cw_assoc ?_ | refine cw_skips ?_ | refine cw_labels ?_ | ((first | refine cw_step (fun K hK => ?_) | refine cw_last (fun K hK => ?_) | refine cw_stepD (by decide +kernel) (by decide +kernel) (fun K hK => ?_) | refine cw_lastD (by decide +kernel) (by decide +kernel) (fun K hK => ?_) | refine rgB_some ?_ | refine call_a (h1) ?_ | refine gcall_a (fun hg => h1) ?_); (try simp (maxSteps := 1000000) (disch := omega) only [go_sem, ↓reduceIte, Nat.reduceEqDiff, Nat.reduceAdd, Nat.reduceMul, Nat.reduceSub, Nat.reduceMod, Nat.reduceLeDiff, Nat.reduceLT, Nat.reduceBEq, reduceCtorEq, Int.reduceLT, Int.reduceLE, Int.reduceToNat, Int.reduceEq, Int.reduceAdd]); (repeat' (refine And.intro ?_ ?_)); (all_goals first | (refine hK _ ?_; clear hK K) | exact auto_cl | skip)) | ((first | apply cw_ite | apply cw_iteN); (case hf => rfl); (case hc => simp (maxSteps := 1000000) (disch := omega) only [go_sem, ↓reduceIte, Nat.reduceEqDiff, Nat.reduceAdd, Nat.reduceMul, Nat.reduceSub, Nat.reduceMod, Nat.reduceLeDiff, Nat.reduceLT, Nat.reduceBEq, reduceCtorEq, Int.reduceLT, Int.reduceLE, Int.reduceToNat, Int.reduceEq, Int.reduceAdd]; rfl); (all_goals first | (intro hb; (try simp only [decide_eq_true_eq, decide_eq_false_iff_not, beq_iff_eq, beq_eq_false_iff_ne, bne_iff_ne, bne_eq_false_iff_eq, ne_eq, Bool.not_eq_true, Bool.not_eq_false, Bool.not_true, Bool.not_false, Bool.not_eq_eq_eq_not, Int.not_lt, Int.not_le, gt_iff_lt, ge_iff_le, Bool.cond_eq_ite, Bool.if_false_right, Bool.if_true_left, Bool.and_eq_true, Bool.or_eq_true, Bool.and_eq_false_imp, Bool.or_eq_false_iff, Decidable.not_not, beq_true, beq_false, iteT, iteF, cond_true, cond_false] at hb)) | skip)) | exact atN_intro | ((first | apply cw_if | apply cw_cond); (case hc => simp (maxSteps := 1000000) (disch := omega) only [go_sem, ↓reduceIte, Nat.reduceEqDiff, Nat.reduceAdd, Nat.reduceMul, Nat.reduceSub, Nat.reduceMod, Nat.reduceLeDiff, Nat.reduceLT, Nat.reduceBEq, reduceCtorEq, Int.reduceLT, Int.reduceLE, Int.reduceToNat, Int.reduceEq, Int.reduceAdd]; rfl); (all_goals (intro hb; (try simp only [decide_eq_true_eq, decide_eq_false_iff_not, beq_iff_eq, beq_eq_false_iff_ne, bne_iff_ne, bne_eq_false_iff_eq, ne_eq, Bool.not_eq_true, Bool.not_eq_false, Bool.not_true, Bool.not_false, Bool.not_eq_eq_eq_not, Int.not_lt, Int.not_le, gt_iff_lt, ge_iff_le, Bool.cond_eq_ite, Bool.if_false_right, Bool.if_true_left, Bool.and_eq_true, Bool.or_eq_true, Bool.and_eq_false_imp, Bool.or_eq_false_iff, Decidable.not_not, beq_true, beq_false, iteT, iteF, cond_true, cond_false] at hb); try (exfalso; omega)))) | (refine cw_blocks (fun KB hB => ?_)) | (refine cw_block ?_) | ((first | refine cw_exits ?_ | refine cw_exit ?_ | refine cw_skip ?_); simp (maxSteps := 1000000) (disch := omega) only [go_sem, ↓reduceIte, Nat.reduceEqDiff, Nat.reduceAdd, Nat.reduceMul, Nat.reduceSub, Nat.reduceMod, Nat.reduceLeDiff, Nat.reduceLT, Nat.reduceBEq, reduceCtorEq, Int.reduceLT, Int.reduceLE, Int.reduceToNat, Int.reduceEq, Int.reduceAdd]) | (refine hB _ ?_; clear hB KB) | (refine exit_by (S := Sg) (by assumption) ?_) | ((first | refine cw_rets ?_ | refine cw_ret ?_); simp (maxSteps := 1000000) (disch := omega) only [go_sem, ↓reduceIte, Nat.reduceEqDiff, Nat.reduceAdd, Nat.reduceMul, Nat.reduceSub, Nat.reduceMod, Nat.reduceLeDiff, Nat.reduceLT, Nat.reduceBEq, reduceCtorEq, Int.reduceLT, Int.reduceLE, Int.reduceToNat, Int.reduceEq, Int.reduceAdd]; (try clear hB KB); (try clear hK K)))
  refine call_lends ?_ ?_ (by simp (maxSteps := 1000000) (disch := omega) only [go_sem, ↓reduceIte, Nat.reduceEqDiff, Nat.reduceAdd, Nat.reduceMul, Nat.reduceSub, Nat.reduceMod, Nat.reduceLeDiff, Nat.reduceLT, Nat.reduceBEq, reduceCtorEq, Int.reduceLT, Int.reduceLE, Int.reduceToNat, Int.reduceEq, Int.reduceAdd]) ?_ (h2)
  try simp (maxSteps := 1000000) (disch := omega) only [go_sem, ↓reduceIte, Nat.reduceEqDiff, Nat.reduceAdd, Nat.reduceMul, Nat.reduceSub, Nat.reduceMod, Nat.reduceLeDiff, Nat.reduceLT, Nat.reduceBEq, reduceCtorEq, Int.reduceLT, Int.reduceLE, Int.reduceToNat, Int.reduceEq, Int.reduceAdd]
  try (refine hK _ ?_; clear hK K)
  · repeat' (first | refine cw_assoc ?_ | refine cw_skips ?_ | refine cw_labels ?_ | ((first | refine cw_step (fun K hK => ?_) | refine cw_last (fun K hK => ?_) | refine cw_stepD (by decide +kernel) (by decide +kernel) (fun K hK => ?_) | refine cw_lastD (by decide +kernel) (by decide +kernel) (fun K hK => ?_) | refine rgB_some ?_ | refine call_a (ha) ?_ | refine gcall_a (fun hg => ha) ?_); (try simp (maxSteps := 1000000) (disch := omega) only [go_sem, ↓reduceIte, Nat.reduceEqDiff, Nat.reduceAdd, Nat.reduceMul, Nat.reduceSub, Nat.reduceMod, Nat.reduceLeDiff, Nat.reduceLT, Nat.reduceBEq, reduceCtorEq, Int.reduceLT, Int.reduceLE, Int.reduceToNat, Int.reduceEq, Int.reduceAdd]); (repeat' (refine And.intro ?_ ?_)); (all_goals first | (refine hK _ ?_; clear hK K) | exact auto_cl | skip)) | ((first | apply cw_ite | apply cw_iteN); (case hf => rfl); (case hc => simp (maxSteps := 1000000) (disch := omega) only [go_sem, ↓reduceIte, Nat.reduceEqDiff, Nat.reduceAdd, Nat.reduceMul, Nat.reduceSub, Nat.reduceMod, Nat.reduceLeDiff, Nat.reduceLT, Nat.reduceBEq, reduceCtorEq, Int.reduceLT, Int.reduceLE, Int.reduceToNat, Int.reduceEq, Int.reduceAdd]; rfl); (all_goals first | (intro hb; (try simp only [decide_eq_true_eq, decide_eq_false_iff_not, beq_iff_eq, beq_eq_false_iff_ne, bne_iff_ne, bne_eq_false_iff_eq, ne_eq, Bool.not_eq_true, Bool.not_eq_false, Bool.not_true, Bool.not_false, Bool.not_eq_eq_eq_not, Int.not_lt, Int.not_le, gt_iff_lt, ge_iff_le, Bool.cond_eq_ite, Bool.if_false_right, Bool.if_true_left, Bool.and_eq_true, Bool.or_eq_true, Bool.and_eq_false_imp, Bool.or_eq_false_iff, Decidable.not_not, beq_true, beq_false, iteT, iteF, cond_true, cond_false] at hb)) | skip)) | exact atN_intro | ((first | apply cw_if | apply cw_cond); (case hc => simp (maxSteps := 1000000) (disch := omega) only [go_sem, ↓reduceIte, Nat.reduceEqDiff, Nat.reduceAdd, Nat.reduceMul, Nat.reduceSub, Nat.reduceMod, Nat.reduceLeDiff, Nat.reduceLT, Nat.reduceBEq, reduceCtorEq, Int.reduceLT, Int.reduceLE, Int.reduceToNat, Int.reduceEq, Int.reduceAdd]; rfl); (all_goals (intro hb; (try simp only [decide_eq_true_eq, decide_eq_false_iff_not, beq_iff_eq, beq_eq_false_iff_ne, bne_iff_ne, bne_eq_false_iff_eq, ne_eq, Bool.not_eq_true, Bool.not_eq_false, Bool.not_true, Bool.not_false, Bool.not_eq_eq_eq_not, Int.not_lt, Int.not_le, gt_iff_lt, ge_iff_le, Bool.cond_eq_ite, Bool.if_false_right, Bool.if_true_left, Bool.and_eq_true, Bool.or_eq_true, Bool.and_eq_false_imp, Bool.or_eq_false_iff, Decidable.not_not, beq_true, beq_false, iteT, iteF, cond_true, cond_false] at hb); try (exfalso; omega)))) | (refine cw_blocks (fun KB hB => ?_)) | (refine cw_block ?_) | ((first | refine cw_exits ?_ | refine cw_exit ?_ | refine cw_skip ?_); simp (maxSteps := 1000000) (disch := omega) only [go_sem, ↓reduceIte, Nat.reduceEqDiff, Nat.reduceAdd, Nat.reduceMul, Nat.reduceSub, Nat.reduceMod, Nat.reduceLeDiff, Nat.reduceLT, Nat.reduceBEq, reduceCtorEq, Int.reduceLT, Int.reduceLE, Int.reduceToNat, Int.reduceEq, Int.reduceAdd]) | (refine hB _ ?_; clear hB KB) | (refine exit_by (S := Sg) (by assumption) ?_) | ((first | refine cw_rets ?_ | refine cw_ret ?_); simp (maxSteps := 1000000) (disch := omega) only [go_sem, ↓reduceIte, Nat.reduceEqDiff, Nat.reduceAdd, Nat.reduceMul, Nat.reduceSub, Nat.reduceMod, Nat.reduceLeDiff, Nat.reduceLT, Nat.reduceBEq, reduceCtorEq, Int.reduceLT, Int.reduceLE, Int.reduceToNat, Int.reduceEq, Int.reduceAdd]; (try clear hB KB); (try clear hK K)))
    have s1 : (errorM (smoothM (gScript c))).2 = 0 := by rw [he1]
    have s2 : (errorM (growS c r)).2 = 0 := by rw [he2]
    have hb : (decide ((errorM (growS c r)).1 > (errorM (smoothM (gScript c))).1) || (errorM (smoothM (gScript c))).1 == 1099511627776 && (errorM (growS c r)).1 == (errorM (smoothM (gScript c))).1) = true := by
      simp only [Bool.or_eq_true, decide_eq_true_eq, Bool.and_eq_true, beq_iff_eq]
      exact hg
    rw [s1, s2, hb]
    rfl
  · refine ⟨bvle_agg ?_, trivial⟩
    simp (maxSteps := 1000000) (disch := omega) only [go_sem, ↓reduceIte, Nat.reduceEqDiff, Nat.reduceAdd, Nat.reduceMul, Nat.reduceSub, Nat.reduceMod, Nat.reduceLeDiff, Nat.reduceLT, Nat.reduceBEq, reduceCtorEq, Int.reduceLT, Int.reduceLE, Int.reduceToNat, Int.reduceEq, Int.reduceAdd, List.map_cons, List.map_nil, cleL_cons, cleL_nil]
    refine ⟨.inl rfl, .inl rfl, .inl rfl, .inl rfl, .inl rfl, .inl rfl, .inl rfl, .inl rfl, .inl rfl, .inl ?_⟩
    have e : (growS c r).ops.length = (smoothM (gScript c)).ops.length + 1 := by
      show ((smoothM (gScript c)).ops ++ [growO c r]).length = _
      simp
    rw [e]
    rfl
  exact flat2 _ _
end Go.Proofs.YtfjaojlbnjdmgaaDoor
