/- Part 6 of the proof: F27. -/
import Derived.Test.YtfjaojlbnjdmgaaDoorM0
import Derived.Test.YtfjaojlbnjdmgaaDoorM1
import Derived.Test.YtfjaojlbnjdmgaaDoorM2
import Derived.Test.YtfjaojlbnjdmgaaDoorM3
import Derived.Test.YtfjaojlbnjdmgaaDoorM4
import Derived.Test.YtfjaojlbnjdmgaaDoorM5
set_option linter.unusedSimpArgs false
set_option linter.unusedVariables false
set_option maxRecDepth 8000
set_option maxHeartbeats 8000000
namespace Go.Proofs.YtfjaojlbnjdmgaaDoor
open Go Go.SL
open Go.RowKit (wrap64)

def layOp (b : Int) (i : Nat) : Op := ⟨1, 0, i, 0, 0, 0, 0, maxOf b, 4, 1, false, false⟩
def layers (b : Int) (k : Nat) : List Op := (List.range k).map (layOp b)
def layS (c : Scene) (k : Nat) : Script := { gScript c with ops := layers (gScript c).bits k }
theorem layers_len {b : Int} {k : Nat} : (layers b k).length = k := by simp [layers]
theorem layers_succ {b : Int} {k : Nat} : layers b (k + 1) = layers b k ++ [layOp b k] := by simp [layers, List.range_succ]
theorem layOp_err {b : Int} {n i : Nat} (hn : 1 ≤ n) (hi : i ≤ 200) : opErr b n (layOp b i) [] = 0 := by
  rw [opErr_zero]
  refine ⟨(by show (1 : Int) ≤ 1 ∧ (1 : Int) ≤ 3; omega), rfl, fun h => absurd h (by show ¬ (1 : Int) = 3; decide), fun _ => ⟨?_, ?_, Int.le_refl _, rfl, rfl, fun _ => rfl, fun h => absurd h (by show ¬ (1 : Int) = 2; decide)⟩⟩
  · show ¬ ((1 : Int) = 1 ∧ ((0 : Int) < 0 ∨ (n : Int) ≤ 0) ∨ (0 : Int) < 0 ∨ (n : Int) < 0)
    omega
  · show withinM 1048576 [(i : Int), 0, 0, 0] = true
    simp [withinM]; omega
theorem layers_ok {b : Int} {n : Nat} (hn : 1 ≤ n) : ∀ k, k ≤ 200 → okAll b n (layers b k) [] ∧ openAfter (layers b k) [] = [] ∧ burnsM (layers b k) = false ∧ boundAll b (layers b k) = [⟨isoOp, k, 0⟩]
  | 0, _ => ⟨trivial, rfl, rfl, rfl⟩
  | k + 1, hk => by
    obtain ⟨h1, h2, h3, h4⟩ := layers_ok (b := b) hn k (by omega)
    rw [layers_succ]
    refine ⟨okAll_append.2 ⟨h1, by rw [h2]; exact layOp_err hn (by omega), trivial⟩, by rw [openAfter_append, h2]; rfl, ?_, ?_⟩
    · unfold burnsM at h3 ⊢
      rw [List.any_append, h3]; rfl
    · rw [boundAll, List.foldl_append]
      rw [boundAll] at h4
      rw [h4]
      show [paintM ⟨isoOp, k, 0⟩ (layOp b k) (qOf b (layOp b k) 0)] = _
      have hq : qOf b (layOp b k) 0 = 0 := by
        unfold qOf
        rw [if_pos (show (layOp b k).mask = 0 from rfl), if_pos (show (layOp b k).opacity = maxOf b from rfl)]; rfl
      have hB : lipB (layOp b k).operator (layOp b k).mode = 1 := by
        show lipB 4 1 = 1
        decide
      rw [hq, paintM, if_neg (by show ¬ (false = true); decide), hB]
      show [(⟨isoOp, min (_ * 0 + 1 * (k : Int) + 1) 1099511627776, 0⟩ : Lev)] = _
      have : min (lipA (layOp b k).operator (layOp b k).mode * 0 + 1 * (k : Int) + 1) 1099511627776 = ((k + 1 : Nat) : Int) := by omega
      rw [this]
theorem layS_error (c : Scene) {k : Nat} (hk : k ≤ 200) : errorM (layS c k) = ((k : Int), 0) := by
  have hi := gImages_le c
  obtain ⟨h1, h2, h3, h4⟩ := layers_ok (b := (gScript c).bits) (n := (gScript c).images.length) hi.1 k hk
  have hl : (layS c k).ops.length ≤ 4096 := by
    show (layers (gScript c).bits k).length ≤ 4096
    rw [layers_len]; omega
  have hf : frameM (layS c k) = 0 := gframe (s := c) (t := layS c k) rfl rfl rfl rfl rfl (gimages_len c) hl
  have ho : opsM (layS c k) = (0, 0) := opsM_ok hf h1 h2
  rw [errorM_ok ho h3]
  show (((boundAll (gScript c).bits (layers (gScript c).bits k)).getD 0 default).e, (0 : Int)) = _
  rw [h4]; rfl
theorem layS_len (c : Scene) {k : Nat} (hk : k ≤ 200) : ScriptLen (layS c k) := g_len c rfl (gimages_len c) (by
  show (layers (gScript c).bits k).length ≤ 4096
  rw [layers_len]; omega)

/-- P30.2, the second. -/
theorem layers_spec (c : Scene) (n : Int) (hc : SceneOk c) (hn : i64 n) : Pure Sg 5 [ag (sceneE c), I n] (fun r => r = .b (B true)) := by
  have ha := awake_spec
  have hs := gscript_spec c hc
  have hmx : Pure Sg 16 [I (gScript c).bits] (fun x => x = .tup [U (maxOf (gScript c).bits), B (decide ((gScript c).bits = 8 ∨ (gScript c).bits = 16))]) := r01max_spec _
  obtain ⟨n1, n2⟩ := hn
  have hk0 : 0 ≤ n % 200 ∧ n % 200 < 200 := by omega
  refine pure_of Tryd.func5 rfl (rs := [.tmp 4]) rfl rfl mixed (by decide +kernel) (Nat.le_of_ble_eq_true rfl) (argsLt_mem (by simp (maxSteps := 1000000) (disch := omega) only [go_sem, ↓reduceIte, Nat.reduceEqDiff, Nat.reduceAdd, Nat.reduceMul, Nat.reduceSub, Nat.reduceMod, Nat.reduceLeDiff, Nat.reduceLT, Nat.reduceBEq, reduceCtorEq, Int.reduceLT, Int.reduceLE, Int.reduceToNat, Int.reduceEq, Int.reduceAdd])) ?_
  repeat' (first | refine cw_assoc ?_ | refine cw_skips ?_ | refine cw_labels ?_ | ((first | refine cw_step (fun K hK => ?_) | refine cw_last (fun K hK => ?_) | refine cw_stepD (by decide +kernel) (by decide +kernel) (fun K hK => ?_) | refine cw_lastD (by decide +kernel) (by decide +kernel) (fun K hK => ?_) | refine rgB_some ?_ | refine call_a (hs) ?_ | refine gcall_a (fun hg => hs) ?_ | refine call_a (hmx) ?_ | refine gcall_a (fun hg => hmx) ?_ | refine call_a (modp_spec _ _ (by omega) (by omega)) ?_ | refine gcall_a (fun hg => modp_spec _ _ (by omega) (by omega)) ?_); (try simp (maxSteps := 1000000) (disch := omega) only [go_sem, ↓reduceIte, Nat.reduceEqDiff, Nat.reduceAdd, Nat.reduceMul, Nat.reduceSub, Nat.reduceMod, Nat.reduceLeDiff, Nat.reduceLT, Nat.reduceBEq, reduceCtorEq, Int.reduceLT, Int.reduceLE, Int.reduceToNat, Int.reduceEq, Int.reduceAdd]); (repeat' (refine And.intro ?_ ?_)); (all_goals first | (refine hK _ ?_; clear hK K) | exact auto_cl | skip)) | ((first | apply cw_ite | apply cw_iteN); (case hf => rfl); (case hc => simp (maxSteps := 1000000) (disch := omega) only [go_sem, ↓reduceIte, Nat.reduceEqDiff, Nat.reduceAdd, Nat.reduceMul, Nat.reduceSub, Nat.reduceMod, Nat.reduceLeDiff, Nat.reduceLT, Nat.reduceBEq, reduceCtorEq, Int.reduceLT, Int.reduceLE, Int.reduceToNat, Int.reduceEq, Int.reduceAdd]; rfl); (all_goals first | (intro hb; (try simp only [decide_eq_true_eq, decide_eq_false_iff_not, beq_iff_eq, beq_eq_false_iff_ne, bne_iff_ne, bne_eq_false_iff_eq, ne_eq, Bool.not_eq_true, Bool.not_eq_false, Bool.not_true, Bool.not_false, Bool.not_eq_eq_eq_not, Int.not_lt, Int.not_le, gt_iff_lt, ge_iff_le, Bool.cond_eq_ite, Bool.if_false_right, Bool.if_true_left, Bool.and_eq_true, Bool.or_eq_true, Bool.and_eq_false_imp, Bool.or_eq_false_iff, Decidable.not_not, beq_true, beq_false, iteT, iteF, cond_true, cond_false] at hb)) | skip)) | exact atN_intro | ((first | apply cw_if | apply cw_cond); (case hc => simp (maxSteps := 1000000) (disch := omega) only [go_sem, ↓reduceIte, Nat.reduceEqDiff, Nat.reduceAdd, Nat.reduceMul, Nat.reduceSub, Nat.reduceMod, Nat.reduceLeDiff, Nat.reduceLT, Nat.reduceBEq, reduceCtorEq, Int.reduceLT, Int.reduceLE, Int.reduceToNat, Int.reduceEq, Int.reduceAdd]; rfl); (all_goals (intro hb; (try simp only [decide_eq_true_eq, decide_eq_false_iff_not, beq_iff_eq, beq_eq_false_iff_ne, bne_iff_ne, bne_eq_false_iff_eq, ne_eq, Bool.not_eq_true, Bool.not_eq_false, Bool.not_true, Bool.not_false, Bool.not_eq_eq_eq_not, Int.not_lt, Int.not_le, gt_iff_lt, ge_iff_le, Bool.cond_eq_ite, Bool.if_false_right, Bool.if_true_left, Bool.and_eq_true, Bool.or_eq_true, Bool.and_eq_false_imp, Bool.or_eq_false_iff, Decidable.not_not, beq_true, beq_false, iteT, iteF, cond_true, cond_false] at hb); try (exfalso; omega)))) | (refine cw_blocks (fun KB hB => ?_)) | (refine cw_block ?_) | ((first | refine cw_exits ?_ | refine cw_exit ?_ | refine cw_skip ?_); simp (maxSteps := 1000000) (disch := omega) only [go_sem, ↓reduceIte, Nat.reduceEqDiff, Nat.reduceAdd, Nat.reduceMul, Nat.reduceSub, Nat.reduceMod, Nat.reduceLeDiff, Nat.reduceLT, Nat.reduceBEq, reduceCtorEq, Int.reduceLT, Int.reduceLE, Int.reduceToNat, Int.reduceEq, Int.reduceAdd]) | (refine hB _ ?_; clear hB KB) | (refine exit_by (S := Sg) (by assumption) ?_) | ((first | refine cw_rets ?_ | refine cw_ret ?_); simp (maxSteps := 1000000) (disch := omega) only [go_sem, ↓reduceIte, Nat.reduceEqDiff, Nat.reduceAdd, Nat.reduceMul, Nat.reduceSub, Nat.reduceMod, Nat.reduceLeDiff, Nat.reduceLT, Nat.reduceBEq, reduceCtorEq, Int.reduceLT, Int.reduceLE, Int.reduceToNat, Int.reduceEq, Int.reduceAdd]; (try clear hB KB); (try clear hK K)))
  refine cw_loop (X := Nat) (fun i => mkSt [(5, .b (.c (.ptr 1 0))), (6, .b (U (maxOf (gScript c).bits))), (8, .b (I (n % 200))), (9, .b (I i))]
    [(0, .fix ((sceneE c).map CV.p)), (1, .fix (((scriptE (gScript c)).map CV.p).take 9 ++ [.own 2 i])), (2, .arr 34 12 i (fnOf opE (layers (gScript c).bits i)))] 3) (fun i => (i : Int) ≤ n % 200) (fun i => (n % 200).toNat - i) 0 ?_ ?_ ?_
  · omega
  · refine le_of [(1, some 1), (2, none)] rfl (by decide) rfl ?_ ?_
    all_goals simp (maxSteps := 1000000) (disch := omega) only [go_sem, ↓reduceIte, Nat.reduceEqDiff, Nat.reduceAdd, Nat.reduceMul, Nat.reduceSub, Nat.reduceMod, Nat.reduceLeDiff, Nat.reduceLT, Nat.reduceBEq, reduceCtorEq, Int.reduceLT, Int.reduceLE, Int.reduceToNat, Int.reduceEq, Int.reduceAdd]
    repeat' (refine And.intro ?_ ?_)
    all_goals first | rfl | omega | exact .inl rfl | trivial | skip
  · intro i hi
    repeat' (first | refine cw_assoc ?_ | refine cw_skips ?_ | refine cw_labels ?_ | ((first | refine cw_step (fun K hK => ?_) | refine cw_last (fun K hK => ?_) | refine cw_stepD (by decide +kernel) (by decide +kernel) (fun K hK => ?_) | refine cw_lastD (by decide +kernel) (by decide +kernel) (fun K hK => ?_) | refine rgB_some ?_); (try simp (maxSteps := 1000000) (disch := omega) only [go_sem, ↓reduceIte, Nat.reduceEqDiff, Nat.reduceAdd, Nat.reduceMul, Nat.reduceSub, Nat.reduceMod, Nat.reduceLeDiff, Nat.reduceLT, Nat.reduceBEq, reduceCtorEq, Int.reduceLT, Int.reduceLE, Int.reduceToNat, Int.reduceEq, Int.reduceAdd]); (repeat' (refine And.intro ?_ ?_)); (all_goals first | (refine hK _ ?_; clear hK K) | exact auto_cl | skip)) | ((first | apply cw_ite | apply cw_iteN); (case hf => rfl); (case hc => simp (maxSteps := 1000000) (disch := omega) only [go_sem, ↓reduceIte, Nat.reduceEqDiff, Nat.reduceAdd, Nat.reduceMul, Nat.reduceSub, Nat.reduceMod, Nat.reduceLeDiff, Nat.reduceLT, Nat.reduceBEq, reduceCtorEq, Int.reduceLT, Int.reduceLE, Int.reduceToNat, Int.reduceEq, Int.reduceAdd]; rfl); (all_goals first | (intro hb; (try simp only [decide_eq_true_eq, decide_eq_false_iff_not, beq_iff_eq, beq_eq_false_iff_ne, bne_iff_ne, bne_eq_false_iff_eq, ne_eq, Bool.not_eq_true, Bool.not_eq_false, Bool.not_true, Bool.not_false, Bool.not_eq_eq_eq_not, Int.not_lt, Int.not_le, gt_iff_lt, ge_iff_le, Bool.cond_eq_ite, Bool.if_false_right, Bool.if_true_left, Bool.and_eq_true, Bool.or_eq_true, Bool.and_eq_false_imp, Bool.or_eq_false_iff, Decidable.not_not, beq_true, beq_false, iteT, iteF, cond_true, cond_false] at hb)) | skip)) | exact atN_intro | ((first | apply cw_if | apply cw_cond); (case hc => simp (maxSteps := 1000000) (disch := omega) only [go_sem, ↓reduceIte, Nat.reduceEqDiff, Nat.reduceAdd, Nat.reduceMul, Nat.reduceSub, Nat.reduceMod, Nat.reduceLeDiff, Nat.reduceLT, Nat.reduceBEq, reduceCtorEq, Int.reduceLT, Int.reduceLE, Int.reduceToNat, Int.reduceEq, Int.reduceAdd]; rfl); (all_goals (intro hb; (try simp only [decide_eq_true_eq, decide_eq_false_iff_not, beq_iff_eq, beq_eq_false_iff_ne, bne_iff_ne, bne_eq_false_iff_eq, ne_eq, Bool.not_eq_true, Bool.not_eq_false, Bool.not_true, Bool.not_false, Bool.not_eq_eq_eq_not, Int.not_lt, Int.not_le, gt_iff_lt, ge_iff_le, Bool.cond_eq_ite, Bool.if_false_right, Bool.if_true_left, Bool.and_eq_true, Bool.or_eq_true, Bool.and_eq_false_imp, Bool.or_eq_false_iff, Decidable.not_not, beq_true, beq_false, iteT, iteF, cond_true, cond_false] at hb); try (exfalso; omega)))) | (refine cw_blocks (fun KB hB => ?_)) | (refine cw_block ?_) | ((first | refine cw_exits ?_ | refine cw_exit ?_ | refine cw_skip ?_); simp (maxSteps := 1000000) (disch := omega) only [go_sem, ↓reduceIte, Nat.reduceEqDiff, Nat.reduceAdd, Nat.reduceMul, Nat.reduceSub, Nat.reduceMod, Nat.reduceLeDiff, Nat.reduceLT, Nat.reduceBEq, reduceCtorEq, Int.reduceLT, Int.reduceLE, Int.reduceToNat, Int.reduceEq, Int.reduceAdd]) | (refine hB _ ?_; clear hB KB) | (refine exit_by (S := Sg) (by assumption) ?_) | ((first | refine cw_rets ?_ | refine cw_ret ?_); simp (maxSteps := 1000000) (disch := omega) only [go_sem, ↓reduceIte, Nat.reduceEqDiff, Nat.reduceAdd, Nat.reduceMul, Nat.reduceSub, Nat.reduceMod, Nat.reduceLeDiff, Nat.reduceLT, Nat.reduceBEq, reduceCtorEq, Int.reduceLT, Int.reduceLE, Int.reduceToNat, Int.reduceEq, Int.reduceAdd]; (try clear hB KB); (try clear hK K)))
    · rw [thenQ_normal]
      refine wk_loop (i + 1) ?_ (by omega) (by omega)
      refine le_of [(1, some 1), (2, some 4)] rfl (by decide) rfl ?_ ?_
      all_goals simp (maxSteps := 1000000) (disch := omega) only [go_sem, ↓reduceIte, Nat.reduceEqDiff, Nat.reduceAdd, Nat.reduceMul, Nat.reduceSub, Nat.reduceMod, Nat.reduceLeDiff, Nat.reduceLT, Nat.reduceBEq, reduceCtorEq, Int.reduceLT, Int.reduceLE, Int.reduceToNat, Int.reduceEq, Int.reduceAdd]
      repeat' (refine And.intro ?_ ?_)
      all_goals first | rfl | omega | exact .inl rfl | trivial | skip
      have key := fun g hg => arr_push (enc := opE) (xs := layers (gScript c).bits i) (x := layOp (gScript c).bits i) (s := 12) (g := g) hg
      simp only [layers_len, ← layers_succ] at key
      refine .inr (key _ fun j hj => ?_)
      have hivl : j = 0 ∨ j = 1 ∨ j = 2 ∨ j = 3 ∨ j = 4 ∨ j = 5 ∨ j = 6 ∨ j = 7 ∨ j = 8 ∨ j = 9 ∨ j = 10 ∨ j = 11 := by omega
      rcases hivl with rfl | rfl | rfl | rfl | rfl | rfl | rfl | rfl | rfl | rfl | rfl | rfl <;> rfl
    · have hki : (i : Int) = n % 200 := by omega
      have he := berror_spec _ (layS_len c (k := i) (by omega))
      rw [layS_error c (by omega)] at he
      refine call_lends ?_ ?_ (by simp (maxSteps := 1000000) (disch := omega) only [go_sem, ↓reduceIte, Nat.reduceEqDiff, Nat.reduceAdd, Nat.reduceMul, Nat.reduceSub, Nat.reduceMod, Nat.reduceLeDiff, Nat.reduceLT, Nat.reduceBEq, reduceCtorEq, Int.reduceLT, Int.reduceLE, Int.reduceToNat, Int.reduceEq, Int.reduceAdd]) ?_ (he)
      try simp (maxSteps := 1000000) (disch := omega) only [go_sem, ↓reduceIte, Nat.reduceEqDiff, Nat.reduceAdd, Nat.reduceMul, Nat.reduceSub, Nat.reduceMod, Nat.reduceLeDiff, Nat.reduceLT, Nat.reduceBEq, reduceCtorEq, Int.reduceLT, Int.reduceLE, Int.reduceToNat, Int.reduceEq, Int.reduceAdd]
      try (refine hK _ ?_; clear hK K)
      · repeat' (first | refine cw_assoc ?_ | refine cw_skips ?_ | refine cw_labels ?_ | ((first | refine cw_step (fun K hK => ?_) | refine cw_last (fun K hK => ?_) | refine cw_stepD (by decide +kernel) (by decide +kernel) (fun K hK => ?_) | refine cw_lastD (by decide +kernel) (by decide +kernel) (fun K hK => ?_) | refine rgB_some ?_ | refine call_a (ha) ?_ | refine gcall_a (fun hg => ha) ?_); (try simp (maxSteps := 1000000) (disch := omega) only [go_sem, ↓reduceIte, Nat.reduceEqDiff, Nat.reduceAdd, Nat.reduceMul, Nat.reduceSub, Nat.reduceMod, Nat.reduceLeDiff, Nat.reduceLT, Nat.reduceBEq, reduceCtorEq, Int.reduceLT, Int.reduceLE, Int.reduceToNat, Int.reduceEq, Int.reduceAdd]); (repeat' (refine And.intro ?_ ?_)); (all_goals first | (refine hK _ ?_; clear hK K) | exact auto_cl | skip)) | ((first | apply cw_ite | apply cw_iteN); (case hf => rfl); (case hc => simp (maxSteps := 1000000) (disch := omega) only [go_sem, ↓reduceIte, Nat.reduceEqDiff, Nat.reduceAdd, Nat.reduceMul, Nat.reduceSub, Nat.reduceMod, Nat.reduceLeDiff, Nat.reduceLT, Nat.reduceBEq, reduceCtorEq, Int.reduceLT, Int.reduceLE, Int.reduceToNat, Int.reduceEq, Int.reduceAdd]; rfl); (all_goals first | (intro hb; (try simp only [decide_eq_true_eq, decide_eq_false_iff_not, beq_iff_eq, beq_eq_false_iff_ne, bne_iff_ne, bne_eq_false_iff_eq, ne_eq, Bool.not_eq_true, Bool.not_eq_false, Bool.not_true, Bool.not_false, Bool.not_eq_eq_eq_not, Int.not_lt, Int.not_le, gt_iff_lt, ge_iff_le, Bool.cond_eq_ite, Bool.if_false_right, Bool.if_true_left, Bool.and_eq_true, Bool.or_eq_true, Bool.and_eq_false_imp, Bool.or_eq_false_iff, Decidable.not_not, beq_true, beq_false, iteT, iteF, cond_true, cond_false] at hb)) | skip)) | exact atN_intro | ((first | apply cw_if | apply cw_cond); (case hc => simp (maxSteps := 1000000) (disch := omega) only [go_sem, ↓reduceIte, Nat.reduceEqDiff, Nat.reduceAdd, Nat.reduceMul, Nat.reduceSub, Nat.reduceMod, Nat.reduceLeDiff, Nat.reduceLT, Nat.reduceBEq, reduceCtorEq, Int.reduceLT, Int.reduceLE, Int.reduceToNat, Int.reduceEq, Int.reduceAdd]; rfl); (all_goals (intro hb; (try simp only [decide_eq_true_eq, decide_eq_false_iff_not, beq_iff_eq, beq_eq_false_iff_ne, bne_iff_ne, bne_eq_false_iff_eq, ne_eq, Bool.not_eq_true, Bool.not_eq_false, Bool.not_true, Bool.not_false, Bool.not_eq_eq_eq_not, Int.not_lt, Int.not_le, gt_iff_lt, ge_iff_le, Bool.cond_eq_ite, Bool.if_false_right, Bool.if_true_left, Bool.and_eq_true, Bool.or_eq_true, Bool.and_eq_false_imp, Bool.or_eq_false_iff, Decidable.not_not, beq_true, beq_false, iteT, iteF, cond_true, cond_false] at hb); try (exfalso; omega)))) | (refine cw_blocks (fun KB hB => ?_)) | (refine cw_block ?_) | ((first | refine cw_exits ?_ | refine cw_exit ?_ | refine cw_skip ?_); simp (maxSteps := 1000000) (disch := omega) only [go_sem, ↓reduceIte, Nat.reduceEqDiff, Nat.reduceAdd, Nat.reduceMul, Nat.reduceSub, Nat.reduceMod, Nat.reduceLeDiff, Nat.reduceLT, Nat.reduceBEq, reduceCtorEq, Int.reduceLT, Int.reduceLE, Int.reduceToNat, Int.reduceEq, Int.reduceAdd]) | (refine hB _ ?_; clear hB KB) | (refine exit_by (S := Sg) (by assumption) ?_) | ((first | refine cw_rets ?_ | refine cw_ret ?_); simp (maxSteps := 1000000) (disch := omega) only [go_sem, ↓reduceIte, Nat.reduceEqDiff, Nat.reduceAdd, Nat.reduceMul, Nat.reduceSub, Nat.reduceMod, Nat.reduceLeDiff, Nat.reduceLT, Nat.reduceBEq, reduceCtorEq, Int.reduceLT, Int.reduceLE, Int.reduceToNat, Int.reduceEq, Int.reduceAdd]; (try clear hB KB); (try clear hK K)))
        rw [hki]
        simp only [beq_self_eq_true, Bool.and_self]
      · refine ⟨bvle_agg ?_, trivial⟩
        simp (maxSteps := 1000000) (disch := omega) only [go_sem, ↓reduceIte, Nat.reduceEqDiff, Nat.reduceAdd, Nat.reduceMul, Nat.reduceSub, Nat.reduceMod, Nat.reduceLeDiff, Nat.reduceLT, Nat.reduceBEq, reduceCtorEq, Int.reduceLT, Int.reduceLE, Int.reduceToNat, Int.reduceEq, Int.reduceAdd, List.map_cons, List.map_nil, cleL_cons, cleL_nil]
        refine ⟨.inl rfl, .inl rfl, .inl rfl, .inl rfl, .inl rfl, .inl rfl, .inl rfl, .inl rfl, .inl rfl, .inl ?_⟩
        have e : (layS c i).ops.length = i := layers_len
        rw [e]
        rfl
      exact flat2 _ _
end Go.Proofs.YtfjaojlbnjdmgaaDoor
