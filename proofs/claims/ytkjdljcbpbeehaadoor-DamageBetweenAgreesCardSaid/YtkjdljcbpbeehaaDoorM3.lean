/- Part 3 of the proof: F7, F8, F9, F14, F15, F16, F17. -/
import Derived.Test.YtkjdljcbpbeehaaDoorM0
import Derived.Test.YtkjdljcbpbeehaaDoorM1
import Derived.Test.YtkjdljcbpbeehaaDoorM2
set_option linter.unusedSimpArgs false
set_option linter.unusedVariables false
set_option maxRecDepth 8000
set_option maxHeartbeats 1000000
namespace Go.Proofs.YtkjdljcbpbeehaaDoor
open Go Go.SL
open Go.RowKit (wrap64)

def withinM (k : Int) (l : List Int) : Bool := l.all fun v => decide (-k ≤ v ∧ v ≤ k)
theorem within_spec (k : Int) (l : List Int) (hk : 0 ≤ k) (hk2 : k ≤ 9223372036854775807) (hl : l.length ≤ 4611686018427387904) : Pure Sg 112 [I k, .c (.p (ints l))] (fun x => x = .b (B (withinM k l))) := by
  refine pure_of Tryd.func112 rfl (rs := [.tmp 4]) rfl rfl mixed (by decide +kernel) (Nat.le_of_ble_eq_true rfl) (argsLt_mem (by simp (maxSteps := 1000000) (disch := omega) only [go_sem])) ?_
  repeat' (first | refine cw_assoc ?_ | refine cw_skips ?_ | refine cw_labels ?_ | ((first | refine cw_step (fun K hK => ?_) | refine cw_last (fun K hK => ?_) | refine cw_stepD (by decide +kernel) (by decide +kernel) (fun K hK => ?_) | refine cw_lastD (by decide +kernel) (by decide +kernel) (fun K hK => ?_) | refine rgB_some ?_); (try simp (maxSteps := 1000000) (disch := omega) only [go_sem]); (repeat' (refine And.intro ?_ ?_)); (all_goals first | (refine hK _ ?_; clear hK K) | exact auto_cl | skip)) | ((first | apply cw_ite | apply cw_iteN); (case hf => rfl); (case hc => simp (maxSteps := 1000000) (disch := omega) only [go_sem]; rfl); (all_goals first | (intro hb; (try simp only [decide_eq_true_eq, decide_eq_false_iff_not, beq_iff_eq, beq_eq_false_iff_ne, bne_iff_ne, bne_eq_false_iff_eq, ne_eq, Bool.not_eq_true, Bool.not_eq_false, Bool.not_true, Bool.not_false, Bool.not_eq_eq_eq_not, Int.not_lt, Int.not_le, gt_iff_lt, ge_iff_le, Bool.cond_eq_ite, Bool.if_false_right, Bool.if_true_left, Bool.and_eq_true, Bool.or_eq_true, Bool.and_eq_false_imp, Bool.or_eq_false_iff, Decidable.not_not, beq_true, beq_false, iteT, iteF, cond_true, cond_false] at hb)) | skip)) | exact atN_intro | ((first | apply cw_if | apply cw_cond); (case hc => simp (maxSteps := 1000000) (disch := omega) only [go_sem]; rfl); (all_goals (intro hb; (try simp only [decide_eq_true_eq, decide_eq_false_iff_not, beq_iff_eq, beq_eq_false_iff_ne, bne_iff_ne, bne_eq_false_iff_eq, ne_eq, Bool.not_eq_true, Bool.not_eq_false, Bool.not_true, Bool.not_false, Bool.not_eq_eq_eq_not, Int.not_lt, Int.not_le, gt_iff_lt, ge_iff_le, Bool.cond_eq_ite, Bool.if_false_right, Bool.if_true_left, Bool.and_eq_true, Bool.or_eq_true, Bool.and_eq_false_imp, Bool.or_eq_false_iff, Decidable.not_not, beq_true, beq_false, iteT, iteF, cond_true, cond_false] at hb); try (exfalso; omega)))) | (refine cw_blocks (fun KB hB => ?_)) | (refine cw_block ?_) | ((first | refine cw_exits ?_ | refine cw_exit ?_ | refine cw_skip ?_); simp (maxSteps := 1000000) (disch := omega) only [go_sem]) | (refine hB _ ?_; clear hB KB) | (refine exit_by (S := Sg) (by assumption) ?_) | ((first | refine cw_rets ?_ | refine cw_ret ?_); simp (maxSteps := 1000000) (disch := omega) only [go_sem]; (try clear hB KB); (try clear hK K)))
  refine cw_loop (X := Nat) (fun i => mkSt [(0, .b (I k)), (7, .b (.c (.p (ints l)))), (8, .b (I l.length)), (9, .b (I i))] [] 1) (fun i => i ≤ l.length ∧ (l.take i).all (fun v => decide (-k ≤ v ∧ v ≤ k)) = true) (fun i => l.length - i) 0 ?_ ?_ ?_
  · exact ⟨by omega, rfl⟩
  · refine le_of [] rfl (by decide) rfl ?_ ?_
    all_goals simp (maxSteps := 1000000) (disch := omega) only [go_sem]
    repeat' (refine And.intro ?_ ?_)
    all_goals first | rfl | omega | exact .inl rfl | trivial | skip
  · rintro i ⟨hi, ht⟩
    repeat' (first | refine cw_assoc ?_ | refine cw_skips ?_ | refine cw_labels ?_ | ((first | refine cw_step (fun K hK => ?_) | refine cw_last (fun K hK => ?_) | refine cw_stepD (by decide +kernel) (by decide +kernel) (fun K hK => ?_) | refine cw_lastD (by decide +kernel) (by decide +kernel) (fun K hK => ?_) | refine rgB_some ?_); (try simp (maxSteps := 1000000) (disch := omega) only [go_sem]); (repeat' (refine And.intro ?_ ?_)); (all_goals first | (refine hK _ ?_; clear hK K) | exact auto_cl | skip)) | ((first | apply cw_ite | apply cw_iteN); (case hf => rfl); (case hc => simp (maxSteps := 1000000) (disch := omega) only [go_sem]; rfl); (all_goals first | (intro hb; (try simp only [decide_eq_true_eq, decide_eq_false_iff_not, beq_iff_eq, beq_eq_false_iff_ne, bne_iff_ne, bne_eq_false_iff_eq, ne_eq, Bool.not_eq_true, Bool.not_eq_false, Bool.not_true, Bool.not_false, Bool.not_eq_eq_eq_not, Int.not_lt, Int.not_le, gt_iff_lt, ge_iff_le, Bool.cond_eq_ite, Bool.if_false_right, Bool.if_true_left, Bool.and_eq_true, Bool.or_eq_true, Bool.and_eq_false_imp, Bool.or_eq_false_iff, Decidable.not_not, beq_true, beq_false, iteT, iteF, cond_true, cond_false] at hb)) | skip)) | exact atN_intro | ((first | apply cw_if | apply cw_cond); (case hc => simp (maxSteps := 1000000) (disch := omega) only [go_sem]; rfl); (all_goals (intro hb; (try simp only [decide_eq_true_eq, decide_eq_false_iff_not, beq_iff_eq, beq_eq_false_iff_ne, bne_iff_ne, bne_eq_false_iff_eq, ne_eq, Bool.not_eq_true, Bool.not_eq_false, Bool.not_true, Bool.not_false, Bool.not_eq_eq_eq_not, Int.not_lt, Int.not_le, gt_iff_lt, ge_iff_le, Bool.cond_eq_ite, Bool.if_false_right, Bool.if_true_left, Bool.and_eq_true, Bool.or_eq_true, Bool.and_eq_false_imp, Bool.or_eq_false_iff, Decidable.not_not, beq_true, beq_false, iteT, iteF, cond_true, cond_false] at hb); try (exfalso; omega)))) | (refine cw_blocks (fun KB hB => ?_)) | (refine cw_block ?_) | ((first | refine cw_exits ?_ | refine cw_exit ?_ | refine cw_skip ?_); simp (maxSteps := 1000000) (disch := omega) only [go_sem]) | (refine hB _ ?_; clear hB KB) | (refine exit_by (S := Sg) (by assumption) ?_) | ((first | refine cw_rets ?_ | refine cw_ret ?_); simp (maxSteps := 1000000) (disch := omega) only [go_sem]; (try clear hB KB); (try clear hK K)))
    · have : withinM k l = false := by
        rw [withinM, List.all_eq_false]
        refine ⟨l.getD i default, ?_, ?_⟩
        · rw [List.getD_eq_getElem?_getD, List.getElem?_eq_getElem (by omega)]; exact List.getElem_mem _
        · simp only [decide_eq_true_eq]; simp only [Int.toNat_natCast] at hb; omega
      rw [this]
    · rw [thenQ_normal]
      refine wk_loop (i + 1) ?_ ⟨by omega, ?_⟩ (by omega)
      · refine le_of [] rfl (by decide) rfl ?_ ?_
        all_goals simp (maxSteps := 1000000) (disch := omega) only [go_sem]
        repeat' (refine And.intro ?_ ?_)
        all_goals first | rfl | omega | exact .inl rfl | trivial | skip
      · rw [List.take_add_one, List.all_append, ht, List.getElem?_eq_getElem (by omega)]
        simp only [Int.toNat_natCast, List.getD_eq_getElem?_getD, List.getElem?_eq_getElem (show i < l.length by omega), Option.getD_some] at hb
        simp only [Option.toList_some, List.all_cons, List.all_nil, Bool.and_true, Bool.true_and, decide_eq_true_eq]
        omega
    · have : withinM k l = true := by
        rw [withinM]
        rwa [List.take_of_length_le (by omega)] at ht
      rw [this]
theorem rvalid_spec (r : Rect) : Pure Sg 100 [ag (rectE r)] (fun x => x = .b (B (validR r))) := by
  refine pure_of Tryd.func100 rfl (rs := [.tmp 2]) rfl rfl mixed (by decide +kernel) (Nat.le_of_ble_eq_true rfl) (argsLt_mem (by simp (maxSteps := 1000000) (disch := omega) only [go_sem])) ?_
  repeat' (first | refine cw_assoc ?_ | refine cw_skips ?_ | refine cw_labels ?_ | ((first | refine cw_step (fun K hK => ?_) | refine cw_last (fun K hK => ?_) | refine cw_stepD (by decide +kernel) (by decide +kernel) (fun K hK => ?_) | refine cw_lastD (by decide +kernel) (by decide +kernel) (fun K hK => ?_) | refine rgB_some ?_); (try simp (maxSteps := 1000000) (disch := omega) only [go_sem]); (repeat' (refine And.intro ?_ ?_)); (all_goals first | (refine hK _ ?_; clear hK K) | exact auto_cl | skip)) | ((first | apply cw_ite | apply cw_iteN); (case hf => rfl); (case hc => simp (maxSteps := 1000000) (disch := omega) only [go_sem]; rfl); (all_goals first | (intro hb; (try simp only [decide_eq_true_eq, decide_eq_false_iff_not, beq_iff_eq, beq_eq_false_iff_ne, bne_iff_ne, bne_eq_false_iff_eq, ne_eq, Bool.not_eq_true, Bool.not_eq_false, Bool.not_true, Bool.not_false, Bool.not_eq_eq_eq_not, Int.not_lt, Int.not_le, gt_iff_lt, ge_iff_le, Bool.cond_eq_ite, Bool.if_false_right, Bool.if_true_left, Bool.and_eq_true, Bool.or_eq_true, Bool.and_eq_false_imp, Bool.or_eq_false_iff, Decidable.not_not, beq_true, beq_false, iteT, iteF, cond_true, cond_false] at hb)) | skip)) | exact atN_intro | ((first | apply cw_if | apply cw_cond); (case hc => simp (maxSteps := 1000000) (disch := omega) only [go_sem]; rfl); (all_goals (intro hb; (try simp only [decide_eq_true_eq, decide_eq_false_iff_not, beq_iff_eq, beq_eq_false_iff_ne, bne_iff_ne, bne_eq_false_iff_eq, ne_eq, Bool.not_eq_true, Bool.not_eq_false, Bool.not_true, Bool.not_false, Bool.not_eq_eq_eq_not, Int.not_lt, Int.not_le, gt_iff_lt, ge_iff_le, Bool.cond_eq_ite, Bool.if_false_right, Bool.if_true_left, Bool.and_eq_true, Bool.or_eq_true, Bool.and_eq_false_imp, Bool.or_eq_false_iff, Decidable.not_not, beq_true, beq_false, iteT, iteF, cond_true, cond_false] at hb); try (exfalso; omega)))) | (refine cw_blocks (fun KB hB => ?_)) | (refine cw_block ?_) | ((first | refine cw_exits ?_ | refine cw_exit ?_ | refine cw_skip ?_); simp (maxSteps := 1000000) (disch := omega) only [go_sem]) | (refine hB _ ?_; clear hB KB) | (refine exit_by (S := Sg) (by assumption) ?_) | ((first | refine cw_rets ?_ | refine cw_ret ?_); simp (maxSteps := 1000000) (disch := omega) only [go_sem]; (try clear hB KB); (try clear hK K)))
  refine call_lends ?_ ?_ (by simp (maxSteps := 1000000) (disch := omega) only [go_sem]) ?_ (within_spec 1073741824 [r.x0, r.y0, r.x1, r.y1] (by omega) (by omega) (by simp))
  try simp (maxSteps := 1000000) (disch := omega) only [go_sem]
  try (refine hK _ ?_; clear hK K)
  · first | refine cw_rets ?_ | refine cw_ret ?_
    simp (maxSteps := 1000000) (disch := omega) only [go_sem]
    refine bool_eq ?_
    simp only [withinM, validR, List.all_cons, List.all_nil, Bool.and_true, Bool.and_eq_true, decide_eq_true_eq]
    omega
  · simp (maxSteps := 1000000) (disch := omega) only [go_sem, argsLe_cons, argsLe_nil]
    refine ⟨bvle_refl, bvle_p (lst_le fun i hi j hj => ?_)⟩
    have h1 : i = 0 ∨ i = 1 ∨ i = 2 ∨ i = 3 := by omega
    have h2 : j = 0 := by omega
    subst h2
    rcases h1 with rfl | rfl | rfl | rfl <;> rfl
  · trivial
theorem rempty_spec (r : Rect) : Pure Sg 57 [ag (rectE r)] (fun x => x = .b (B (emptyR r))) := by
  refine pure_of Tryd.func57 rfl (rs := [.tmp 2]) rfl rfl mixed (by decide +kernel) (Nat.le_of_ble_eq_true rfl) (argsLt_mem (by simp (maxSteps := 1000000) (disch := omega) only [go_sem])) ?_
  repeat' (first | refine cw_assoc ?_ | refine cw_skips ?_ | refine cw_labels ?_ | ((first | refine cw_step (fun K hK => ?_) | refine cw_last (fun K hK => ?_) | refine cw_stepD (by decide +kernel) (by decide +kernel) (fun K hK => ?_) | refine cw_lastD (by decide +kernel) (by decide +kernel) (fun K hK => ?_) | refine rgB_some ?_ | refine call_a (rvalid_spec _) ?_ | refine gcall_a (fun hg => rvalid_spec _) ?_); (try simp (maxSteps := 1000000) (disch := omega) only [go_sem]); (repeat' (refine And.intro ?_ ?_)); (all_goals first | (refine hK _ ?_; clear hK K) | exact auto_cl | skip)) | ((first | apply cw_ite | apply cw_iteN); (case hf => rfl); (case hc => simp (maxSteps := 1000000) (disch := omega) only [go_sem]; rfl); (all_goals first | (intro hb; (try simp only [decide_eq_true_eq, decide_eq_false_iff_not, beq_iff_eq, beq_eq_false_iff_ne, bne_iff_ne, bne_eq_false_iff_eq, ne_eq, Bool.not_eq_true, Bool.not_eq_false, Bool.not_true, Bool.not_false, Bool.not_eq_eq_eq_not, Int.not_lt, Int.not_le, gt_iff_lt, ge_iff_le, Bool.cond_eq_ite, Bool.if_false_right, Bool.if_true_left, Bool.and_eq_true, Bool.or_eq_true, Bool.and_eq_false_imp, Bool.or_eq_false_iff, Decidable.not_not, beq_true, beq_false, iteT, iteF, cond_true, cond_false] at hb)) | skip)) | exact atN_intro | ((first | apply cw_if | apply cw_cond); (case hc => simp (maxSteps := 1000000) (disch := omega) only [go_sem]; rfl); (all_goals (intro hb; (try simp only [decide_eq_true_eq, decide_eq_false_iff_not, beq_iff_eq, beq_eq_false_iff_ne, bne_iff_ne, bne_eq_false_iff_eq, ne_eq, Bool.not_eq_true, Bool.not_eq_false, Bool.not_true, Bool.not_false, Bool.not_eq_eq_eq_not, Int.not_lt, Int.not_le, gt_iff_lt, ge_iff_le, Bool.cond_eq_ite, Bool.if_false_right, Bool.if_true_left, Bool.and_eq_true, Bool.or_eq_true, Bool.and_eq_false_imp, Bool.or_eq_false_iff, Decidable.not_not, beq_true, beq_false, iteT, iteF, cond_true, cond_false] at hb); try (exfalso; omega)))) | (refine cw_blocks (fun KB hB => ?_)) | (refine cw_block ?_) | ((first | refine cw_exits ?_ | refine cw_exit ?_ | refine cw_skip ?_); simp (maxSteps := 1000000) (disch := omega) only [go_sem]) | (refine hB _ ?_; clear hB KB) | (refine exit_by (S := Sg) (by assumption) ?_) | ((first | refine cw_rets ?_ | refine cw_ret ?_); simp (maxSteps := 1000000) (disch := omega) only [go_sem]; (try clear hB KB); (try clear hK K)))
  refine bool_eq ?_
  simp only [emptyR, Bool.or_eq_true, decide_eq_true_eq, ge_iff_le, or_assoc]
theorem rclean_spec (r : Rect) : Pure Sg 111 [ag (rectE r)] (fun x => x = .b (ag (rectE (cleanR r)))) := by
  refine pure_of Tryd.func111 rfl (rs := [.cell 2 28]) rfl rfl mixed (by decide +kernel) (Nat.le_of_ble_eq_true rfl) (argsLt_mem (by simp (maxSteps := 1000000) (disch := omega) only [go_sem])) ?_
  repeat' (first | refine cw_assoc ?_ | refine cw_skips ?_ | refine cw_labels ?_ | ((first | refine cw_step (fun K hK => ?_) | refine cw_last (fun K hK => ?_) | refine cw_stepD (by decide +kernel) (by decide +kernel) (fun K hK => ?_) | refine cw_lastD (by decide +kernel) (by decide +kernel) (fun K hK => ?_) | refine rgB_some ?_ | refine call_a (rempty_spec _) ?_ | refine gcall_a (fun hg => rempty_spec _) ?_); (try simp (maxSteps := 1000000) (disch := omega) only [go_sem]); (repeat' (refine And.intro ?_ ?_)); (all_goals first | (refine hK _ ?_; clear hK K) | exact auto_cl | skip)) | ((first | apply cw_ite | apply cw_iteN); (case hf => rfl); (case hc => simp (maxSteps := 1000000) (disch := omega) only [go_sem]; rfl); (all_goals first | (intro hb; (try simp only [decide_eq_true_eq, decide_eq_false_iff_not, beq_iff_eq, beq_eq_false_iff_ne, bne_iff_ne, bne_eq_false_iff_eq, ne_eq, Bool.not_eq_true, Bool.not_eq_false, Bool.not_true, Bool.not_false, Bool.not_eq_eq_eq_not, Int.not_lt, Int.not_le, gt_iff_lt, ge_iff_le, Bool.cond_eq_ite, Bool.if_false_right, Bool.if_true_left, Bool.and_eq_true, Bool.or_eq_true, Bool.and_eq_false_imp, Bool.or_eq_false_iff, Decidable.not_not, beq_true, beq_false, iteT, iteF, cond_true, cond_false] at hb)) | skip)) | exact atN_intro | ((first | apply cw_if | apply cw_cond); (case hc => simp (maxSteps := 1000000) (disch := omega) only [go_sem]; rfl); (all_goals (intro hb; (try simp only [decide_eq_true_eq, decide_eq_false_iff_not, beq_iff_eq, beq_eq_false_iff_ne, bne_iff_ne, bne_eq_false_iff_eq, ne_eq, Bool.not_eq_true, Bool.not_eq_false, Bool.not_true, Bool.not_false, Bool.not_eq_eq_eq_not, Int.not_lt, Int.not_le, gt_iff_lt, ge_iff_le, Bool.cond_eq_ite, Bool.if_false_right, Bool.if_true_left, Bool.and_eq_true, Bool.or_eq_true, Bool.and_eq_false_imp, Bool.or_eq_false_iff, Decidable.not_not, beq_true, beq_false, iteT, iteF, cond_true, cond_false] at hb); try (exfalso; omega)))) | (refine cw_blocks (fun KB hB => ?_)) | (refine cw_block ?_) | ((first | refine cw_exits ?_ | refine cw_exit ?_ | refine cw_skip ?_); simp (maxSteps := 1000000) (disch := omega) only [go_sem]) | (refine hB _ ?_; clear hB KB) | (refine exit_by (S := Sg) (by assumption) ?_) | ((first | refine cw_rets ?_ | refine cw_ret ?_); simp (maxSteps := 1000000) (disch := omega) only [go_sem]; (try clear hB KB); (try clear hK K)))
  · rw [cleanR, if_pos hb]; rfl
  · rw [cleanR, if_neg (by simp [hb])]; rfl
theorem rarea_spec (r : Rect) : Pure Sg 92 [ag (rectE r)] (fun x => x = .b (I (areaR r))) := by
  refine pure_of Tryd.func92 rfl (rs := [.tmp 2]) rfl rfl mixed (by decide +kernel) (Nat.le_of_ble_eq_true rfl) (argsLt_mem (by simp (maxSteps := 1000000) (disch := omega) only [go_sem])) ?_
  repeat' (first | refine cw_assoc ?_ | refine cw_skips ?_ | refine cw_labels ?_ | ((first | refine cw_step (fun K hK => ?_) | refine cw_last (fun K hK => ?_) | refine cw_stepD (by decide +kernel) (by decide +kernel) (fun K hK => ?_) | refine cw_lastD (by decide +kernel) (by decide +kernel) (fun K hK => ?_) | refine rgB_some ?_ | refine call_a (rclean_spec _) ?_ | refine gcall_a (fun hg => rclean_spec _) ?_); (try simp (maxSteps := 1000000) (disch := omega) only [go_sem]); (repeat' (refine And.intro ?_ ?_)); (all_goals first | (refine hK _ ?_; clear hK K) | exact auto_cl | skip)) | ((first | apply cw_ite | apply cw_iteN); (case hf => rfl); (case hc => simp (maxSteps := 1000000) (disch := omega) only [go_sem]; rfl); (all_goals first | (intro hb; (try simp only [decide_eq_true_eq, decide_eq_false_iff_not, beq_iff_eq, beq_eq_false_iff_ne, bne_iff_ne, bne_eq_false_iff_eq, ne_eq, Bool.not_eq_true, Bool.not_eq_false, Bool.not_true, Bool.not_false, Bool.not_eq_eq_eq_not, Int.not_lt, Int.not_le, gt_iff_lt, ge_iff_le, Bool.cond_eq_ite, Bool.if_false_right, Bool.if_true_left, Bool.and_eq_true, Bool.or_eq_true, Bool.and_eq_false_imp, Bool.or_eq_false_iff, Decidable.not_not, beq_true, beq_false, iteT, iteF, cond_true, cond_false] at hb)) | skip)) | exact atN_intro | ((first | apply cw_if | apply cw_cond); (case hc => simp (maxSteps := 1000000) (disch := omega) only [go_sem]; rfl); (all_goals (intro hb; (try simp only [decide_eq_true_eq, decide_eq_false_iff_not, beq_iff_eq, beq_eq_false_iff_ne, bne_iff_ne, bne_eq_false_iff_eq, ne_eq, Bool.not_eq_true, Bool.not_eq_false, Bool.not_true, Bool.not_false, Bool.not_eq_eq_eq_not, Int.not_lt, Int.not_le, gt_iff_lt, ge_iff_le, Bool.cond_eq_ite, Bool.if_false_right, Bool.if_true_left, Bool.and_eq_true, Bool.or_eq_true, Bool.and_eq_false_imp, Bool.or_eq_false_iff, Decidable.not_not, beq_true, beq_false, iteT, iteF, cond_true, cond_false] at hb); try (exfalso; omega)))) | (refine cw_blocks (fun KB hB => ?_)) | (refine cw_block ?_) | ((first | refine cw_exits ?_ | refine cw_exit ?_ | refine cw_skip ?_); simp (maxSteps := 1000000) (disch := omega) only [go_sem]) | (refine hB _ ?_; clear hB KB) | (refine exit_by (S := Sg) (by assumption) ?_) | ((first | refine cw_rets ?_ | refine cw_ret ?_); simp (maxSteps := 1000000) (disch := omega) only [go_sem]; (try clear hB KB); (try clear hK K)))
  rw [area_wrap]
def ruleE (o : Int) : List PV := if 1 ≤ o ∧ o ≤ 12 then [gv_compositor_operator_rules.getD (o.toNat * 4) .any, gv_compositor_operator_rules.getD (o.toNat * 4 + 1) .any, gv_compositor_operator_rules.getD (o.toNat * 4 + 2) .any, gv_compositor_operator_rules.getD (o.toNat * 4 + 3) .any]
  else [.val (.string ⟨#[]⟩), PI 0, PI 0, PI 0]
theorem find_spec (o : Int) : Pure Sg 123 [I o] (fun x => x = .tup [ag (ruleE o), B (decide (1 ≤ o ∧ o ≤ 12))]) := by
  refine pure_of Tryd.func123 rfl (rs := [.cell 2 161, .tmp 3]) rfl rfl mixed (by decide +kernel) (Nat.le_of_ble_eq_true rfl) (argsLt_mem (by simp (maxSteps := 1000000) (disch := omega) only [go_sem])) ?_
  repeat' (first | refine cw_assoc ?_ | refine cw_skips ?_ | refine cw_labels ?_ | ((first | refine cw_step (fun K hK => ?_) | refine cw_last (fun K hK => ?_) | refine cw_stepD (by decide +kernel) (by decide +kernel) (fun K hK => ?_) | refine cw_lastD (by decide +kernel) (by decide +kernel) (fun K hK => ?_) | refine rgB_some ?_); (try simp (maxSteps := 1000000) (disch := omega) only [go_sem]); (repeat' (refine And.intro ?_ ?_)); (all_goals first | (refine hK _ ?_; clear hK K) | exact auto_cl | skip)) | ((first | apply cw_ite | apply cw_iteN); (case hf => rfl); (case hc => simp (maxSteps := 1000000) (disch := omega) only [go_sem]; rfl); (all_goals first | (intro hb; (try simp only [decide_eq_true_eq, decide_eq_false_iff_not, beq_iff_eq, beq_eq_false_iff_ne, bne_iff_ne, bne_eq_false_iff_eq, ne_eq, Bool.not_eq_true, Bool.not_eq_false, Bool.not_true, Bool.not_false, Bool.not_eq_eq_eq_not, Int.not_lt, Int.not_le, gt_iff_lt, ge_iff_le, Bool.cond_eq_ite, Bool.if_false_right, Bool.if_true_left, Bool.and_eq_true, Bool.or_eq_true, Bool.and_eq_false_imp, Bool.or_eq_false_iff, Decidable.not_not, beq_true, beq_false, iteT, iteF, cond_true, cond_false] at hb)) | skip)) | exact atN_intro | ((first | apply cw_if | apply cw_cond); (case hc => simp (maxSteps := 1000000) (disch := omega) only [go_sem]; rfl); (all_goals (intro hb; (try simp only [decide_eq_true_eq, decide_eq_false_iff_not, beq_iff_eq, beq_eq_false_iff_ne, bne_iff_ne, bne_eq_false_iff_eq, ne_eq, Bool.not_eq_true, Bool.not_eq_false, Bool.not_true, Bool.not_false, Bool.not_eq_eq_eq_not, Int.not_lt, Int.not_le, gt_iff_lt, ge_iff_le, Bool.cond_eq_ite, Bool.if_false_right, Bool.if_true_left, Bool.and_eq_true, Bool.or_eq_true, Bool.and_eq_false_imp, Bool.or_eq_false_iff, Decidable.not_not, beq_true, beq_false, iteT, iteF, cond_true, cond_false] at hb); try (exfalso; omega)))) | (refine cw_blocks (fun KB hB => ?_)) | (refine cw_block ?_) | ((first | refine cw_exits ?_ | refine cw_exit ?_ | refine cw_skip ?_); simp (maxSteps := 1000000) (disch := omega) only [go_sem]) | (refine hB _ ?_; clear hB KB) | (refine exit_by (S := Sg) (by assumption) ?_) | ((first | refine cw_rets ?_ | refine cw_ret ?_); simp (maxSteps := 1000000) (disch := omega) only [go_sem]; (try clear hB KB); (try clear hK K)))
  · rw [ruleE, if_neg (by omega), decide_eq_false (by omega)]; rfl
  · rw [ruleE, if_pos (by omega), decide_eq_true (by omega)]; simp only [Nat.zero_add, Nat.add_zero]; rfl
def opNm (o : Int) : ByteArray := match (ruleE o).getD 0 .any with
  | .val (.string s) => s
  | _ => ⟨#[]⟩
theorem opNm_spec (o : Int) : ∃ a b c, ruleE o = [.val (.string (opNm o)), PI a, PI b, PI c] ∧ ((opNm o).toList == (ByteArray.mk #[]).toList) = !decide (1 ≤ o ∧ o ≤ 12) := by
  by_cases h : 1 ≤ o ∧ o ≤ 12
  · have : o = 1 ∨ o = 2 ∨ o = 3 ∨ o = 4 ∨ o = 5 ∨ o = 6 ∨ o = 7 ∨ o = 8 ∨ o = 9 ∨ o = 10 ∨ o = 11 ∨ o = 12 := by omega
    rcases this with rfl | rfl | rfl | rfl | rfl | rfl | rfl | rfl | rfl | rfl | rfl | rfl <;> exact ⟨_, _, _, rfl, by decide +kernel⟩
  · have e : ruleE o = [.val (.string ⟨#[]⟩), PI 0, PI 0, PI 0] := by rw [ruleE, if_neg h]
    refine ⟨0, 0, 0, ?_, ?_⟩
    · rw [opNm, e]; rfl
    · rw [opNm, e, decide_eq_false h]; decide +kernel
theorem opName_spec (o : Int) : Pure Sg 97 [I o] (fun x => x = .b (.c (.p (.val (.string (opNm o)))))) := by
  obtain ⟨a, b, c, he, _⟩ := opNm_spec o
  have hf := find_spec o
  rw [he] at hf
  refine pure_of Tryd.func97 rfl (rs := [.tmp 2]) rfl rfl mixed (by decide +kernel) (Nat.le_of_ble_eq_true rfl) (argsLt_mem (by simp (maxSteps := 1000000) (disch := omega) only [go_sem])) ?_
  repeat' (first | refine cw_assoc ?_ | refine cw_skips ?_ | refine cw_labels ?_ | ((first | refine cw_step (fun K hK => ?_) | refine cw_last (fun K hK => ?_) | refine cw_stepD (by decide +kernel) (by decide +kernel) (fun K hK => ?_) | refine cw_lastD (by decide +kernel) (by decide +kernel) (fun K hK => ?_) | refine rgB_some ?_ | refine call_a (hf) ?_ | refine gcall_a (fun hg => hf) ?_); (try simp (maxSteps := 1000000) (disch := omega) only [go_sem]); (repeat' (refine And.intro ?_ ?_)); (all_goals first | (refine hK _ ?_; clear hK K) | exact auto_cl | skip)) | ((first | apply cw_ite | apply cw_iteN); (case hf => rfl); (case hc => simp (maxSteps := 1000000) (disch := omega) only [go_sem]; rfl); (all_goals first | (intro hb; (try simp only [decide_eq_true_eq, decide_eq_false_iff_not, beq_iff_eq, beq_eq_false_iff_ne, bne_iff_ne, bne_eq_false_iff_eq, ne_eq, Bool.not_eq_true, Bool.not_eq_false, Bool.not_true, Bool.not_false, Bool.not_eq_eq_eq_not, Int.not_lt, Int.not_le, gt_iff_lt, ge_iff_le, Bool.cond_eq_ite, Bool.if_false_right, Bool.if_true_left, Bool.and_eq_true, Bool.or_eq_true, Bool.and_eq_false_imp, Bool.or_eq_false_iff, Decidable.not_not, beq_true, beq_false, iteT, iteF, cond_true, cond_false] at hb)) | skip)) | exact atN_intro | ((first | apply cw_if | apply cw_cond); (case hc => simp (maxSteps := 1000000) (disch := omega) only [go_sem]; rfl); (all_goals (intro hb; (try simp only [decide_eq_true_eq, decide_eq_false_iff_not, beq_iff_eq, beq_eq_false_iff_ne, bne_iff_ne, bne_eq_false_iff_eq, ne_eq, Bool.not_eq_true, Bool.not_eq_false, Bool.not_true, Bool.not_false, Bool.not_eq_eq_eq_not, Int.not_lt, Int.not_le, gt_iff_lt, ge_iff_le, Bool.cond_eq_ite, Bool.if_false_right, Bool.if_true_left, Bool.and_eq_true, Bool.or_eq_true, Bool.and_eq_false_imp, Bool.or_eq_false_iff, Decidable.not_not, beq_true, beq_false, iteT, iteF, cond_true, cond_false] at hb); try (exfalso; omega)))) | (refine cw_blocks (fun KB hB => ?_)) | (refine cw_block ?_) | ((first | refine cw_exits ?_ | refine cw_exit ?_ | refine cw_skip ?_); simp (maxSteps := 1000000) (disch := omega) only [go_sem]) | (refine hB _ ?_; clear hB KB) | (refine exit_by (S := Sg) (by assumption) ?_) | ((first | refine cw_rets ?_ | refine cw_ret ?_); simp (maxSteps := 1000000) (disch := omega) only [go_sem]; (try clear hB KB); (try clear hK K)))
def isOp (o : Int) : Bool := decide (1 ≤ o ∧ o ≤ 12)
def bNm (m : Int) : ByteArray := match gv_compositor_blend_names.getD m.toNat .any with
  | .val (.string s) => s
  | _ => ⟨#[]⟩
theorem bNm_spec (m : Int) (h : 1 ≤ m ∧ m ≤ 12) : gv_compositor_blend_names.getD m.toNat .any = .val (.string (bNm m)) ∧ ((bNm m).toList == (ByteArray.mk #[]).toList) = false := by
  have : m = 1 ∨ m = 2 ∨ m = 3 ∨ m = 4 ∨ m = 5 ∨ m = 6 ∨ m = 7 ∨ m = 8 ∨ m = 9 ∨ m = 10 ∨ m = 11 ∨ m = 12 := by omega
  rcases this with rfl | rfl | rfl | rfl | rfl | rfl | rfl | rfl | rfl | rfl | rfl | rfl <;> exact ⟨rfl, by decide +kernel⟩
def blNm (m : Int) : ByteArray := if 1 ≤ m ∧ m ≤ 12 then bNm m else ⟨#[]⟩
theorem blNm_empty (m : Int) : ((blNm m).toList == (ByteArray.mk #[]).toList) = !isOp m := by
  by_cases h : 1 ≤ m ∧ m ≤ 12
  · rw [blNm, if_pos h, (bNm_spec m h).2, isOp, decide_eq_true h]; rfl
  · rw [blNm, if_neg h, isOp, decide_eq_false h]; decide +kernel
theorem blendName_spec (m : Int) : Pure Sg 98 [I m] (fun x => x = .b (.c (.p (.val (.string (blNm m)))))) := by
  refine pure_of Tryd.func98 rfl (rs := [.tmp 2]) rfl rfl mixed (by decide +kernel) (Nat.le_of_ble_eq_true rfl) (argsLt_mem (by simp (maxSteps := 1000000) (disch := omega) only [go_sem])) ?_
  repeat' (first | refine cw_assoc ?_ | refine cw_skips ?_ | refine cw_labels ?_ | ((first | refine cw_step (fun K hK => ?_) | refine cw_last (fun K hK => ?_) | refine cw_stepD (by decide +kernel) (by decide +kernel) (fun K hK => ?_) | refine cw_lastD (by decide +kernel) (by decide +kernel) (fun K hK => ?_) | refine rgB_some ?_ | refine call_a (bvalid_spec _) ?_ | refine gcall_a (fun hg => bvalid_spec _) ?_); (try simp (maxSteps := 1000000) (disch := omega) only [go_sem]); (repeat' (refine And.intro ?_ ?_)); (all_goals first | (refine hK _ ?_; clear hK K) | exact auto_cl | skip)) | ((first | apply cw_ite | apply cw_iteN); (case hf => rfl); (case hc => simp (maxSteps := 1000000) (disch := omega) only [go_sem]; rfl); (all_goals first | (intro hb; (try simp only [decide_eq_true_eq, decide_eq_false_iff_not, beq_iff_eq, beq_eq_false_iff_ne, bne_iff_ne, bne_eq_false_iff_eq, ne_eq, Bool.not_eq_true, Bool.not_eq_false, Bool.not_true, Bool.not_false, Bool.not_eq_eq_eq_not, Int.not_lt, Int.not_le, gt_iff_lt, ge_iff_le, Bool.cond_eq_ite, Bool.if_false_right, Bool.if_true_left, Bool.and_eq_true, Bool.or_eq_true, Bool.and_eq_false_imp, Bool.or_eq_false_iff, Decidable.not_not, beq_true, beq_false, iteT, iteF, cond_true, cond_false] at hb)) | skip)) | exact atN_intro | ((first | apply cw_if | apply cw_cond); (case hc => simp (maxSteps := 1000000) (disch := omega) only [go_sem]; rfl); (all_goals (intro hb; (try simp only [decide_eq_true_eq, decide_eq_false_iff_not, beq_iff_eq, beq_eq_false_iff_ne, bne_iff_ne, bne_eq_false_iff_eq, ne_eq, Bool.not_eq_true, Bool.not_eq_false, Bool.not_true, Bool.not_false, Bool.not_eq_eq_eq_not, Int.not_lt, Int.not_le, gt_iff_lt, ge_iff_le, Bool.cond_eq_ite, Bool.if_false_right, Bool.if_true_left, Bool.and_eq_true, Bool.or_eq_true, Bool.and_eq_false_imp, Bool.or_eq_false_iff, Decidable.not_not, beq_true, beq_false, iteT, iteF, cond_true, cond_false] at hb); try (exfalso; omega)))) | (refine cw_blocks (fun KB hB => ?_)) | (refine cw_block ?_) | ((first | refine cw_exits ?_ | refine cw_exit ?_ | refine cw_skip ?_); simp (maxSteps := 1000000) (disch := omega) only [go_sem]) | (refine hB _ ?_; clear hB KB) | (refine exit_by (S := Sg) (by assumption) ?_) | ((first | refine cw_rets ?_ | refine cw_ret ?_); simp (maxSteps := 1000000) (disch := omega) only [go_sem]; (try clear hB KB); (try clear hK K)))
  · rw [blNm, if_neg (by omega)]
  · rw [blNm, if_pos (by omega)]
    have h := bNm_spec m (by omega)
    simp only [Nat.zero_add, Nat.mul_one, Nat.add_zero]
    rw [h.1]
theorem r06op_spec (o : Int) : Pure Sg 128 [I o] (fun x => x = .b (.c (.p (.val (.string (opNm o)))))) := by
  refine pure_of Tryd.func128 rfl (rs := [.tmp 2]) rfl rfl mixed (by decide +kernel) (Nat.le_of_ble_eq_true rfl) (argsLt_mem (by simp (maxSteps := 1000000) (disch := omega) only [go_sem])) ?_
  repeat' (first | refine cw_assoc ?_ | refine cw_skips ?_ | refine cw_labels ?_ | ((first | refine cw_step (fun K hK => ?_) | refine cw_last (fun K hK => ?_) | refine cw_stepD (by decide +kernel) (by decide +kernel) (fun K hK => ?_) | refine cw_lastD (by decide +kernel) (by decide +kernel) (fun K hK => ?_) | refine rgB_some ?_); (try simp (maxSteps := 1000000) (disch := omega) only [go_sem]); (repeat' (refine And.intro ?_ ?_)); (all_goals first | (refine hK _ ?_; clear hK K) | exact auto_cl | skip)) | ((first | apply cw_ite | apply cw_iteN); (case hf => rfl); (case hc => simp (maxSteps := 1000000) (disch := omega) only [go_sem]; rfl); (all_goals first | (intro hb; (try simp only [decide_eq_true_eq, decide_eq_false_iff_not, beq_iff_eq, beq_eq_false_iff_ne, bne_iff_ne, bne_eq_false_iff_eq, ne_eq, Bool.not_eq_true, Bool.not_eq_false, Bool.not_true, Bool.not_false, Bool.not_eq_eq_eq_not, Int.not_lt, Int.not_le, gt_iff_lt, ge_iff_le, Bool.cond_eq_ite, Bool.if_false_right, Bool.if_true_left, Bool.and_eq_true, Bool.or_eq_true, Bool.and_eq_false_imp, Bool.or_eq_false_iff, Decidable.not_not, beq_true, beq_false, iteT, iteF, cond_true, cond_false] at hb)) | skip)) | exact atN_intro | ((first | apply cw_if | apply cw_cond); (case hc => simp (maxSteps := 1000000) (disch := omega) only [go_sem]; rfl); (all_goals (intro hb; (try simp only [decide_eq_true_eq, decide_eq_false_iff_not, beq_iff_eq, beq_eq_false_iff_ne, bne_iff_ne, bne_eq_false_iff_eq, ne_eq, Bool.not_eq_true, Bool.not_eq_false, Bool.not_true, Bool.not_false, Bool.not_eq_eq_eq_not, Int.not_lt, Int.not_le, gt_iff_lt, ge_iff_le, Bool.cond_eq_ite, Bool.if_false_right, Bool.if_true_left, Bool.and_eq_true, Bool.or_eq_true, Bool.and_eq_false_imp, Bool.or_eq_false_iff, Decidable.not_not, beq_true, beq_false, iteT, iteF, cond_true, cond_false] at hb); try (exfalso; omega)))) | (refine cw_blocks (fun KB hB => ?_)) | (refine cw_block ?_) | ((first | refine cw_exits ?_ | refine cw_exit ?_ | refine cw_skip ?_); simp (maxSteps := 1000000) (disch := omega) only [go_sem]) | (refine hB _ ?_; clear hB KB) | (refine exit_by (S := Sg) (by assumption) ?_) | ((first | refine cw_rets ?_ | refine cw_ret ?_); simp (maxSteps := 1000000) (disch := omega) only [go_sem]; (try clear hB KB); (try clear hK K)))
  · rw [opNm, ruleE, if_neg (by omega)]; rfl
  · have : o = 1 ∨ o = 2 ∨ o = 3 ∨ o = 4 ∨ o = 5 ∨ o = 6 ∨ o = 7 ∨ o = 8 ∨ o = 9 ∨ o = 10 ∨ o = 11 ∨ o = 12 := by omega
    rcases this with rfl | rfl | rfl | rfl | rfl | rfl | rfl | rfl | rfl | rfl | rfl | rfl <;> rfl
theorem r06mode_spec (o : Int) : Pure Sg 129 [I o] (fun x => x = .b (.c (.p (.val (.string (blNm o)))))) := by
  refine pure_of Tryd.func129 rfl (rs := [.tmp 2]) rfl rfl mixed (by decide +kernel) (Nat.le_of_ble_eq_true rfl) (argsLt_mem (by simp (maxSteps := 1000000) (disch := omega) only [go_sem])) ?_
  repeat' (first | refine cw_assoc ?_ | refine cw_skips ?_ | refine cw_labels ?_ | ((first | refine cw_step (fun K hK => ?_) | refine cw_last (fun K hK => ?_) | refine cw_stepD (by decide +kernel) (by decide +kernel) (fun K hK => ?_) | refine cw_lastD (by decide +kernel) (by decide +kernel) (fun K hK => ?_) | refine rgB_some ?_); (try simp (maxSteps := 1000000) (disch := omega) only [go_sem]); (repeat' (refine And.intro ?_ ?_)); (all_goals first | (refine hK _ ?_; clear hK K) | exact auto_cl | skip)) | ((first | apply cw_ite | apply cw_iteN); (case hf => rfl); (case hc => simp (maxSteps := 1000000) (disch := omega) only [go_sem]; rfl); (all_goals first | (intro hb; (try simp only [decide_eq_true_eq, decide_eq_false_iff_not, beq_iff_eq, beq_eq_false_iff_ne, bne_iff_ne, bne_eq_false_iff_eq, ne_eq, Bool.not_eq_true, Bool.not_eq_false, Bool.not_true, Bool.not_false, Bool.not_eq_eq_eq_not, Int.not_lt, Int.not_le, gt_iff_lt, ge_iff_le, Bool.cond_eq_ite, Bool.if_false_right, Bool.if_true_left, Bool.and_eq_true, Bool.or_eq_true, Bool.and_eq_false_imp, Bool.or_eq_false_iff, Decidable.not_not, beq_true, beq_false, iteT, iteF, cond_true, cond_false] at hb)) | skip)) | exact atN_intro | ((first | apply cw_if | apply cw_cond); (case hc => simp (maxSteps := 1000000) (disch := omega) only [go_sem]; rfl); (all_goals (intro hb; (try simp only [decide_eq_true_eq, decide_eq_false_iff_not, beq_iff_eq, beq_eq_false_iff_ne, bne_iff_ne, bne_eq_false_iff_eq, ne_eq, Bool.not_eq_true, Bool.not_eq_false, Bool.not_true, Bool.not_false, Bool.not_eq_eq_eq_not, Int.not_lt, Int.not_le, gt_iff_lt, ge_iff_le, Bool.cond_eq_ite, Bool.if_false_right, Bool.if_true_left, Bool.and_eq_true, Bool.or_eq_true, Bool.and_eq_false_imp, Bool.or_eq_false_iff, Decidable.not_not, beq_true, beq_false, iteT, iteF, cond_true, cond_false] at hb); try (exfalso; omega)))) | (refine cw_blocks (fun KB hB => ?_)) | (refine cw_block ?_) | ((first | refine cw_exits ?_ | refine cw_exit ?_ | refine cw_skip ?_); simp (maxSteps := 1000000) (disch := omega) only [go_sem]) | (refine hB _ ?_; clear hB KB) | (refine exit_by (S := Sg) (by assumption) ?_) | ((first | refine cw_rets ?_ | refine cw_ret ?_); simp (maxSteps := 1000000) (disch := omega) only [go_sem]; (try clear hB KB); (try clear hK K)))
  · rw [blNm, if_neg (by omega)]
  · have : o = 1 ∨ o = 2 ∨ o = 3 ∨ o = 4 ∨ o = 5 ∨ o = 6 ∨ o = 7 ∨ o = 8 ∨ o = 9 ∨ o = 10 ∨ o = 11 ∨ o = 12 := by omega
    rcases this with rfl | rfl | rfl | rfl | rfl | rfl | rfl | rfl | rfl | rfl | rfl | rfl <;> rfl
theorem isOp_spec (o : Int) : Pure Sg 108 [I o] (fun x => x = .b (B (isOp o))) := by
  obtain ⟨_, _, _, _, h⟩ := opNm_spec o
  refine pure_of Tryd.func108 rfl (rs := [.tmp 2]) rfl rfl mixed (by decide +kernel) (Nat.le_of_ble_eq_true rfl) (argsLt_mem (by simp (maxSteps := 1000000) (disch := omega) only [go_sem])) ?_
  repeat' (first | refine cw_assoc ?_ | refine cw_skips ?_ | refine cw_labels ?_ | ((first | refine cw_step (fun K hK => ?_) | refine cw_last (fun K hK => ?_) | refine cw_stepD (by decide +kernel) (by decide +kernel) (fun K hK => ?_) | refine cw_lastD (by decide +kernel) (by decide +kernel) (fun K hK => ?_) | refine rgB_some ?_ | refine call_a (r06op_spec _) ?_ | refine gcall_a (fun hg => r06op_spec _) ?_); (try simp (maxSteps := 1000000) (disch := omega) only [go_sem]); (repeat' (refine And.intro ?_ ?_)); (all_goals first | (refine hK _ ?_; clear hK K) | exact auto_cl | skip)) | ((first | apply cw_ite | apply cw_iteN); (case hf => rfl); (case hc => simp (maxSteps := 1000000) (disch := omega) only [go_sem]; rfl); (all_goals first | (intro hb; (try simp only [decide_eq_true_eq, decide_eq_false_iff_not, beq_iff_eq, beq_eq_false_iff_ne, bne_iff_ne, bne_eq_false_iff_eq, ne_eq, Bool.not_eq_true, Bool.not_eq_false, Bool.not_true, Bool.not_false, Bool.not_eq_eq_eq_not, Int.not_lt, Int.not_le, gt_iff_lt, ge_iff_le, Bool.cond_eq_ite, Bool.if_false_right, Bool.if_true_left, Bool.and_eq_true, Bool.or_eq_true, Bool.and_eq_false_imp, Bool.or_eq_false_iff, Decidable.not_not, beq_true, beq_false, iteT, iteF, cond_true, cond_false] at hb)) | skip)) | exact atN_intro | ((first | apply cw_if | apply cw_cond); (case hc => simp (maxSteps := 1000000) (disch := omega) only [go_sem]; rfl); (all_goals (intro hb; (try simp only [decide_eq_true_eq, decide_eq_false_iff_not, beq_iff_eq, beq_eq_false_iff_ne, bne_iff_ne, bne_eq_false_iff_eq, ne_eq, Bool.not_eq_true, Bool.not_eq_false, Bool.not_true, Bool.not_false, Bool.not_eq_eq_eq_not, Int.not_lt, Int.not_le, gt_iff_lt, ge_iff_le, Bool.cond_eq_ite, Bool.if_false_right, Bool.if_true_left, Bool.and_eq_true, Bool.or_eq_true, Bool.and_eq_false_imp, Bool.or_eq_false_iff, Decidable.not_not, beq_true, beq_false, iteT, iteF, cond_true, cond_false] at hb); try (exfalso; omega)))) | (refine cw_blocks (fun KB hB => ?_)) | (refine cw_block ?_) | ((first | refine cw_exits ?_ | refine cw_exit ?_ | refine cw_skip ?_); simp (maxSteps := 1000000) (disch := omega) only [go_sem]) | (refine hB _ ?_; clear hB KB) | (refine exit_by (S := Sg) (by assumption) ?_) | ((first | refine cw_rets ?_ | refine cw_ret ?_); simp (maxSteps := 1000000) (disch := omega) only [go_sem]; (try clear hB KB); (try clear hK K)))
  refine bool_eq ?_
  rw [h]; simp [isOp]
theorem isMode_spec (o : Int) : Pure Sg 109 [I o] (fun x => x = .b (B (isOp o))) := by
  have h := blNm_empty o
  refine pure_of Tryd.func109 rfl (rs := [.tmp 2]) rfl rfl mixed (by decide +kernel) (Nat.le_of_ble_eq_true rfl) (argsLt_mem (by simp (maxSteps := 1000000) (disch := omega) only [go_sem])) ?_
  repeat' (first | refine cw_assoc ?_ | refine cw_skips ?_ | refine cw_labels ?_ | ((first | refine cw_step (fun K hK => ?_) | refine cw_last (fun K hK => ?_) | refine cw_stepD (by decide +kernel) (by decide +kernel) (fun K hK => ?_) | refine cw_lastD (by decide +kernel) (by decide +kernel) (fun K hK => ?_) | refine rgB_some ?_ | refine call_a (r06mode_spec _) ?_ | refine gcall_a (fun hg => r06mode_spec _) ?_); (try simp (maxSteps := 1000000) (disch := omega) only [go_sem]); (repeat' (refine And.intro ?_ ?_)); (all_goals first | (refine hK _ ?_; clear hK K) | exact auto_cl | skip)) | ((first | apply cw_ite | apply cw_iteN); (case hf => rfl); (case hc => simp (maxSteps := 1000000) (disch := omega) only [go_sem]; rfl); (all_goals first | (intro hb; (try simp only [decide_eq_true_eq, decide_eq_false_iff_not, beq_iff_eq, beq_eq_false_iff_ne, bne_iff_ne, bne_eq_false_iff_eq, ne_eq, Bool.not_eq_true, Bool.not_eq_false, Bool.not_true, Bool.not_false, Bool.not_eq_eq_eq_not, Int.not_lt, Int.not_le, gt_iff_lt, ge_iff_le, Bool.cond_eq_ite, Bool.if_false_right, Bool.if_true_left, Bool.and_eq_true, Bool.or_eq_true, Bool.and_eq_false_imp, Bool.or_eq_false_iff, Decidable.not_not, beq_true, beq_false, iteT, iteF, cond_true, cond_false] at hb)) | skip)) | exact atN_intro | ((first | apply cw_if | apply cw_cond); (case hc => simp (maxSteps := 1000000) (disch := omega) only [go_sem]; rfl); (all_goals (intro hb; (try simp only [decide_eq_true_eq, decide_eq_false_iff_not, beq_iff_eq, beq_eq_false_iff_ne, bne_iff_ne, bne_eq_false_iff_eq, ne_eq, Bool.not_eq_true, Bool.not_eq_false, Bool.not_true, Bool.not_false, Bool.not_eq_eq_eq_not, Int.not_lt, Int.not_le, gt_iff_lt, ge_iff_le, Bool.cond_eq_ite, Bool.if_false_right, Bool.if_true_left, Bool.and_eq_true, Bool.or_eq_true, Bool.and_eq_false_imp, Bool.or_eq_false_iff, Decidable.not_not, beq_true, beq_false, iteT, iteF, cond_true, cond_false] at hb); try (exfalso; omega)))) | (refine cw_blocks (fun KB hB => ?_)) | (refine cw_block ?_) | ((first | refine cw_exits ?_ | refine cw_exit ?_ | refine cw_skip ?_); simp (maxSteps := 1000000) (disch := omega) only [go_sem]) | (refine hB _ ?_; clear hB KB) | (refine exit_by (S := Sg) (by assumption) ?_) | ((first | refine cw_rets ?_ | refine cw_ret ?_); simp (maxSteps := 1000000) (disch := omega) only [go_sem]; (try clear hB KB); (try clear hK K)))
  refine bool_eq ?_
  rw [h]; simp [isOp]
end Go.Proofs.YtkjdljcbpbeehaaDoor

set_option linter.unusedSimpArgs false
set_option linter.unusedVariables false
set_option maxRecDepth 8000
set_option maxHeartbeats 2000000
namespace Go.Proofs.YtkjdljcbpbeehaaDoor
open Go Go.SL
open Go.RowKit (wrap64)

def tilesOk (r : Rect) (w h : Int) : Bool := !emptyR r && decide (1 ≤ w ∧ 1 ≤ h ∧ w ≤ r.x1 - r.x0 ∧ h ≤ r.y1 - r.y0)
def tilesX (r : Rect) (w h : Int) : Int := if tilesOk r w h = true then (r.x1 - r.x0 - 1) / w + 1 else 0
def tilesY (r : Rect) (w h : Int) : Int := if tilesOk r w h = true then (r.y1 - r.y0 - 1) / h + 1 else 0
theorem tile_div {W w : Int} (h1 : 1 ≤ W) (h2 : W ≤ 2147483648) (h3 : 1 ≤ w) (h4 : w ≤ W) :
    IntKind.i64.wrap (IntKind.i64.wrap ((IntKind.i64.wrap (IntKind.i64.wrap W - 1)).tdiv w) + 1) = (W - 1) / w + 1 := by
  have b1 : 0 ≤ (W - 1) / w := Int.ediv_nonneg (by omega) (by omega)
  have b2 : (W - 1) / w ≤ W - 1 := Int.ediv_le_self _ (by omega)
  rw [w64' (n := W) (by omega) (by omega), w64' (n := W - 1) (by omega) (by omega), tdivP (by omega), w64' (n := (W - 1) / w) (by omega) (by omega), w64' (by omega) (by omega)]
theorem tile_div' {W w : Int} (h1 : 1 ≤ W) (h2 : W ≤ 2147483648) (h3 : 1 ≤ w) (h4 : w ≤ W) :
    IntKind.i64.wrap ((IntKind.i64.wrap (IntKind.i64.wrap (IntKind.i64.wrap W + w) - 1)).tdiv w) = (W - 1) / w + 1 := by
  have b1 : 0 ≤ (W - 1) / w := Int.ediv_nonneg (by omega) (by omega)
  have b2 : (W - 1) / w ≤ W - 1 := Int.ediv_le_self _ (by omega)
  have e : (W + w - 1) / w = (W - 1) / w + 1 := by
    rw [show W + w - 1 = (W - 1) + 1 * w by omega, Int.add_mul_ediv_right _ _ (by omega)]
  rw [w64' (n := W) (by omega) (by omega), w64' (n := W + w) (by omega) (by omega), w64' (n := W + w - 1) (by omega) (by omega), tdivP (by omega), e, w64' (by omega) (by omega)]
theorem tiles_spec (r : Rect) (w h : Int) : Pure Sg 25 [ag (rectE r), I w, I h] (fun x => x = .tup [I (tilesX r w h), I (tilesY r w h), B (tilesOk r w h)]) := by
  refine pure_of Tryd.func25 rfl (rs := [.tmp 6, .tmp 7, .tmp 8]) rfl rfl mixed (by decide +kernel) (Nat.le_of_ble_eq_true rfl) (argsLt_mem (by simp (maxSteps := 1000000) (disch := omega) only [go_sem])) ?_
  repeat' (first | refine cw_assoc ?_ | refine cw_skips ?_ | refine cw_labels ?_ | ((first | refine cw_step (fun K hK => ?_) | refine cw_last (fun K hK => ?_) | refine cw_stepD (by decide +kernel) (by decide +kernel) (fun K hK => ?_) | refine cw_lastD (by decide +kernel) (by decide +kernel) (fun K hK => ?_) | refine rgB_some ?_ | refine call_a (r13empty_spec _) ?_ | refine gcall_a (fun hg => r13empty_spec _) ?_); (try simp (maxSteps := 1000000) (disch := omega) only [go_sem]); (repeat' (refine And.intro ?_ ?_)); (all_goals first | (refine hK _ ?_; clear hK K) | exact auto_cl | skip)) | ((first | apply cw_ite | apply cw_iteN); (case hf => rfl); (case hc => simp (maxSteps := 1000000) (disch := omega) only [go_sem]; rfl); (all_goals first | (intro hb; (try simp only [decide_eq_true_eq, decide_eq_false_iff_not, beq_iff_eq, beq_eq_false_iff_ne, bne_iff_ne, bne_eq_false_iff_eq, ne_eq, Bool.not_eq_true, Bool.not_eq_false, Bool.not_true, Bool.not_false, Bool.not_eq_eq_eq_not, Int.not_lt, Int.not_le, gt_iff_lt, ge_iff_le, Bool.cond_eq_ite, Bool.if_false_right, Bool.if_true_left, Bool.and_eq_true, Bool.or_eq_true, Bool.and_eq_false_imp, Bool.or_eq_false_iff, Decidable.not_not, beq_true, beq_false, iteT, iteF, cond_true, cond_false] at hb)) | skip)) | exact atN_intro | ((first | apply cw_if | apply cw_cond); (case hc => simp (maxSteps := 1000000) (disch := omega) only [go_sem]; rfl); (all_goals (intro hb; (try simp only [decide_eq_true_eq, decide_eq_false_iff_not, beq_iff_eq, beq_eq_false_iff_ne, bne_iff_ne, bne_eq_false_iff_eq, ne_eq, Bool.not_eq_true, Bool.not_eq_false, Bool.not_true, Bool.not_false, Bool.not_eq_eq_eq_not, Int.not_lt, Int.not_le, gt_iff_lt, ge_iff_le, Bool.cond_eq_ite, Bool.if_false_right, Bool.if_true_left, Bool.and_eq_true, Bool.or_eq_true, Bool.and_eq_false_imp, Bool.or_eq_false_iff, Decidable.not_not, beq_true, beq_false, iteT, iteF, cond_true, cond_false] at hb); try (exfalso; omega)))) | (refine cw_blocks (fun KB hB => ?_)) | (refine cw_block ?_) | ((first | refine cw_exits ?_ | refine cw_exit ?_ | refine cw_skip ?_); simp (maxSteps := 1000000) (disch := omega) only [go_sem]) | (refine hB _ ?_; clear hB KB) | (refine exit_by (S := Sg) (by assumption) ?_) | ((first | refine cw_rets ?_ | refine cw_ret ?_); simp (maxSteps := 1000000) (disch := omega) only [go_sem]; (try clear hB KB); (try clear hK K)))
  · have : tilesOk r w h = false := by
      cases he : emptyR r with
      | true => simp [tilesOk, he]
      | false =>
        have hb2 := emptyR_false (r := r) (by simp [he])
        rw [he, w64' (n := r.x1 - r.x0) (by omega) (by omega), w64' (n := r.y1 - r.y0) (by omega) (by omega)] at hb
        simp only [tilesOk, he, Bool.not_false, Bool.true_and, decide_eq_false_iff_not]
        simp only [Bool.false_eq_true, false_or] at hb
        omega
    simp only [tilesX, tilesY, this, Bool.false_eq_true, if_false]
  · have hb2 := emptyR_false (r := r) (by simp [hb.1.1.1.1])
    rw [w64' (n := r.x1 - r.x0) (by omega) (by omega), w64' (n := r.y1 - r.y0) (by omega) (by omega)] at hb
    have ht : tilesOk r w h = true := by
      simp only [tilesOk, hb.1.1.1.1, Bool.not_false, Bool.true_and, decide_eq_true_eq]
      omega
    rw [tile_div (by omega) (by omega) (by omega) (by omega), tile_div (by omega) (by omega) (by omega) (by omega), tilesX, tilesY, if_pos ht, if_pos ht, ht]
theorem count_spec (r : Rect) (w h : Int) : Pure Sg 94 [ag (rectE r), I w, I h] (fun x => x = .tup [I (tilesX r w h), I (tilesY r w h), B (tilesOk r w h)]) := by
  refine pure_of Tryd.func94 rfl (rs := [.tmp 6, .tmp 7, .tmp 8]) rfl rfl mixed (by decide +kernel) (Nat.le_of_ble_eq_true rfl) (argsLt_mem (by simp (maxSteps := 1000000) (disch := omega) only [go_sem])) ?_
  repeat' (first | refine cw_assoc ?_ | refine cw_skips ?_ | refine cw_labels ?_ | ((first | refine cw_step (fun K hK => ?_) | refine cw_last (fun K hK => ?_) | refine cw_stepD (by decide +kernel) (by decide +kernel) (fun K hK => ?_) | refine cw_lastD (by decide +kernel) (by decide +kernel) (fun K hK => ?_) | refine rgB_some ?_ | refine call_a (rempty_spec _) ?_ | refine gcall_a (fun hg => rempty_spec _) ?_); (try simp (maxSteps := 1000000) (disch := omega) only [go_sem]); (repeat' (refine And.intro ?_ ?_)); (all_goals first | (refine hK _ ?_; clear hK K) | exact auto_cl | skip)) | ((first | apply cw_ite | apply cw_iteN); (case hf => rfl); (case hc => simp (maxSteps := 1000000) (disch := omega) only [go_sem]; rfl); (all_goals first | (intro hb; (try simp only [decide_eq_true_eq, decide_eq_false_iff_not, beq_iff_eq, beq_eq_false_iff_ne, bne_iff_ne, bne_eq_false_iff_eq, ne_eq, Bool.not_eq_true, Bool.not_eq_false, Bool.not_true, Bool.not_false, Bool.not_eq_eq_eq_not, Int.not_lt, Int.not_le, gt_iff_lt, ge_iff_le, Bool.cond_eq_ite, Bool.if_false_right, Bool.if_true_left, Bool.and_eq_true, Bool.or_eq_true, Bool.and_eq_false_imp, Bool.or_eq_false_iff, Decidable.not_not, beq_true, beq_false, iteT, iteF, cond_true, cond_false] at hb)) | skip)) | exact atN_intro | ((first | apply cw_if | apply cw_cond); (case hc => simp (maxSteps := 1000000) (disch := omega) only [go_sem]; rfl); (all_goals (intro hb; (try simp only [decide_eq_true_eq, decide_eq_false_iff_not, beq_iff_eq, beq_eq_false_iff_ne, bne_iff_ne, bne_eq_false_iff_eq, ne_eq, Bool.not_eq_true, Bool.not_eq_false, Bool.not_true, Bool.not_false, Bool.not_eq_eq_eq_not, Int.not_lt, Int.not_le, gt_iff_lt, ge_iff_le, Bool.cond_eq_ite, Bool.if_false_right, Bool.if_true_left, Bool.and_eq_true, Bool.or_eq_true, Bool.and_eq_false_imp, Bool.or_eq_false_iff, Decidable.not_not, beq_true, beq_false, iteT, iteF, cond_true, cond_false] at hb); try (exfalso; omega)))) | (refine cw_blocks (fun KB hB => ?_)) | (refine cw_block ?_) | ((first | refine cw_exits ?_ | refine cw_exit ?_ | refine cw_skip ?_); simp (maxSteps := 1000000) (disch := omega) only [go_sem]) | (refine hB _ ?_; clear hB KB) | (refine exit_by (S := Sg) (by assumption) ?_) | ((first | refine cw_rets ?_ | refine cw_ret ?_); simp (maxSteps := 1000000) (disch := omega) only [go_sem]; (try clear hB KB); (try clear hK K)))
  · have : tilesOk r w h = false := by simp [tilesOk, hb]
    simp only [tilesX, tilesY, this, Bool.false_eq_true, if_false]
  · rename_i he
    have hb2 := emptyR_false (r := r) (by simp [he])
    rw [w64' (n := r.x1 - r.x0) (by omega) (by omega), w64' (n := r.y1 - r.y0) (by omega) (by omega)] at hb
    have : tilesOk r w h = false := by
      simp only [tilesOk, he, Bool.not_false, Bool.true_and, decide_eq_false_iff_not]
      omega
    simp only [tilesX, tilesY, this, Bool.false_eq_true, if_false]
  · rename_i he
    have hb2 := emptyR_false (r := r) (by simp [he])
    rw [w64' (n := r.x1 - r.x0) (by omega) (by omega), w64' (n := r.y1 - r.y0) (by omega) (by omega)] at hb
    have ht : tilesOk r w h = true := by
      simp only [tilesOk, he, Bool.not_false, Bool.true_and, decide_eq_true_eq]
      omega
    rw [tile_div' (by omega) (by omega) (by omega) (by omega), tile_div' (by omega) (by omega) (by omega) (by omega), tilesX, tilesY, if_pos ht, if_pos ht, ht]
end Go.Proofs.YtkjdljcbpbeehaaDoor

set_option linter.unusedSimpArgs false
set_option linter.unusedVariables false
set_option maxRecDepth 8000
set_option maxHeartbeats 2000000
namespace Go.Proofs.YtkjdljcbpbeehaaDoor
open Go Go.SL
open Go.RowKit (wrap64)

def fieldsM (o : Op) : Bool :=
  if o.kind = 3 then decide (o.image = 0 ∧ o.x = 0 ∧ o.y = 0 ∧ o.mask = 0 ∧ o.maskX = 0 ∧ o.maskY = 0 ∧ o.opacity = 0 ∧ o.operator = 0 ∧ o.mode = 0 ∧ o.isolated = false ∧ o.knockout = false)
  else if o.kind = 1 ∧ (o.isolated = true ∨ o.knockout = true) then false
  else if o.kind = 2 ∧ (o.image ≠ 0 ∨ o.x ≠ 0 ∨ o.y ≠ 0) then false
  else decide (o.mask ≠ 0 ∨ o.maskX = 0 ∧ o.maskY = 0)
theorem fields_spec (o : Op) : Pure Sg 96 [ag (opE o)] (fun x => x = .b (B (fieldsM o))) := by
  refine pure_of Tryd.func96 rfl (rs := [.tmp 2]) rfl rfl mixed (by decide +kernel) (Nat.le_of_ble_eq_true rfl) (argsLt_mem (by simp (maxSteps := 1000000) (disch := omega) only [go_sem])) ?_
  repeat' (first | refine cw_assoc ?_ | refine cw_skips ?_ | refine cw_labels ?_ | ((first | refine cw_step (fun K hK => ?_) | refine cw_last (fun K hK => ?_) | refine cw_stepD (by decide +kernel) (by decide +kernel) (fun K hK => ?_) | refine cw_lastD (by decide +kernel) (by decide +kernel) (fun K hK => ?_) | refine rgB_some ?_); (try simp (maxSteps := 1000000) (disch := omega) only [go_sem]); (repeat' (refine And.intro ?_ ?_)); (all_goals first | (refine hK _ ?_; clear hK K) | exact auto_cl | skip)) | ((first | apply cw_ite | apply cw_iteN); (case hf => rfl); (case hc => simp (maxSteps := 1000000) (disch := omega) only [go_sem]; rfl); (all_goals first | (intro hb; (try simp only [decide_eq_true_eq, decide_eq_false_iff_not, beq_iff_eq, beq_eq_false_iff_ne, bne_iff_ne, bne_eq_false_iff_eq, ne_eq, Bool.not_eq_true, Bool.not_eq_false, Bool.not_true, Bool.not_false, Bool.not_eq_eq_eq_not, Int.not_lt, Int.not_le, gt_iff_lt, ge_iff_le, Bool.cond_eq_ite, Bool.if_false_right, Bool.if_true_left, Bool.and_eq_true, Bool.or_eq_true, Bool.and_eq_false_imp, Bool.or_eq_false_iff, Decidable.not_not, beq_true, beq_false, iteT, iteF, cond_true, cond_false] at hb)) | skip)) | exact atN_intro | ((first | apply cw_if | apply cw_cond); (case hc => simp (maxSteps := 1000000) (disch := omega) only [go_sem]; rfl); (all_goals (intro hb; (try simp only [decide_eq_true_eq, decide_eq_false_iff_not, beq_iff_eq, beq_eq_false_iff_ne, bne_iff_ne, bne_eq_false_iff_eq, ne_eq, Bool.not_eq_true, Bool.not_eq_false, Bool.not_true, Bool.not_false, Bool.not_eq_eq_eq_not, Int.not_lt, Int.not_le, gt_iff_lt, ge_iff_le, Bool.cond_eq_ite, Bool.if_false_right, Bool.if_true_left, Bool.and_eq_true, Bool.or_eq_true, Bool.and_eq_false_imp, Bool.or_eq_false_iff, Decidable.not_not, beq_true, beq_false, iteT, iteF, cond_true, cond_false] at hb); try (exfalso; omega)))) | (refine cw_blocks (fun KB hB => ?_)) | (refine cw_block ?_) | ((first | refine cw_exits ?_ | refine cw_exit ?_ | refine cw_skip ?_); simp (maxSteps := 1000000) (disch := omega) only [go_sem]) | (refine hB _ ?_; clear hB KB) | (refine exit_by (S := Sg) (by assumption) ?_) | ((first | refine cw_rets ?_ | refine cw_ret ?_); simp (maxSteps := 1000000) (disch := omega) only [go_sem]; (try clear hB KB); (try clear hK K)))
  · refine bool_eq ?_
    rw [fieldsM, if_pos hb]
    simp only [hb, Bool.and_true, Bool.and_eq_true, beq_iff_eq, Bool.not_eq_true', decide_eq_true_eq, true_and]
  · rw [fieldsM, if_neg (by omega), if_pos hb]
  · rename_i h1 h2
    rw [fieldsM, if_neg h1, if_neg (fun h => by have := h2 h.1; simp [this.1, this.2] at h), if_pos (by omega)]
  · rename_i h1 h2
    refine bool_eq ?_
    rw [fieldsM, if_neg h1, if_neg (fun h => by have := h2 h.1; simp [this.1, this.2] at h), if_neg (by omega)]
    simp only [Bool.or_eq_true, Bool.and_eq_true, beq_iff_eq, bne_iff_ne, decide_eq_true_eq, ne_eq]
theorem spare_spec (o : Op) (h1 : 1 ≤ o.kind) (h3 : o.kind ≤ 3) : Pure Sg 107 [ag (opE o)] (fun x => x = .b (B (!fieldsM o))) := by
  refine pure_of Tryd.func107 rfl (rs := [.tmp 2]) rfl rfl mixed (by decide +kernel) (Nat.le_of_ble_eq_true rfl) (argsLt_mem (by simp (maxSteps := 1000000) (disch := omega) only [go_sem])) ?_
  repeat' (first | refine cw_assoc ?_ | refine cw_skips ?_ | refine cw_labels ?_ | ((first | refine cw_step (fun K hK => ?_) | refine cw_last (fun K hK => ?_) | refine cw_stepD (by decide +kernel) (by decide +kernel) (fun K hK => ?_) | refine cw_lastD (by decide +kernel) (by decide +kernel) (fun K hK => ?_) | refine rgB_some ?_); (try simp (maxSteps := 1000000) (disch := omega) only [go_sem]); (repeat' (refine And.intro ?_ ?_)); (all_goals first | (refine hK _ ?_; clear hK K) | exact auto_cl | skip)) | ((first | apply cw_ite | apply cw_iteN); (case hf => rfl); (case hc => simp (maxSteps := 1000000) (disch := omega) only [go_sem]; rfl); (all_goals first | (intro hb; (try simp only [decide_eq_true_eq, decide_eq_false_iff_not, beq_iff_eq, beq_eq_false_iff_ne, bne_iff_ne, bne_eq_false_iff_eq, ne_eq, Bool.not_eq_true, Bool.not_eq_false, Bool.not_true, Bool.not_false, Bool.not_eq_eq_eq_not, Int.not_lt, Int.not_le, gt_iff_lt, ge_iff_le, Bool.cond_eq_ite, Bool.if_false_right, Bool.if_true_left, Bool.and_eq_true, Bool.or_eq_true, Bool.and_eq_false_imp, Bool.or_eq_false_iff, Decidable.not_not, beq_true, beq_false, iteT, iteF, cond_true, cond_false] at hb)) | skip)) | exact atN_intro | ((first | apply cw_if | apply cw_cond); (case hc => simp (maxSteps := 1000000) (disch := omega) only [go_sem]; rfl); (all_goals (intro hb; (try simp only [decide_eq_true_eq, decide_eq_false_iff_not, beq_iff_eq, beq_eq_false_iff_ne, bne_iff_ne, bne_eq_false_iff_eq, ne_eq, Bool.not_eq_true, Bool.not_eq_false, Bool.not_true, Bool.not_false, Bool.not_eq_eq_eq_not, Int.not_lt, Int.not_le, gt_iff_lt, ge_iff_le, Bool.cond_eq_ite, Bool.if_false_right, Bool.if_true_left, Bool.and_eq_true, Bool.or_eq_true, Bool.and_eq_false_imp, Bool.or_eq_false_iff, Decidable.not_not, beq_true, beq_false, iteT, iteF, cond_true, cond_false] at hb); try (exfalso; omega)))) | (refine cw_blocks (fun KB hB => ?_)) | (refine cw_block ?_) | ((first | refine cw_exits ?_ | refine cw_exit ?_ | refine cw_skip ?_); simp (maxSteps := 1000000) (disch := omega) only [go_sem]) | (refine hB _ ?_; clear hB KB) | (refine exit_by (S := Sg) (by assumption) ?_) | ((first | refine cw_rets ?_ | refine cw_ret ?_); simp (maxSteps := 1000000) (disch := omega) only [go_sem]; (try clear hB KB); (try clear hK K)))
  · refine congrArg (fun b => SV.b (B (!b))) ?_
    rw [Bool.eq_iff_iff, fieldsM, if_pos hb]
    simp
  · refine congrArg (fun b => SV.b (B (!b))) ?_
    rw [Bool.eq_iff_iff]
    by_cases k1 : o.kind = 1
    · cases hi : o.isolated <;> cases hk : o.knockout <;> by_cases hm : o.mask = 0 <;> simp [fieldsM, k1, hi, hk, hm]
    · have k2 : o.kind = 2 := by omega
      by_cases hm : o.mask = 0 <;> by_cases q1 : o.image = 0 <;> by_cases q2 : o.x = 0 <;> by_cases q3 : o.y = 0 <;> simp [fieldsM, k2, hm, q1, q2, q3]

theorem context_spec (l : List Op) (hl : l.length ≤ 4611686018427387904) : Pure Sg 99 [.c (.p (opL l))] (fun x => x = .b (B (l.isEmpty || ((l.getD (l.length - 1) default).isolated && !(l.getD (l.length - 1) default).knockout)))) := by
  refine pure_of Tryd.func99 rfl (rs := [.tmp 2]) rfl rfl mixed (by decide +kernel) (Nat.le_of_ble_eq_true rfl) (argsLt_mem (by simp (maxSteps := 1000000) (disch := omega) only [go_sem])) ?_
  repeat' (first | refine cw_assoc ?_ | refine cw_skips ?_ | refine cw_labels ?_ | ((first | refine cw_step (fun K hK => ?_) | refine cw_last (fun K hK => ?_) | refine cw_stepD (by decide +kernel) (by decide +kernel) (fun K hK => ?_) | refine cw_lastD (by decide +kernel) (by decide +kernel) (fun K hK => ?_) | refine rgB_some ?_); (try simp (maxSteps := 1000000) (disch := omega) only [go_sem]); (repeat' (refine And.intro ?_ ?_)); (all_goals first | (refine hK _ ?_; clear hK K) | exact auto_cl | skip)) | ((first | apply cw_ite | apply cw_iteN); (case hf => rfl); (case hc => simp (maxSteps := 1000000) (disch := omega) only [go_sem]; rfl); (all_goals first | (intro hb; (try simp only [decide_eq_true_eq, decide_eq_false_iff_not, beq_iff_eq, beq_eq_false_iff_ne, bne_iff_ne, bne_eq_false_iff_eq, ne_eq, Bool.not_eq_true, Bool.not_eq_false, Bool.not_true, Bool.not_false, Bool.not_eq_eq_eq_not, Int.not_lt, Int.not_le, gt_iff_lt, ge_iff_le, Bool.cond_eq_ite, Bool.if_false_right, Bool.if_true_left, Bool.and_eq_true, Bool.or_eq_true, Bool.and_eq_false_imp, Bool.or_eq_false_iff, Decidable.not_not, beq_true, beq_false, iteT, iteF, cond_true, cond_false] at hb)) | skip)) | exact atN_intro | ((first | apply cw_if | apply cw_cond); (case hc => simp (maxSteps := 1000000) (disch := omega) only [go_sem]; rfl); (all_goals (intro hb; (try simp only [decide_eq_true_eq, decide_eq_false_iff_not, beq_iff_eq, beq_eq_false_iff_ne, bne_iff_ne, bne_eq_false_iff_eq, ne_eq, Bool.not_eq_true, Bool.not_eq_false, Bool.not_true, Bool.not_false, Bool.not_eq_eq_eq_not, Int.not_lt, Int.not_le, gt_iff_lt, ge_iff_le, Bool.cond_eq_ite, Bool.if_false_right, Bool.if_true_left, Bool.and_eq_true, Bool.or_eq_true, Bool.and_eq_false_imp, Bool.or_eq_false_iff, Decidable.not_not, beq_true, beq_false, iteT, iteF, cond_true, cond_false] at hb); try (exfalso; omega)))) | (refine cw_blocks (fun KB hB => ?_)) | (refine cw_block ?_) | ((first | refine cw_exits ?_ | refine cw_exit ?_ | refine cw_skip ?_); simp (maxSteps := 1000000) (disch := omega) only [go_sem]) | (refine hB _ ?_; clear hB KB) | (refine exit_by (S := Sg) (by assumption) ?_) | ((first | refine cw_rets ?_ | refine cw_ret ?_); simp (maxSteps := 1000000) (disch := omega) only [go_sem]; (try clear hB KB); (try clear hK K)))
  · have : l = [] := List.eq_nil_of_length_eq_zero (by omega)
    subst this; rfl
  · have h1 : ((l.length : Int) - 1).toNat = l.length - 1 := by omega
    have h2 : l.isEmpty = false := by cases l <;> simp_all
    rw [h1, h2]; rfl
theorem near_spec (l : List Int) (hl : l.length ≤ 4611686018427387904) : Pure Sg 93 [.c (.p (ints l))] (fun x => x = .b (B (withinM 1048576 l))) := by
  refine pure_of Tryd.func93 rfl (rs := [.tmp 2]) rfl rfl mixed (by decide +kernel) (Nat.le_of_ble_eq_true rfl) (argsLt_mem (by simp (maxSteps := 1000000) (disch := omega) only [go_sem])) ?_
  repeat' (first | refine cw_assoc ?_ | refine cw_skips ?_ | refine cw_labels ?_ | ((first | refine cw_step (fun K hK => ?_) | refine cw_last (fun K hK => ?_) | refine cw_stepD (by decide +kernel) (by decide +kernel) (fun K hK => ?_) | refine cw_lastD (by decide +kernel) (by decide +kernel) (fun K hK => ?_) | refine rgB_some ?_); (try simp (maxSteps := 1000000) (disch := omega) only [go_sem]); (repeat' (refine And.intro ?_ ?_)); (all_goals first | (refine hK _ ?_; clear hK K) | exact auto_cl | skip)) | ((first | apply cw_ite | apply cw_iteN); (case hf => rfl); (case hc => simp (maxSteps := 1000000) (disch := omega) only [go_sem]; rfl); (all_goals first | (intro hb; (try simp only [decide_eq_true_eq, decide_eq_false_iff_not, beq_iff_eq, beq_eq_false_iff_ne, bne_iff_ne, bne_eq_false_iff_eq, ne_eq, Bool.not_eq_true, Bool.not_eq_false, Bool.not_true, Bool.not_false, Bool.not_eq_eq_eq_not, Int.not_lt, Int.not_le, gt_iff_lt, ge_iff_le, Bool.cond_eq_ite, Bool.if_false_right, Bool.if_true_left, Bool.and_eq_true, Bool.or_eq_true, Bool.and_eq_false_imp, Bool.or_eq_false_iff, Decidable.not_not, beq_true, beq_false, iteT, iteF, cond_true, cond_false] at hb)) | skip)) | exact atN_intro | ((first | apply cw_if | apply cw_cond); (case hc => simp (maxSteps := 1000000) (disch := omega) only [go_sem]; rfl); (all_goals (intro hb; (try simp only [decide_eq_true_eq, decide_eq_false_iff_not, beq_iff_eq, beq_eq_false_iff_ne, bne_iff_ne, bne_eq_false_iff_eq, ne_eq, Bool.not_eq_true, Bool.not_eq_false, Bool.not_true, Bool.not_false, Bool.not_eq_eq_eq_not, Int.not_lt, Int.not_le, gt_iff_lt, ge_iff_le, Bool.cond_eq_ite, Bool.if_false_right, Bool.if_true_left, Bool.and_eq_true, Bool.or_eq_true, Bool.and_eq_false_imp, Bool.or_eq_false_iff, Decidable.not_not, beq_true, beq_false, iteT, iteF, cond_true, cond_false] at hb); try (exfalso; omega)))) | (refine cw_blocks (fun KB hB => ?_)) | (refine cw_block ?_) | ((first | refine cw_exits ?_ | refine cw_exit ?_ | refine cw_skip ?_); simp (maxSteps := 1000000) (disch := omega) only [go_sem]) | (refine hB _ ?_; clear hB KB) | (refine exit_by (S := Sg) (by assumption) ?_) | ((first | refine cw_rets ?_ | refine cw_ret ?_); simp (maxSteps := 1000000) (disch := omega) only [go_sem]; (try clear hB KB); (try clear hK K)))
  refine cw_loop (X := Nat) (fun i => mkSt [(5, .b (.c (.p (ints l)))), (6, .b (I l.length)), (7, .b (I i))] [] 1) (fun i => i ≤ l.length ∧ (l.take i).all (fun v => decide (-1048576 ≤ v ∧ v ≤ 1048576)) = true) (fun i => l.length - i) 0 ?_ ?_ ?_
  · exact ⟨by omega, rfl⟩
  · refine le_of [] rfl (by decide) rfl ?_ ?_
    all_goals simp (maxSteps := 1000000) (disch := omega) only [go_sem]
    repeat' (refine And.intro ?_ ?_)
    all_goals first | rfl | omega | exact .inl rfl | trivial | skip
  · rintro i ⟨hi, ht⟩
    repeat' (first | refine cw_assoc ?_ | refine cw_skips ?_ | refine cw_labels ?_ | ((first | refine cw_step (fun K hK => ?_) | refine cw_last (fun K hK => ?_) | refine cw_stepD (by decide +kernel) (by decide +kernel) (fun K hK => ?_) | refine cw_lastD (by decide +kernel) (by decide +kernel) (fun K hK => ?_) | refine rgB_some ?_); (try simp (maxSteps := 1000000) (disch := omega) only [go_sem]); (repeat' (refine And.intro ?_ ?_)); (all_goals first | (refine hK _ ?_; clear hK K) | exact auto_cl | skip)) | ((first | apply cw_ite | apply cw_iteN); (case hf => rfl); (case hc => simp (maxSteps := 1000000) (disch := omega) only [go_sem]; rfl); (all_goals first | (intro hb; (try simp only [decide_eq_true_eq, decide_eq_false_iff_not, beq_iff_eq, beq_eq_false_iff_ne, bne_iff_ne, bne_eq_false_iff_eq, ne_eq, Bool.not_eq_true, Bool.not_eq_false, Bool.not_true, Bool.not_false, Bool.not_eq_eq_eq_not, Int.not_lt, Int.not_le, gt_iff_lt, ge_iff_le, Bool.cond_eq_ite, Bool.if_false_right, Bool.if_true_left, Bool.and_eq_true, Bool.or_eq_true, Bool.and_eq_false_imp, Bool.or_eq_false_iff, Decidable.not_not, beq_true, beq_false, iteT, iteF, cond_true, cond_false] at hb)) | skip)) | exact atN_intro | ((first | apply cw_if | apply cw_cond); (case hc => simp (maxSteps := 1000000) (disch := omega) only [go_sem]; rfl); (all_goals (intro hb; (try simp only [decide_eq_true_eq, decide_eq_false_iff_not, beq_iff_eq, beq_eq_false_iff_ne, bne_iff_ne, bne_eq_false_iff_eq, ne_eq, Bool.not_eq_true, Bool.not_eq_false, Bool.not_true, Bool.not_false, Bool.not_eq_eq_eq_not, Int.not_lt, Int.not_le, gt_iff_lt, ge_iff_le, Bool.cond_eq_ite, Bool.if_false_right, Bool.if_true_left, Bool.and_eq_true, Bool.or_eq_true, Bool.and_eq_false_imp, Bool.or_eq_false_iff, Decidable.not_not, beq_true, beq_false, iteT, iteF, cond_true, cond_false] at hb); try (exfalso; omega)))) | (refine cw_blocks (fun KB hB => ?_)) | (refine cw_block ?_) | ((first | refine cw_exits ?_ | refine cw_exit ?_ | refine cw_skip ?_); simp (maxSteps := 1000000) (disch := omega) only [go_sem]) | (refine hB _ ?_; clear hB KB) | (refine exit_by (S := Sg) (by assumption) ?_) | ((first | refine cw_rets ?_ | refine cw_ret ?_); simp (maxSteps := 1000000) (disch := omega) only [go_sem]; (try clear hB KB); (try clear hK K)))
    · have : withinM 1048576 l = false := by
        rw [withinM, List.all_eq_false]
        refine ⟨l.getD i default, ?_, ?_⟩
        · rw [List.getD_eq_getElem?_getD, List.getElem?_eq_getElem (by omega)]; exact List.getElem_mem _
        · simp only [decide_eq_true_eq]; simp only [Int.toNat_natCast] at hb; omega
      rw [this]
    · rw [thenQ_normal]
      refine wk_loop (i + 1) ?_ ⟨by omega, ?_⟩ (by omega)
      · refine le_of [] rfl (by decide) rfl ?_ ?_
        all_goals simp (maxSteps := 1000000) (disch := omega) only [go_sem]
        repeat' (refine And.intro ?_ ?_)
        all_goals first | rfl | omega | exact .inl rfl | trivial | skip
      · rw [List.take_add_one, List.all_append, ht, List.getElem?_eq_getElem (by omega)]
        simp only [Int.toNat_natCast, List.getD_eq_getElem?_getD, List.getElem?_eq_getElem (show i < l.length by omega), Option.getD_some] at hb
        simp only [Option.toList_some, List.all_cons, List.all_nil, Bool.and_true, Bool.true_and, decide_eq_true_eq]
        omega
    · have : withinM 1048576 l = true := by
        rw [withinM]
        rwa [List.take_of_length_le (by omega)] at ht
      rw [this]
theorem sameInts_spec (a b : List Int) (ha : a.length ≤ 4611686018427387904) (hb : b.length ≤ 4611686018427387904) : Pure Sg 18 [.c (.p (ints a)), .c (.p (ints b))] (fun x => x = .b (B (decide (a = b)))) := by
  refine pure_of Tryd.func18 rfl (rs := [.tmp 4]) rfl rfl mixed (by decide +kernel) (Nat.le_of_ble_eq_true rfl) (argsLt_mem (by simp (maxSteps := 1000000) (disch := omega) only [go_sem])) ?_
  repeat' (first | refine cw_assoc ?_ | refine cw_skips ?_ | refine cw_labels ?_ | ((first | refine cw_step (fun K hK => ?_) | refine cw_last (fun K hK => ?_) | refine cw_stepD (by decide +kernel) (by decide +kernel) (fun K hK => ?_) | refine cw_lastD (by decide +kernel) (by decide +kernel) (fun K hK => ?_) | refine rgB_some ?_); (try simp (maxSteps := 1000000) (disch := omega) only [go_sem]); (repeat' (refine And.intro ?_ ?_)); (all_goals first | (refine hK _ ?_; clear hK K) | exact auto_cl | skip)) | ((first | apply cw_ite | apply cw_iteN); (case hf => rfl); (case hc => simp (maxSteps := 1000000) (disch := omega) only [go_sem]; rfl); (all_goals first | (intro hb; (try simp only [decide_eq_true_eq, decide_eq_false_iff_not, beq_iff_eq, beq_eq_false_iff_ne, bne_iff_ne, bne_eq_false_iff_eq, ne_eq, Bool.not_eq_true, Bool.not_eq_false, Bool.not_true, Bool.not_false, Bool.not_eq_eq_eq_not, Int.not_lt, Int.not_le, gt_iff_lt, ge_iff_le, Bool.cond_eq_ite, Bool.if_false_right, Bool.if_true_left, Bool.and_eq_true, Bool.or_eq_true, Bool.and_eq_false_imp, Bool.or_eq_false_iff, Decidable.not_not, beq_true, beq_false, iteT, iteF, cond_true, cond_false] at hb)) | skip)) | exact atN_intro | ((first | apply cw_if | apply cw_cond); (case hc => simp (maxSteps := 1000000) (disch := omega) only [go_sem]; rfl); (all_goals (intro hb; (try simp only [decide_eq_true_eq, decide_eq_false_iff_not, beq_iff_eq, beq_eq_false_iff_ne, bne_iff_ne, bne_eq_false_iff_eq, ne_eq, Bool.not_eq_true, Bool.not_eq_false, Bool.not_true, Bool.not_false, Bool.not_eq_eq_eq_not, Int.not_lt, Int.not_le, gt_iff_lt, ge_iff_le, Bool.cond_eq_ite, Bool.if_false_right, Bool.if_true_left, Bool.and_eq_true, Bool.or_eq_true, Bool.and_eq_false_imp, Bool.or_eq_false_iff, Decidable.not_not, beq_true, beq_false, iteT, iteF, cond_true, cond_false] at hb); try (exfalso; omega)))) | (refine cw_blocks (fun KB hB => ?_)) | (refine cw_block ?_) | ((first | refine cw_exits ?_ | refine cw_exit ?_ | refine cw_skip ?_); simp (maxSteps := 1000000) (disch := omega) only [go_sem]) | (refine hB _ ?_; clear hB KB) | (refine exit_by (S := Sg) (by assumption) ?_) | ((first | refine cw_rets ?_ | refine cw_ret ?_); simp (maxSteps := 1000000) (disch := omega) only [go_sem]; (try clear hB KB); (try clear hK K)))
  · rw [decide_eq_false (by intro h; subst h; exact hb rfl)]
  refine cw_loop (X := Nat) (fun i => mkSt [(0, .b (.c (.p (ints a)))), (1, .b (.c (.p (ints b)))), (5, .b (I i))] [] 1) (fun i => i ≤ a.length ∧ a.take i = b.take i) (fun i => a.length - i) 0 ?_ ?_ ?_
  · exact ⟨by omega, rfl⟩
  · refine le_of [] rfl (by decide) rfl ?_ ?_
    all_goals simp (maxSteps := 1000000) (disch := omega) only [go_sem]
    repeat' (refine And.intro ?_ ?_)
    all_goals first | rfl | omega | exact .inl rfl | trivial | skip
  · rintro i ⟨hi, ht⟩
    repeat' (first | refine cw_assoc ?_ | refine cw_skips ?_ | refine cw_labels ?_ | ((first | refine cw_step (fun K hK => ?_) | refine cw_last (fun K hK => ?_) | refine cw_stepD (by decide +kernel) (by decide +kernel) (fun K hK => ?_) | refine cw_lastD (by decide +kernel) (by decide +kernel) (fun K hK => ?_) | refine rgB_some ?_); (try simp (maxSteps := 1000000) (disch := omega) only [go_sem]); (repeat' (refine And.intro ?_ ?_)); (all_goals first | (refine hK _ ?_; clear hK K) | exact auto_cl | skip)) | ((first | apply cw_ite | apply cw_iteN); (case hf => rfl); (case hc => simp (maxSteps := 1000000) (disch := omega) only [go_sem]; rfl); (all_goals first | (intro hb; (try simp only [decide_eq_true_eq, decide_eq_false_iff_not, beq_iff_eq, beq_eq_false_iff_ne, bne_iff_ne, bne_eq_false_iff_eq, ne_eq, Bool.not_eq_true, Bool.not_eq_false, Bool.not_true, Bool.not_false, Bool.not_eq_eq_eq_not, Int.not_lt, Int.not_le, gt_iff_lt, ge_iff_le, Bool.cond_eq_ite, Bool.if_false_right, Bool.if_true_left, Bool.and_eq_true, Bool.or_eq_true, Bool.and_eq_false_imp, Bool.or_eq_false_iff, Decidable.not_not, beq_true, beq_false, iteT, iteF, cond_true, cond_false] at hb)) | skip)) | exact atN_intro | ((first | apply cw_if | apply cw_cond); (case hc => simp (maxSteps := 1000000) (disch := omega) only [go_sem]; rfl); (all_goals (intro hb; (try simp only [decide_eq_true_eq, decide_eq_false_iff_not, beq_iff_eq, beq_eq_false_iff_ne, bne_iff_ne, bne_eq_false_iff_eq, ne_eq, Bool.not_eq_true, Bool.not_eq_false, Bool.not_true, Bool.not_false, Bool.not_eq_eq_eq_not, Int.not_lt, Int.not_le, gt_iff_lt, ge_iff_le, Bool.cond_eq_ite, Bool.if_false_right, Bool.if_true_left, Bool.and_eq_true, Bool.or_eq_true, Bool.and_eq_false_imp, Bool.or_eq_false_iff, Decidable.not_not, beq_true, beq_false, iteT, iteF, cond_true, cond_false] at hb); try (exfalso; omega)))) | (refine cw_blocks (fun KB hB => ?_)) | (refine cw_block ?_) | ((first | refine cw_exits ?_ | refine cw_exit ?_ | refine cw_skip ?_); simp (maxSteps := 1000000) (disch := omega) only [go_sem]) | (refine hB _ ?_; clear hB KB) | (refine exit_by (S := Sg) (by assumption) ?_) | ((first | refine cw_rets ?_ | refine cw_ret ?_); simp (maxSteps := 1000000) (disch := omega) only [go_sem]; (try clear hB KB); (try clear hK K)))
    · rw [decide_eq_false (by intro h; subst h; exact hb rfl)]
    · rw [thenQ_normal]
      refine wk_loop (i + 1) ?_ ⟨by omega, ?_⟩ (by omega)
      · refine le_of [] rfl (by decide) rfl ?_ ?_
        all_goals simp (maxSteps := 1000000) (disch := omega) only [go_sem]
        repeat' (refine And.intro ?_ ?_)
        all_goals first | rfl | omega | exact .inl rfl | trivial | skip
      · simp only [Int.toNat_natCast] at hb
        rw [List.getD_eq_getElem?_getD, List.getElem?_eq_getElem (by omega), List.getD_eq_getElem?_getD, List.getElem?_eq_getElem (by omega)] at hb
        rw [List.take_add_one, List.take_add_one, ht, List.getElem?_eq_getElem (by omega), List.getElem?_eq_getElem (by omega)]
        simp only [Option.getD_some] at hb
        rw [hb]
    · have : a = b := by rwa [List.take_of_length_le (by omega), List.take_of_length_le (by omega)] at ht
      rw [decide_eq_true this]
end Go.Proofs.YtkjdljcbpbeehaaDoor

set_option linter.unusedSimpArgs false
set_option linter.unusedVariables false
set_option maxRecDepth 8000
set_option maxHeartbeats 2000000
namespace Go.Proofs.YtkjdljcbpbeehaaDoor
open Go Go.SL
open Go.RowKit (wrap64)

/-- Element i is in its range and not among those before it. -/
def ordAt (x : List Int) (n : Int) (i : Nat) : Bool := decide (0 ≤ x.getD i 0 ∧ x.getD i 0 < n) && !(x.take i).contains (x.getD i 0)
def ordL (l : List Int) (n : Int) : List Int := if l.length = 0 then iota n.toNat else l
def ordOk (l : List Int) (n : Int) : Bool := decide (0 ≤ n ∧ n ≤ 16777216 ∧ (l.length = 0 ∨ l.length = n)) && (List.range n.toNat).all (ordAt (ordL l n) n)
def orderM (l : List Int) (n : Int) : List Int := if ordOk l n = true then ordL l n else []
theorem iota_getD {n i : Nat} (h : i < n) : (iota n).getD i 0 = i := by simp [iota, h]
theorem ordL_len {l : List Int} {n : Int} (h0 : 0 ≤ n) (h : l.length = 0 ∨ l.length = n) : (ordL l n).length = n.toNat := by
  unfold ordL; split
  · exact iota_len _
  · omega
theorem ordOk_no {l : List Int} {n : Int} {i : Nat} (h0 : 0 ≤ n) (hi : (i : Int) < n) (h : ordAt (ordL l n) n i = false) : ordOk l n = false := by
  rw [ordOk, Bool.and_eq_false_imp]
  intro _
  rw [List.all_eq_false]
  exact ⟨i, List.mem_range.2 (by omega), by simp [h]⟩
def seenF (x : List Int) (i : Nat) : Nat → Nat → PV := fun a _ => PB ((x.take i).contains (a : Int))
theorem seen_step {x : List Int} {i : Nat} (hi : i < x.length) (h0 : 0 ≤ x.getD i 0) (a j : Nat) : (if a = (x.getD i 0).toNat then PB true else seenF x i a j) = seenF x (i + 1) a j := by
  have e : x.take (i + 1) = x.take i ++ [x.getD i 0] := by
    rw [List.take_add_one, List.getElem?_eq_getElem hi, List.getD_eq_getElem?_getD, List.getElem?_eq_getElem hi]; rfl
  have h : (x.take (i + 1)).contains (a : Int) = ((x.take i).contains (a : Int) || decide ((a : Int) = x.getD i 0)) := by
    rw [e, Bool.eq_iff_iff]
    simp
  unfold seenF
  rw [h]
  by_cases ha : a = (x.getD i 0).toNat
  · rw [if_pos ha, decide_eq_true (by omega), Bool.or_true]
  · rw [if_neg ha, decide_eq_false (by omega), Bool.or_false]

theorem tileOrder_spec (l : List Int) (n : Int) (hl : l.length ≤ 4611686018427387904) :
    Pure Sg 95 [.c (.p (ints l)), I n] (fun r => r = .tup [.c (.p (ints (orderM l n))), B (ordOk l n)]) := by
  refine pure_le ?_
  refine pure_of Tryd.func95 rfl (rs := [.tmp 4, .tmp 5]) rfl rfl mixed (by decide +kernel) (Nat.le_of_ble_eq_true rfl) (argsLt_mem (by simp (maxSteps := 1000000) (disch := omega) only [go_sem])) ?_
  repeat' (first | refine cw_assoc ?_ | refine cw_skips ?_ | refine cw_labels ?_ | ((first | refine cw_step (fun K hK => ?_) | refine cw_last (fun K hK => ?_) | refine cw_stepD (by decide +kernel) (by decide +kernel) (fun K hK => ?_) | refine cw_lastD (by decide +kernel) (by decide +kernel) (fun K hK => ?_) | refine rgB_some ?_); (try simp (maxSteps := 1000000) (disch := omega) only [go_sem]); (repeat' (refine And.intro ?_ ?_)); (all_goals first | (refine hK _ ?_; clear hK K) | exact auto_cl | skip)) | ((first | apply cw_ite | apply cw_iteN); (case hf => rfl); (case hc => simp (maxSteps := 1000000) (disch := omega) only [go_sem]; rfl); (all_goals first | (intro hb; (try simp only [decide_eq_true_eq, decide_eq_false_iff_not, beq_iff_eq, beq_eq_false_iff_ne, bne_iff_ne, bne_eq_false_iff_eq, ne_eq, Bool.not_eq_true, Bool.not_eq_false, Bool.not_true, Bool.not_false, Bool.not_eq_eq_eq_not, Int.not_lt, Int.not_le, gt_iff_lt, ge_iff_le, Bool.cond_eq_ite, Bool.if_false_right, Bool.if_true_left, Bool.and_eq_true, Bool.or_eq_true, Bool.and_eq_false_imp, Bool.or_eq_false_iff, Decidable.not_not, beq_true, beq_false, iteT, iteF, cond_true, cond_false] at hb)) | skip)) | exact atN_intro | ((first | apply cw_if | apply cw_cond); (case hc => simp (maxSteps := 1000000) (disch := omega) only [go_sem]; rfl); (all_goals (intro hb; (try simp only [decide_eq_true_eq, decide_eq_false_iff_not, beq_iff_eq, beq_eq_false_iff_ne, bne_iff_ne, bne_eq_false_iff_eq, ne_eq, Bool.not_eq_true, Bool.not_eq_false, Bool.not_true, Bool.not_false, Bool.not_eq_eq_eq_not, Int.not_lt, Int.not_le, gt_iff_lt, ge_iff_le, Bool.cond_eq_ite, Bool.if_false_right, Bool.if_true_left, Bool.and_eq_true, Bool.or_eq_true, Bool.and_eq_false_imp, Bool.or_eq_false_iff, Decidable.not_not, beq_true, beq_false, iteT, iteF, cond_true, cond_false] at hb); try (exfalso; omega)))) | (refine cw_blocks (fun KB hB => ?_)) | (refine cw_block ?_) | ((first | refine cw_exits ?_ | refine cw_exit ?_ | refine cw_skip ?_); simp (maxSteps := 1000000) (disch := omega) only [go_sem]) | (refine hB _ ?_; clear hB KB) | (refine exit_by (S := Sg) (by assumption) ?_) | ((first | refine cw_rets ?_ | refine cw_ret ?_); simp (maxSteps := 1000000) (disch := omega) only [go_sem]; (try clear hB KB); (try clear hK K)))
  · have : ordOk l n = false := by
      rw [ordOk, decide_eq_false (by omega)]; rfl
    rw [orderM, this]
    exact sle_tup ⟨ble_c nil_le, ble_rfl trivial, trivial⟩
  refine cw_loop (X := Nat) (fun i => mkSt [(0, .b (.c (.p (ints l)))), (1, .b (I n)), (6, .b (.c (.own 1 n.toNat))), (7, .b (.c (.own 2 n.toNat))), (31, .b (I n)), (32, .b (I i))]
    [(1, .arr 3 1 n.toNat (fun a _ => PI (if a < i then (ordL l n).getD a 0 else 0))), (2, .arr 4 1 n.toNat (seenF (ordL l n) i))] 3) (fun i => (i : Int) ≤ n ∧ ∀ k, k < i → ordAt (ordL l n) n k = true) (fun i => n.toNat - i) 0 ?_ ?_ ?_
  · exact ⟨by omega, fun k hk => by omega⟩
  · refine le_of [(1, some 0), (2, some 1)] rfl (by decide) rfl ?_ ?_
    all_goals simp (maxSteps := 1000000) (disch := omega) only [go_sem]
    repeat' (refine And.intro ?_ ?_)
    all_goals first | rfl | omega | exact .inl rfl | trivial | skip
    · rw [Int.toNat_of_nonneg (by omega)]; exact .inl rfl
    · refine .inr fun a ha j hj => ?_
      have : j = 0 := by omega
      subst this
      exact PV.le_refl _
    · refine .inr fun a ha j hj => ?_
      have : j = 0 := by omega
      subst this
      exact PV.le_refl _
  · rintro i ⟨hi, hok⟩
    have hx : i < n.toNat → (0 ≤ n ∧ (l.length = 0 ∨ l.length = n)) → (if 0 < (l.length : Int) then l.getD (i : Int).toNat default else (i : Int)) = (ordL l n).getD i 0 := fun h1 h2 => by
      rw [ordL, Int.toNat_natCast]
      by_cases h0 : l.length = 0
      · rw [if_neg (by omega), if_pos h0, iota_getD h1]
      · rw [if_pos (by omega), if_neg h0]; rfl
    repeat' (first | refine cw_assoc ?_ | refine cw_skips ?_ | refine cw_labels ?_ | ((first | refine cw_step (fun K hK => ?_) | refine cw_last (fun K hK => ?_) | refine cw_stepD (by decide +kernel) (by decide +kernel) (fun K hK => ?_) | refine cw_lastD (by decide +kernel) (by decide +kernel) (fun K hK => ?_) | refine rgB_some ?_); (try simp (maxSteps := 1000000) (disch := omega) only [go_sem]); (repeat' (refine And.intro ?_ ?_)); (all_goals first | (refine hK _ ?_; clear hK K) | exact auto_cl | skip)) | ((first | apply cw_ite | apply cw_iteN); (case hf => rfl); (case hc => simp (maxSteps := 1000000) (disch := omega) only [go_sem]; rfl); (all_goals first | (intro hb; (try simp only [decide_eq_true_eq, decide_eq_false_iff_not, beq_iff_eq, beq_eq_false_iff_ne, bne_iff_ne, bne_eq_false_iff_eq, ne_eq, Bool.not_eq_true, Bool.not_eq_false, Bool.not_true, Bool.not_false, Bool.not_eq_eq_eq_not, Int.not_lt, Int.not_le, gt_iff_lt, ge_iff_le, Bool.cond_eq_ite, Bool.if_false_right, Bool.if_true_left, Bool.and_eq_true, Bool.or_eq_true, Bool.and_eq_false_imp, Bool.or_eq_false_iff, Decidable.not_not, beq_true, beq_false, iteT, iteF, cond_true, cond_false] at hb)) | skip)) | exact atN_intro | ((first | apply cw_if | apply cw_cond); (case hc => simp (maxSteps := 1000000) (disch := omega) only [go_sem]; rfl); (all_goals (intro hb; (try simp only [decide_eq_true_eq, decide_eq_false_iff_not, beq_iff_eq, beq_eq_false_iff_ne, bne_iff_ne, bne_eq_false_iff_eq, ne_eq, Bool.not_eq_true, Bool.not_eq_false, Bool.not_true, Bool.not_false, Bool.not_eq_eq_eq_not, Int.not_lt, Int.not_le, gt_iff_lt, ge_iff_le, Bool.cond_eq_ite, Bool.if_false_right, Bool.if_true_left, Bool.and_eq_true, Bool.or_eq_true, Bool.and_eq_false_imp, Bool.or_eq_false_iff, Decidable.not_not, beq_true, beq_false, iteT, iteF, cond_true, cond_false] at hb); try (exfalso; omega)))) | (refine cw_blocks (fun KB hB => ?_)) | (refine cw_block ?_) | ((first | refine cw_exits ?_ | refine cw_exit ?_ | refine cw_skip ?_); simp (maxSteps := 1000000) (disch := omega) only [go_sem]) | (refine hB _ ?_; clear hB KB) | (refine exit_by (S := Sg) (by assumption) ?_) | ((first | refine cw_rets ?_ | refine cw_ret ?_); simp (maxSteps := 1000000) (disch := omega) only [go_sem]; (try clear hB KB); (try clear hK K)))
    · rw [hx (by omega) (by omega)] at hb
      have : ordOk l n = false := by
        refine ordOk_no (i := i) (by omega) (by omega) ?_
        rw [ordAt]
        by_cases h1 : 0 ≤ (ordL l n).getD i 0 ∧ (ordL l n).getD i 0 < n
        · rcases hb with h | h
          · omega
          · rw [Int.toNat_of_nonneg h1.1] at h
            rw [h]; simp
        · rw [decide_eq_false h1]; rfl
      rw [orderM, this]
      exact sle_tup ⟨ble_c nil_le, ble_rfl trivial, trivial⟩
    · rw [hx (by omega) (by omega)] at hb
      rw [thenQ_normal]
      refine wk_loop (i + 1) ?_ ⟨by omega, fun k hk => ?_⟩ (by omega)
      · have hlen := ordL_len (l := l) (n := n) (by omega) (by omega)
        refine le_of [(1, some 1), (2, some 2)] rfl (by decide) rfl ?_ ?_
        all_goals simp (maxSteps := 1000000) (disch := omega) only [go_sem]
        repeat' (refine And.intro ?_ ?_)
        all_goals first | rfl | omega | exact .inl rfl | trivial | skip
        · refine .inr fun a ha j hj => ?_
          have : j = 0 := by omega
          subst this
          have e : ∀ p : Prop, [Decidable p] → (if p then PI (l.getD (i : Int).toNat default) else PI (i : Int)) = PI (if p then l.getD (i : Int).toNat default else (i : Int)) := fun p _ => by split <;> rfl
          by_cases h : a = i
          · subst h
            simp only [Int.toNat_natCast, gt_iff_lt] at hx ⊢
            have e2 : (if a < a + 1 then (ordL l n).getD a 0 else 0) = (if 0 < (l.length : Int) then l.getD a default else (a : Int)) := by rw [hx (by omega) (by omega), if_pos (by omega)]
            rw [e2]
            by_cases q : 0 < (l.length : Int)
            · simp only [if_pos q]; exact PV.le_refl _
            · simp only [if_neg q]; exact PV.le_refl _
          · simp only [Int.toNat_natCast, gt_iff_lt, if_neg h]
            rw [show (if a < i + 1 then (ordL l n).getD a 0 else 0) = (if a < i then (ordL l n).getD a 0 else 0) by
              by_cases h2 : a < i
              · rw [if_pos h2, if_pos (by omega)]
              · rw [if_neg h2, if_neg (by omega)]]
            split <;> exact PV.le_refl _
        · refine .inr fun a ha j hj => ?_
          have : j = 0 := by omega
          subst this
          simp only [gt_iff_lt, hx (by omega) (by omega)]
          rw [← seen_step (by omega) hb.1.1]
          by_cases h : a = ((ordL l n).getD i 0).toNat
          · rw [if_pos h, if_pos h]; exact PV.le_refl _
          · rw [if_neg h, if_neg h]; exact PV.le_refl _
      · by_cases h : k = i
        · subst h
          rw [Int.toNat_of_nonneg hb.1.1] at hb
          rw [ordAt, decide_eq_true hb.1, hb.2]; rfl
        · exact hok k (by omega)
    · have e : ordOk l n = true := by
        rw [ordOk, decide_eq_true (by omega), Bool.true_and, List.all_eq_true]
        exact fun k hk => hok k (by have := List.mem_range.1 hk; omega)
      have hlen := ordL_len (l := l) (n := n) (by omega) (by omega)
      rw [orderM, if_pos e, e, hlen]
      refine sle_tup ⟨ble_c (lst_le fun a ha j hj => ?_), ble_rfl trivial, trivial⟩
      have : j = 0 := by omega
      subst this
      rw [if_pos (by omega)]; rfl

theorem r13order_spec (l : List Int) (n : Int) (hl : l.length ≤ 4611686018427387904) :
    Pure Sg 106 [.c (.p (ints l)), I n] (fun r => r = .tup [.c (.p (ints (orderM l n))), B (ordOk l n)]) := by
  refine pure_le ?_
  refine pure_of Tryd.func106 rfl (rs := [.tmp 4, .tmp 5]) rfl rfl mixed (by decide +kernel) (Nat.le_of_ble_eq_true rfl) (argsLt_mem (by simp (maxSteps := 1000000) (disch := omega) only [go_sem])) ?_
  repeat' (first | refine cw_assoc ?_ | refine cw_skips ?_ | refine cw_labels ?_ | ((first | refine cw_step (fun K hK => ?_) | refine cw_last (fun K hK => ?_) | refine cw_stepD (by decide +kernel) (by decide +kernel) (fun K hK => ?_) | refine cw_lastD (by decide +kernel) (by decide +kernel) (fun K hK => ?_) | refine rgB_some ?_); (try simp (maxSteps := 1000000) (disch := omega) only [go_sem]); (repeat' (refine And.intro ?_ ?_)); (all_goals first | (refine hK _ ?_; clear hK K) | exact auto_cl | skip)) | ((first | apply cw_ite | apply cw_iteN); (case hf => rfl); (case hc => simp (maxSteps := 1000000) (disch := omega) only [go_sem]; rfl); (all_goals first | (intro hb; (try simp only [decide_eq_true_eq, decide_eq_false_iff_not, beq_iff_eq, beq_eq_false_iff_ne, bne_iff_ne, bne_eq_false_iff_eq, ne_eq, Bool.not_eq_true, Bool.not_eq_false, Bool.not_true, Bool.not_false, Bool.not_eq_eq_eq_not, Int.not_lt, Int.not_le, gt_iff_lt, ge_iff_le, Bool.cond_eq_ite, Bool.if_false_right, Bool.if_true_left, Bool.and_eq_true, Bool.or_eq_true, Bool.and_eq_false_imp, Bool.or_eq_false_iff, Decidable.not_not, beq_true, beq_false, iteT, iteF, cond_true, cond_false] at hb)) | skip)) | exact atN_intro | ((first | apply cw_if | apply cw_cond); (case hc => simp (maxSteps := 1000000) (disch := omega) only [go_sem]; rfl); (all_goals (intro hb; (try simp only [decide_eq_true_eq, decide_eq_false_iff_not, beq_iff_eq, beq_eq_false_iff_ne, bne_iff_ne, bne_eq_false_iff_eq, ne_eq, Bool.not_eq_true, Bool.not_eq_false, Bool.not_true, Bool.not_false, Bool.not_eq_eq_eq_not, Int.not_lt, Int.not_le, gt_iff_lt, ge_iff_le, Bool.cond_eq_ite, Bool.if_false_right, Bool.if_true_left, Bool.and_eq_true, Bool.or_eq_true, Bool.and_eq_false_imp, Bool.or_eq_false_iff, Decidable.not_not, beq_true, beq_false, iteT, iteF, cond_true, cond_false] at hb); try (exfalso; omega)))) | (refine cw_blocks (fun KB hB => ?_)) | (refine cw_block ?_) | ((first | refine cw_exits ?_ | refine cw_exit ?_ | refine cw_skip ?_); simp (maxSteps := 1000000) (disch := omega) only [go_sem]) | (refine hB _ ?_; clear hB KB) | (refine exit_by (S := Sg) (by assumption) ?_) | ((first | refine cw_rets ?_ | refine cw_ret ?_); simp (maxSteps := 1000000) (disch := omega) only [go_sem]; (try clear hB KB); (try clear hK K)))
  · have : ordOk l n = false := by
      rw [ordOk, decide_eq_false (by omega)]; rfl
    rw [orderM, this]
    exact sle_tup ⟨ble_c nil_le, ble_rfl trivial, trivial⟩
  refine cw_loop (X := Nat) (fun i => mkSt [(0, .b (.c (.p (ints l)))), (1, .b (I n)), (6, .b (.c (.own 2 n.toNat))), (7, .b (.c (.own 1 i))), (8, .b (I i))]
    [(1, .arr 3 1 i (fnOf intE ((ordL l n).take i))), (2, .arr 4 1 n.toNat (seenF (ordL l n) i))] 3) (fun i => (i : Int) ≤ n ∧ ∀ k, k < i → ordAt (ordL l n) n k = true) (fun i => n.toNat - i) 0 ?_ ?_ ?_
  · exact ⟨by omega, fun k hk => by omega⟩
  · refine le_of [(1, none), (2, some 0)] rfl (by decide) rfl ?_ ?_
    all_goals simp (maxSteps := 1000000) (disch := omega) only [go_sem]
    repeat' (refine And.intro ?_ ?_)
    all_goals first | rfl | omega | exact .inl rfl | trivial | skip
    refine .inr fun a ha j hj => ?_
    have : j = 0 := by omega
    subst this
    exact PV.le_refl _
  · rintro i ⟨hi, hok⟩
    have hx : i < n.toNat → (0 ≤ n ∧ (l.length = 0 ∨ l.length = n)) → (if 0 < (l.length : Int) then l.getD (i : Int).toNat default else (i : Int)) = (ordL l n).getD i 0 := fun h1 h2 => by
      rw [ordL, Int.toNat_natCast]
      by_cases h0 : l.length = 0
      · rw [if_neg (by omega), if_pos h0, iota_getD h1]
      · rw [if_pos (by omega), if_neg h0]; rfl
    repeat' (first | refine cw_assoc ?_ | refine cw_skips ?_ | refine cw_labels ?_ | ((first | refine cw_step (fun K hK => ?_) | refine cw_last (fun K hK => ?_) | refine cw_stepD (by decide +kernel) (by decide +kernel) (fun K hK => ?_) | refine cw_lastD (by decide +kernel) (by decide +kernel) (fun K hK => ?_) | refine rgB_some ?_); (try simp (maxSteps := 1000000) (disch := omega) only [go_sem]); (repeat' (refine And.intro ?_ ?_)); (all_goals first | (refine hK _ ?_; clear hK K) | exact auto_cl | skip)) | ((first | apply cw_ite | apply cw_iteN); (case hf => rfl); (case hc => simp (maxSteps := 1000000) (disch := omega) only [go_sem]; rfl); (all_goals first | (intro hb; (try simp only [decide_eq_true_eq, decide_eq_false_iff_not, beq_iff_eq, beq_eq_false_iff_ne, bne_iff_ne, bne_eq_false_iff_eq, ne_eq, Bool.not_eq_true, Bool.not_eq_false, Bool.not_true, Bool.not_false, Bool.not_eq_eq_eq_not, Int.not_lt, Int.not_le, gt_iff_lt, ge_iff_le, Bool.cond_eq_ite, Bool.if_false_right, Bool.if_true_left, Bool.and_eq_true, Bool.or_eq_true, Bool.and_eq_false_imp, Bool.or_eq_false_iff, Decidable.not_not, beq_true, beq_false, iteT, iteF, cond_true, cond_false] at hb)) | skip)) | exact atN_intro | ((first | apply cw_if | apply cw_cond); (case hc => simp (maxSteps := 1000000) (disch := omega) only [go_sem]; rfl); (all_goals (intro hb; (try simp only [decide_eq_true_eq, decide_eq_false_iff_not, beq_iff_eq, beq_eq_false_iff_ne, bne_iff_ne, bne_eq_false_iff_eq, ne_eq, Bool.not_eq_true, Bool.not_eq_false, Bool.not_true, Bool.not_false, Bool.not_eq_eq_eq_not, Int.not_lt, Int.not_le, gt_iff_lt, ge_iff_le, Bool.cond_eq_ite, Bool.if_false_right, Bool.if_true_left, Bool.and_eq_true, Bool.or_eq_true, Bool.and_eq_false_imp, Bool.or_eq_false_iff, Decidable.not_not, beq_true, beq_false, iteT, iteF, cond_true, cond_false] at hb); try (exfalso; omega)))) | (refine cw_blocks (fun KB hB => ?_)) | (refine cw_block ?_) | ((first | refine cw_exits ?_ | refine cw_exit ?_ | refine cw_skip ?_); simp (maxSteps := 1000000) (disch := omega) only [go_sem]) | (refine hB _ ?_; clear hB KB) | (refine exit_by (S := Sg) (by assumption) ?_) | ((first | refine cw_rets ?_ | refine cw_ret ?_); simp (maxSteps := 1000000) (disch := omega) only [go_sem]; (try clear hB KB); (try clear hK K)))
    · rw [hx (by omega) (by omega)] at hb
      have : ordOk l n = false := by
        refine ordOk_no (i := i) (by omega) (by omega) ?_
        rw [ordAt]
        by_cases h1 : 0 ≤ (ordL l n).getD i 0 ∧ (ordL l n).getD i 0 < n
        · rcases hb with h | h
          · omega
          · rw [Int.toNat_of_nonneg h1.1] at h
            rw [h]; simp
        · rw [decide_eq_false h1]; rfl
      rw [orderM, this]
      exact sle_tup ⟨ble_c nil_le, ble_rfl trivial, trivial⟩
    · rw [hx (by omega) (by omega)] at hb
      have hlen := ordL_len (l := l) (n := n) (by omega) (by omega)
      rw [thenQ_normal]
      refine wk_loop (i + 1) ?_ ⟨by omega, fun k hk => ?_⟩ (by omega)
      · have e : (ordL l n).take (i + 1) = (ordL l n).take i ++ [(ordL l n).getD i 0] := by
          rw [List.take_add_one, List.getElem?_eq_getElem (by omega), List.getD_eq_getElem?_getD, List.getElem?_eq_getElem (by omega)]; rfl
        have hlt : ((ordL l n).take i).length = i := by rw [List.length_take]; omega
        refine le_of [(1, some 4), (2, some 2)] rfl (by decide) rfl ?_ ?_
        all_goals simp (maxSteps := 1000000) (disch := omega) only [go_sem]
        repeat' (refine And.intro ?_ ?_)
        all_goals first | rfl | omega | exact .inl rfl | trivial | skip
        · have key := fun g hg => arr_push (enc := intE) (xs := (ordL l n).take i) (x := (ordL l n).getD i 0) (s := 1) (g := g) hg
          simp only [hlt, ← e] at key
          refine .inr (key _ fun j hj => ?_)
          have : j = 0 := by omega
          subst this
          simp only [gt_iff_lt, hx (by omega) (by omega)]
          rfl
        · refine .inr fun a ha j hj => ?_
          have : j = 0 := by omega
          subst this
          simp only [gt_iff_lt, hx (by omega) (by omega)]
          rw [← seen_step (by omega) hb.1.1]
          by_cases h : a = ((ordL l n).getD i 0).toNat
          · rw [if_pos h, if_pos h]; exact PV.le_refl _
          · rw [if_neg h, if_neg h]; exact PV.le_refl _
      · by_cases h : k = i
        · subst h
          rw [Int.toNat_of_nonneg hb.1.1] at hb
          rw [ordAt, decide_eq_true hb.1, hb.2]; rfl
        · exact hok k (by omega)
    · have e : ordOk l n = true := by
        rw [ordOk, decide_eq_true (by omega), Bool.true_and, List.all_eq_true]
        exact fun k hk => hok k (by have := List.mem_range.1 hk; omega)
      have hlen := ordL_len (l := l) (n := n) (by omega) (by omega)
      have hi2 : i = n.toNat := by omega
      rw [orderM, if_pos e, e, List.take_of_length_le (by omega), hlen, hi2]
      exact sle_tup ⟨ble_rfl trivial, ble_rfl trivial, trivial⟩
end Go.Proofs.YtkjdljcbpbeehaaDoor

set_option linter.unusedSimpArgs false
set_option linter.unusedVariables false
set_option maxRecDepth 8000
set_option maxHeartbeats 2000000
namespace Go.Proofs.YtkjdljcbpbeehaaDoor
open Go Go.SL
open Go.RowKit (wrap64)

/-- The frame of a script: what is checked ahead of images and operations. -/
def frameM (s : Script) : Int :=
  if ¬ (s.bits = 8 ∨ s.bits = 16) then 1
  else if emptyR s.canvas = true ∨ 16777216 < areaR s.canvas ∨ withinM 1048576 [s.canvas.x0, s.canvas.y0] = false then 2
  else if tilesOk s.canvas s.tileW s.tileH = false then 3
  else if ordOk s.order (tilesX s.canvas s.tileW s.tileH * tilesY s.canvas s.tileW s.tileH) = false then 4
  else if 64 < s.images.length ∨ 4096 < s.ops.length then 5 else 0

theorem tiles_wrap (r : Rect) (w h : Int) : IntKind.i64.wrap (tilesX r w h * tilesY r w h) = tilesX r w h * tilesY r w h ∧ 0 ≤ tilesX r w h * tilesY r w h := by
  unfold tilesX tilesY
  by_cases ht : tilesOk r w h = true
  · rw [if_pos ht, if_pos ht]
    simp only [tilesOk, Bool.and_eq_true, Bool.not_eq_true', decide_eq_true_eq] at ht
    obtain ⟨he, h1, h2, h3, h4⟩ := ht
    have hb := emptyR_false (r := r) (by simp [he])
    have b1 : 0 ≤ (r.x1 - r.x0 - 1) / w := Int.ediv_nonneg (by omega) (by omega)
    have b2 : (r.x1 - r.x0 - 1) / w ≤ r.x1 - r.x0 - 1 := Int.ediv_le_self _ (by omega)
    have c1 : 0 ≤ (r.y1 - r.y0 - 1) / h := Int.ediv_nonneg (by omega) (by omega)
    have c2 : (r.y1 - r.y0 - 1) / h ≤ r.y1 - r.y0 - 1 := Int.ediv_le_self _ (by omega)
    have hm : ((r.x1 - r.x0 - 1) / w + 1) * ((r.y1 - r.y0 - 1) / h + 1) ≤ 2147483648 * 2147483648 := Int.mul_le_mul (by omega) (by omega) (by omega) (by omega)
    have hp : 0 ≤ ((r.x1 - r.x0 - 1) / w + 1) * ((r.y1 - r.y0 - 1) / h + 1) := Int.mul_nonneg (by omega) (by omega)
    exact ⟨w64' (by omega) (by omega), hp⟩
  · rw [if_neg ht, if_neg ht]; decide
theorem frame1 {s : Script} (h : ¬(s.bits = 8 ∨ s.bits = 16)) : frameM s = 1 := by rw [frameM, if_pos h]
theorem frame2 {s : Script} (h1 : s.bits = 8 ∨ s.bits = 16) (h : (emptyR s.canvas = true ∨ 16777216 < areaR s.canvas) ∨ withinM 1048576 [s.canvas.x0, s.canvas.y0] = false) : frameM s = 2 := by
  rw [frameM, if_neg (fun q => q h1), if_pos (by rw [← or_assoc]; exact h)]
def frameOk2 (s : Script) : Prop := (s.bits = 8 ∨ s.bits = 16) ∧ (emptyR s.canvas = false ∧ areaR s.canvas ≤ 16777216) ∧ withinM 1048576 [s.canvas.x0, s.canvas.y0] = true
theorem frameOk2_neg {s : Script} (h : frameOk2 s) : ¬ (emptyR s.canvas = true ∨ 16777216 < areaR s.canvas ∨ withinM 1048576 [s.canvas.x0, s.canvas.y0] = false) := by
  obtain ⟨_, ⟨h1, h2⟩, h3⟩ := h
  rw [h1, h3]
  simp only [Bool.false_eq_true, false_or, Bool.true_eq_false, or_false]
  omega
theorem frame3 {s : Script} (h : frameOk2 s) (h3 : tilesOk s.canvas s.tileW s.tileH = false) : frameM s = 3 := by
  rw [frameM, if_neg (fun q => q h.1), if_neg (frameOk2_neg h), if_pos h3]
theorem frame4 {s : Script} (h : frameOk2 s) (h3 : tilesOk s.canvas s.tileW s.tileH = true) (h4 : ordOk s.order (IntKind.i64.wrap (tilesX s.canvas s.tileW s.tileH * tilesY s.canvas s.tileW s.tileH)) = false) : frameM s = 4 := by
  rw [(tiles_wrap _ _ _).1] at h4
  rw [frameM, if_neg (fun q => q h.1), if_neg (frameOk2_neg h), if_neg (by rw [h3]; simp), if_pos h4]
theorem frame5 {s : Script} (h : frameOk2 s) (h3 : tilesOk s.canvas s.tileW s.tileH = true) (h4 : ordOk s.order (IntKind.i64.wrap (tilesX s.canvas s.tileW s.tileH * tilesY s.canvas s.tileW s.tileH)) = true) : frameM s = if 64 < s.images.length ∨ 4096 < s.ops.length then 5 else 0 := by
  rw [(tiles_wrap _ _ _).1] at h4
  rw [frameM, if_neg (fun q => q h.1), if_neg (frameOk2_neg h), if_neg (by rw [h3]; simp), if_neg (by rw [h4]; simp)]

structure ScriptLen (s : Script) : Prop where
  order : s.order.length ≤ 4611686018427387904
  images : s.images.length ≤ 4611686018427387904
  ops : s.ops.length ≤ 4611686018427387904

theorem frame_spec (s : Script) (hs : ScriptLen s) : Pure Sg 55 [ag (scriptE s)] (fun x => x = .b (I (frameM s))) := by
  obtain ⟨h1, h2, h3⟩ := hs
  refine pure_of Tryd.func55 rfl (rs := [.tmp 2]) rfl rfl mixed (by decide +kernel) (Nat.le_of_ble_eq_true rfl) (argsLt_mem (by simp (maxSteps := 1000000) (disch := omega) only [go_sem])) ?_
  repeat' (first | refine cw_assoc ?_ | refine cw_skips ?_ | refine cw_labels ?_ | ((first | (with_reducible refine cw_stepV (id := 5) (fun K hW => ?_)) | refine cw_step (fun K hK => ?_) | refine cw_last (fun K hK => ?_) | refine cw_stepD (by decide +kernel) (by decide +kernel) (fun K hK => ?_) | refine cw_lastD (by decide +kernel) (by decide +kernel) (fun K hK => ?_) | refine rgB_some ?_ | refine call_a (sampleMax_spec _) ?_ | refine gcall_a (fun hg => sampleMax_spec _) ?_ | refine call_a (rempty_spec _) ?_ | refine gcall_a (fun hg => rempty_spec _) ?_ | refine call_a (rarea_spec _) ?_ | refine gcall_a (fun hg => rarea_spec _) ?_ | refine call_a (count_spec _ _ _) ?_ | refine gcall_a (fun hg => count_spec _ _ _) ?_ | refine call_a (tileOrder_spec _ _ (by omega)) ?_ | refine gcall_a (fun hg => tileOrder_spec _ _ (by omega)) ?_); (try simp (maxSteps := 1000000) (disch := omega) only [go_sem]); (repeat' (refine And.intro ?_ ?_)); (all_goals first | (refine hK _ ?_; clear hK K) | exact auto_cl | skip)) | ((first | apply cw_ite | apply cw_iteN); (case hf => rfl); (case hc => simp (maxSteps := 1000000) (disch := omega) only [go_sem]; rfl); (all_goals first | (intro hb; (try simp only [decide_eq_true_eq, decide_eq_false_iff_not, beq_iff_eq, beq_eq_false_iff_ne, bne_iff_ne, bne_eq_false_iff_eq, ne_eq, Bool.not_eq_true, Bool.not_eq_false, Bool.not_true, Bool.not_false, Bool.not_eq_eq_eq_not, Int.not_lt, Int.not_le, gt_iff_lt, ge_iff_le, Bool.cond_eq_ite, Bool.if_false_right, Bool.if_true_left, Bool.and_eq_true, Bool.or_eq_true, Bool.and_eq_false_imp, Bool.or_eq_false_iff, Decidable.not_not, beq_true, beq_false, iteT, iteF, cond_true, cond_false] at hb)) | skip)) | exact atN_intro | ((first | apply cw_if | apply cw_cond); (case hc => simp (maxSteps := 1000000) (disch := omega) only [go_sem]; rfl); (all_goals (intro hb; (try simp only [decide_eq_true_eq, decide_eq_false_iff_not, beq_iff_eq, beq_eq_false_iff_ne, bne_iff_ne, bne_eq_false_iff_eq, ne_eq, Bool.not_eq_true, Bool.not_eq_false, Bool.not_true, Bool.not_false, Bool.not_eq_eq_eq_not, Int.not_lt, Int.not_le, gt_iff_lt, ge_iff_le, Bool.cond_eq_ite, Bool.if_false_right, Bool.if_true_left, Bool.and_eq_true, Bool.or_eq_true, Bool.and_eq_false_imp, Bool.or_eq_false_iff, Decidable.not_not, beq_true, beq_false, iteT, iteF, cond_true, cond_false] at hb); try (exfalso; omega)))) | (refine cw_blocks (fun KB hB => ?_)) | (refine cw_block ?_) | ((first | refine cw_exits ?_ | refine cw_exit ?_ | refine cw_skip ?_); simp (maxSteps := 1000000) (disch := omega) only [go_sem]) | (refine hB _ ?_; clear hB KB) | (refine exit_by (S := Sg) (by assumption) ?_) | ((first | refine cw_rets ?_ | refine cw_ret ?_); simp (maxSteps := 1000000) (disch := omega) only [go_sem]; (try clear hB KB); (try clear hK K)))
  · rw [frameM, if_pos hb]
  · refine rgs_split (.c .any) ?_ ?_ trivial ?_ (fun hg => ?_) (fun hg => ?_)
    · rfl
    · rfl
    · (first | (simp (maxSteps := 1000000) (disch := omega) only [go_sem]; done) | (simp (maxSteps := 1000000) (disch := omega) only [go_sem]; rfl))
    · have hg2 : (emptyR s.canvas || decide (areaR s.canvas > 16777216)) = false := by simpa using hg
      simp (maxSteps := 1000000) (disch := omega) only [go_sem]
      repeat' (refine And.intro ?_ ?_)
      all_goals first | (refine hK _ ?_; clear hK K) | exact auto_cl | skip
      refine gcall_lend (args' := [.c (.p (ints [s.canvas.x0, s.canvas.y0]))]) hg ?_ (near_spec _ (by simp)) ?_ (by trivial) trivial ?_
      · simp (maxSteps := 1000000) (disch := omega) only [go_sem]
      · simp (maxSteps := 1000000) (disch := omega) only [go_sem, argsLe_cons, argsLe_nil]
        refine bvle_p (lst_le fun i hi j hj => ?_)
        have h1 : i = 0 ∨ i = 1 := by omega
        have h2 : j = 0 := by omega
        subst h2
        rcases h1 with rfl | rfl <;> rfl
      simp (maxSteps := 1000000) (disch := omega) only [go_sem]
      repeat' (refine And.intro ?_ ?_)
      all_goals first | (refine hK _ ?_; clear hK K) | exact auto_cl | skip
      refine hW _ (mkSt [(1, .b (.c (.ptr 0 0))), (5, .b (.c (.ptr 1 0))), (36, .b (B (emptyR s.canvas || decide (areaR s.canvas > 16777216) || !withinM 1048576 [s.canvas.x0, s.canvas.y0])))] [(0, .fix ((scriptE s).map CV.p)), (1, .fix ((rectE s.canvas).map CV.p))] 2) ?_ ?_
      · clear hW
        refine le_of [(1, some 1)] rfl (by decide) rfl ?_ ?_
        all_goals simp (maxSteps := 1000000) (disch := omega) only [go_sem]
        repeat' (refine And.intro ?_ ?_)
        all_goals first | rfl | omega | exact .inl rfl | trivial | skip
      · clear hW
        repeat' (first | refine cw_assoc ?_ | refine cw_skips ?_ | refine cw_labels ?_ | ((first | refine cw_step (fun K hK => ?_) | refine cw_last (fun K hK => ?_) | refine cw_stepD (by decide +kernel) (by decide +kernel) (fun K hK => ?_) | refine cw_lastD (by decide +kernel) (by decide +kernel) (fun K hK => ?_) | refine rgB_some ?_ | refine call_a (count_spec _ _ _) ?_ | refine gcall_a (fun hg => count_spec _ _ _) ?_ | refine call_a (tileOrder_spec _ _ (by omega)) ?_ | refine gcall_a (fun hg => tileOrder_spec _ _ (by omega)) ?_); (try simp (maxSteps := 1000000) (disch := omega) only [go_sem]); (repeat' (refine And.intro ?_ ?_)); (all_goals first | (refine hK _ ?_; clear hK K) | exact auto_cl | skip)) | ((first | apply cw_ite | apply cw_iteN); (case hf => rfl); (case hc => simp (maxSteps := 1000000) (disch := omega) only [go_sem]; rfl); (all_goals first | (intro hb; (try simp only [decide_eq_true_eq, decide_eq_false_iff_not, beq_iff_eq, beq_eq_false_iff_ne, bne_iff_ne, bne_eq_false_iff_eq, ne_eq, Bool.not_eq_true, Bool.not_eq_false, Bool.not_true, Bool.not_false, Bool.not_eq_eq_eq_not, Int.not_lt, Int.not_le, gt_iff_lt, ge_iff_le, Bool.cond_eq_ite, Bool.if_false_right, Bool.if_true_left, Bool.and_eq_true, Bool.or_eq_true, Bool.and_eq_false_imp, Bool.or_eq_false_iff, Decidable.not_not, beq_true, beq_false, iteT, iteF, cond_true, cond_false] at hb)) | skip)) | exact atN_intro | ((first | apply cw_if | apply cw_cond); (case hc => simp (maxSteps := 1000000) (disch := omega) only [go_sem]; rfl); (all_goals (intro hb; (try simp only [decide_eq_true_eq, decide_eq_false_iff_not, beq_iff_eq, beq_eq_false_iff_ne, bne_iff_ne, bne_eq_false_iff_eq, ne_eq, Bool.not_eq_true, Bool.not_eq_false, Bool.not_true, Bool.not_false, Bool.not_eq_eq_eq_not, Int.not_lt, Int.not_le, gt_iff_lt, ge_iff_le, Bool.cond_eq_ite, Bool.if_false_right, Bool.if_true_left, Bool.and_eq_true, Bool.or_eq_true, Bool.and_eq_false_imp, Bool.or_eq_false_iff, Decidable.not_not, beq_true, beq_false, iteT, iteF, cond_true, cond_false] at hb); try (exfalso; omega)))) | (refine cw_blocks (fun KB hB => ?_)) | (refine cw_block ?_) | ((first | refine cw_exits ?_ | refine cw_exit ?_ | refine cw_skip ?_); simp (maxSteps := 1000000) (disch := omega) only [go_sem]) | (refine hB _ ?_; clear hB KB) | (refine exit_by (S := Sg) (by assumption) ?_) | ((first | refine cw_rets ?_ | refine cw_ret ?_); simp (maxSteps := 1000000) (disch := omega) only [go_sem]; (try clear hB KB); (try clear hK K)))
        · rw [frame2 ‹_› hb]
        · rename_i q
          rw [frame3 ⟨‹_›, q⟩ hb]
        · rename_i q1 q2
          rw [frame4 ⟨‹_›, q1⟩ q2 hb]
        · rename_i q1 q2 q3
          rw [frame5 ⟨‹_›, q1⟩ q2 q3, if_pos (by omega)]
        · rename_i q1 q2 q3
          rw [frame5 ⟨‹_›, q1⟩ q2 q3, if_neg (by omega)]
    · have hg2 : (emptyR s.canvas || decide (areaR s.canvas > 16777216)) = true := by
        cases h : (emptyR s.canvas || decide (areaR s.canvas > 16777216)) with
        | true => rfl
        | false => rw [h] at hg; cases hg
      simp (maxSteps := 1000000) (disch := omega) only [go_sem]
      repeat' (refine And.intro ?_ ?_)
      all_goals first | (refine hK _ ?_; clear hK K) | exact auto_cl | skip
      refine gcall_off (B (withinM 1048576 [s.canvas.x0, s.canvas.y0])) hg trivial ?_
      simp (maxSteps := 1000000) (disch := omega) only [go_sem]
      repeat' (refine And.intro ?_ ?_)
      all_goals first | (refine hK _ ?_; clear hK K) | exact auto_cl | skip
      refine hW _ (mkSt [(1, .b (.c (.ptr 0 0))), (5, .b (.c (.ptr 1 0))), (36, .b (B (emptyR s.canvas || decide (areaR s.canvas > 16777216) || !withinM 1048576 [s.canvas.x0, s.canvas.y0])))] [(0, .fix ((scriptE s).map CV.p)), (1, .fix ((rectE s.canvas).map CV.p))] 2) ?_ ?_
      · clear hW
        refine le_of [(1, some 1)] rfl (by decide) rfl ?_ ?_
        all_goals simp (maxSteps := 1000000) (disch := omega) only [go_sem]
        repeat' (refine And.intro ?_ ?_)
        all_goals first | rfl | omega | exact .inl rfl | trivial | skip
      · clear hW
        repeat' (first | refine cw_assoc ?_ | refine cw_skips ?_ | refine cw_labels ?_ | ((first | refine cw_step (fun K hK => ?_) | refine cw_last (fun K hK => ?_) | refine cw_stepD (by decide +kernel) (by decide +kernel) (fun K hK => ?_) | refine cw_lastD (by decide +kernel) (by decide +kernel) (fun K hK => ?_) | refine rgB_some ?_ | refine call_a (count_spec _ _ _) ?_ | refine gcall_a (fun hg => count_spec _ _ _) ?_ | refine call_a (tileOrder_spec _ _ (by omega)) ?_ | refine gcall_a (fun hg => tileOrder_spec _ _ (by omega)) ?_); (try simp (maxSteps := 1000000) (disch := omega) only [go_sem]); (repeat' (refine And.intro ?_ ?_)); (all_goals first | (refine hK _ ?_; clear hK K) | exact auto_cl | skip)) | ((first | apply cw_ite | apply cw_iteN); (case hf => rfl); (case hc => simp (maxSteps := 1000000) (disch := omega) only [go_sem]; rfl); (all_goals first | (intro hb; (try simp only [decide_eq_true_eq, decide_eq_false_iff_not, beq_iff_eq, beq_eq_false_iff_ne, bne_iff_ne, bne_eq_false_iff_eq, ne_eq, Bool.not_eq_true, Bool.not_eq_false, Bool.not_true, Bool.not_false, Bool.not_eq_eq_eq_not, Int.not_lt, Int.not_le, gt_iff_lt, ge_iff_le, Bool.cond_eq_ite, Bool.if_false_right, Bool.if_true_left, Bool.and_eq_true, Bool.or_eq_true, Bool.and_eq_false_imp, Bool.or_eq_false_iff, Decidable.not_not, beq_true, beq_false, iteT, iteF, cond_true, cond_false] at hb)) | skip)) | exact atN_intro | ((first | apply cw_if | apply cw_cond); (case hc => simp (maxSteps := 1000000) (disch := omega) only [go_sem]; rfl); (all_goals (intro hb; (try simp only [decide_eq_true_eq, decide_eq_false_iff_not, beq_iff_eq, beq_eq_false_iff_ne, bne_iff_ne, bne_eq_false_iff_eq, ne_eq, Bool.not_eq_true, Bool.not_eq_false, Bool.not_true, Bool.not_false, Bool.not_eq_eq_eq_not, Int.not_lt, Int.not_le, gt_iff_lt, ge_iff_le, Bool.cond_eq_ite, Bool.if_false_right, Bool.if_true_left, Bool.and_eq_true, Bool.or_eq_true, Bool.and_eq_false_imp, Bool.or_eq_false_iff, Decidable.not_not, beq_true, beq_false, iteT, iteF, cond_true, cond_false] at hb); try (exfalso; omega)))) | (refine cw_blocks (fun KB hB => ?_)) | (refine cw_block ?_) | ((first | refine cw_exits ?_ | refine cw_exit ?_ | refine cw_skip ?_); simp (maxSteps := 1000000) (disch := omega) only [go_sem]) | (refine hB _ ?_; clear hB KB) | (refine exit_by (S := Sg) (by assumption) ?_) | ((first | refine cw_rets ?_ | refine cw_ret ?_); simp (maxSteps := 1000000) (disch := omega) only [go_sem]; (try clear hB KB); (try clear hK K)))
        · rw [frame2 ‹_› hb]
        · rename_i q
          rw [frame3 ⟨‹_›, q⟩ hb]
        · rename_i q1 q2
          rw [frame4 ⟨‹_›, q1⟩ q2 hb]
        · rename_i q1 q2 q3
          rw [frame5 ⟨‹_›, q1⟩ q2 q3, if_pos (by omega)]
        · rename_i q1 q2 q3
          rw [frame5 ⟨‹_›, q1⟩ q2 q3, if_neg (by omega)]
theorem r18frame_spec (s : Script) (hs : ScriptLen s) : Pure Sg 60 [ag (scriptE s)] (fun x => x = .b (I (frameM s))) := by
  obtain ⟨h1, h2, h3⟩ := hs
  refine pure_of Tryd.func60 rfl (rs := [.tmp 2]) rfl rfl mixed (by decide +kernel) (Nat.le_of_ble_eq_true rfl) (argsLt_mem (by simp (maxSteps := 1000000) (disch := omega) only [go_sem])) ?_
  repeat' (first | refine cw_assoc ?_ | refine cw_skips ?_ | refine cw_labels ?_ | ((first | refine cw_step (fun K hK => ?_) | refine cw_last (fun K hK => ?_) | refine cw_stepD (by decide +kernel) (by decide +kernel) (fun K hK => ?_) | refine cw_lastD (by decide +kernel) (by decide +kernel) (fun K hK => ?_) | refine rgB_some ?_ | refine call_a (r01max_spec _) ?_ | refine gcall_a (fun hg => r01max_spec _) ?_ | refine call_a (r13empty_spec _) ?_ | refine gcall_a (fun hg => r13empty_spec _) ?_ | refine call_a (r13area_spec _) ?_ | refine gcall_a (fun hg => r13area_spec _) ?_ | refine call_a (tiles_spec _ _ _) ?_ | refine gcall_a (fun hg => tiles_spec _ _ _) ?_ | refine call_a (r13order_spec _ _ (by omega)) ?_ | refine gcall_a (fun hg => r13order_spec _ _ (by omega)) ?_ | refine call_a (far_spec _) ?_ | refine gcall_a (fun hg => far_spec _) ?_); (try simp (maxSteps := 1000000) (disch := omega) only [go_sem]); (repeat' (refine And.intro ?_ ?_)); (all_goals first | (refine hK _ ?_; clear hK K) | exact auto_cl | skip)) | ((first | apply cw_ite | apply cw_iteN); (case hf => rfl); (case hc => simp (maxSteps := 1000000) (disch := omega) only [go_sem]; rfl); (all_goals first | (intro hb; (try simp only [decide_eq_true_eq, decide_eq_false_iff_not, beq_iff_eq, beq_eq_false_iff_ne, bne_iff_ne, bne_eq_false_iff_eq, ne_eq, Bool.not_eq_true, Bool.not_eq_false, Bool.not_true, Bool.not_false, Bool.not_eq_eq_eq_not, Int.not_lt, Int.not_le, gt_iff_lt, ge_iff_le, Bool.cond_eq_ite, Bool.if_false_right, Bool.if_true_left, Bool.and_eq_true, Bool.or_eq_true, Bool.and_eq_false_imp, Bool.or_eq_false_iff, Decidable.not_not, beq_true, beq_false, iteT, iteF, cond_true, cond_false] at hb)) | skip)) | exact atN_intro | ((first | apply cw_if | apply cw_cond); (case hc => simp (maxSteps := 1000000) (disch := omega) only [go_sem]; rfl); (all_goals (intro hb; (try simp only [decide_eq_true_eq, decide_eq_false_iff_not, beq_iff_eq, beq_eq_false_iff_ne, bne_iff_ne, bne_eq_false_iff_eq, ne_eq, Bool.not_eq_true, Bool.not_eq_false, Bool.not_true, Bool.not_false, Bool.not_eq_eq_eq_not, Int.not_lt, Int.not_le, gt_iff_lt, ge_iff_le, Bool.cond_eq_ite, Bool.if_false_right, Bool.if_true_left, Bool.and_eq_true, Bool.or_eq_true, Bool.and_eq_false_imp, Bool.or_eq_false_iff, Decidable.not_not, beq_true, beq_false, iteT, iteF, cond_true, cond_false] at hb); try (exfalso; omega)))) | (refine cw_blocks (fun KB hB => ?_)) | (refine cw_block ?_) | ((first | refine cw_exits ?_ | refine cw_exit ?_ | refine cw_skip ?_); simp (maxSteps := 1000000) (disch := omega) only [go_sem]) | (refine hB _ ?_; clear hB KB) | (refine exit_by (S := Sg) (by assumption) ?_) | ((first | refine cw_rets ?_ | refine cw_ret ?_); simp (maxSteps := 1000000) (disch := omega) only [go_sem]; (try clear hB KB); (try clear hK K)))
  · rw [frame1 hb]
  · rw [frame2 ‹_› ?_]
    simp only [withinM, List.all_cons, List.all_nil, Bool.and_true, Bool.and_eq_false_imp, decide_eq_true_eq, decide_eq_false_iff_not]
    rcases hb with (h | h) | h
    · exact .inl h
    · exact .inr (by omega)
    · exact .inr (by omega)
  all_goals
    have hw : withinM 1048576 [s.canvas.x0, s.canvas.y0] = true := by
      simp only [withinM, List.all_cons, List.all_nil, Bool.and_true, Bool.and_eq_true, decide_eq_true_eq]
      omega
  · rename_i q1 q
    rw [frame3 ⟨q1, q.1.1, hw⟩ hb]
  · rename_i q1 q q2
    rw [frame4 ⟨q1, q.1.1, hw⟩ q2 hb]
  · rename_i q1 q q2 q3
    rw [frame5 ⟨q1, q.1.1, hw⟩ q2 q3, if_pos (by omega)]
  · rename_i q1 q q2 q3
    rw [frame5 ⟨q1, q.1.1, hw⟩ q2 q3, if_neg (by omega)]
end Go.Proofs.YtkjdljcbpbeehaaDoor

set_option linter.unusedSimpArgs false
set_option linter.unusedVariables false
set_option maxRecDepth 8000
set_option maxHeartbeats 4000000
namespace Go.Proofs.YtkjdljcbpbeehaaDoor
open Go Go.SL
open Go.RowKit (wrap64)

def maxOf (b : Int) : Int := if b = 8 then 255 else if b = 16 then 65535 else 0
def ctxOk (l : List Op) : Bool := l.isEmpty || ((l.getD (l.length - 1) default).isolated && !(l.getD (l.length - 1) default).knockout)
/-- The error of an operation, in open groups. -/
def opErr (b : Int) (n : Nat) (o : Op) (l : List Op) : Int :=
  if ¬ (1 ≤ o.kind ∧ o.kind ≤ 3) then 9
  else if fieldsM o = false then 10
  else if o.kind = 3 ∧ l.length = 0 then 18
  else if o.kind = 3 then 0
  else if o.kind = 1 ∧ (o.image < 0 ∨ n ≤ o.image) ∨ o.mask < 0 ∨ n < o.mask then 11
  else if withinM 1048576 [o.x, o.y, o.maskX, o.maskY] = false then 12
  else if maxOf b < o.opacity then 13
  else if isOp o.operator = false then 14
  else if isOp o.mode = false then 15
  else if o.operator ≠ 4 ∧ ctxOk l = false then 16
  else if o.kind = 2 ∧ 64 ≤ l.length then 17 else 0
def opErrAt (s : Script) (i : Int) (l : List Op) : Int := if i < 0 ∨ s.ops.length ≤ i then 21 else opErr s.bits s.images.length (s.ops.getD i.toNat default) l

theorem ctxOk_false {l : List Op} : ctxOk l = false ↔ 0 < l.length ∧ ((l.getD (l.length - 1) default).knockout = true ∨ (l.getD (l.length - 1) default).isolated = false) := by
  cases l with
  | nil => simp [ctxOk]
  | cons a r =>
    simp only [ctxOk, List.isEmpty_cons, Bool.false_or, Bool.and_eq_false_imp, Bool.not_eq_false', List.length_cons, Nat.zero_lt_succ, true_and]
    generalize ((a :: r).getD (r.length + 1 - 1) default).isolated = x
    generalize ((a :: r).getD (r.length + 1 - 1) default).knockout = y
    cases x <;> cases y <;> decide
theorem withinM4 {k a b c d : Int} : withinM k [a, b, c, d] = false ↔ ¬ (-k ≤ a ∧ a ≤ k ∧ -k ≤ b ∧ b ≤ k ∧ -k ≤ c ∧ c ≤ k ∧ -k ≤ d ∧ d ≤ k) := by
  rw [← Bool.not_eq_true]
  simp only [withinM, List.all_cons, List.all_nil, Bool.and_true, Bool.and_eq_true, decide_eq_true_eq]
  omega
theorem opNm_empty {o : Int} : (opNm o).toList = (ByteArray.mk #[]).toList ↔ isOp o = false := by
  obtain ⟨_, _, _, _, h⟩ := opNm_spec o
  rw [← beq_iff_eq, h, isOp, Bool.not_eq_true', decide_eq_false_iff_not]
theorem blNm_empty' {o : Int} : (blNm o).toList = (ByteArray.mk #[]).toList ↔ isOp o = false := by
  rw [← beq_iff_eq, blNm_empty]; simp

theorem context_spec' (l : List Op) (hl : l.length ≤ 4611686018427387904) : Pure Sg 99 [.c (.p (opL l))] (fun x => x = .b (B (ctxOk l))) := context_spec l hl
theorem vop_spec (s : Script) (i : Int) (l : List Op) (hs : ScriptLen s) (hl : l.length ≤ 4611686018427387904) : Pure Sg 56 [ag (scriptE s), I i, .c (.p (opL l))] (fun x => x = .b (I (opErrAt s i l))) := by
  obtain ⟨h1, h2, h3⟩ := hs
  refine pure_of Tryd.func56 rfl (rs := [.tmp 6]) rfl rfl mixed (by decide +kernel) (Nat.le_of_ble_eq_true rfl) (argsLt_mem (by simp (maxSteps := 1000000) (disch := omega) only [go_sem])) ?_
  repeat' (first | refine cw_assoc ?_ | refine cw_skips ?_ | refine cw_labels ?_ | ((first | refine cw_step (fun K hK => ?_) | refine cw_last (fun K hK => ?_) | refine cw_stepD (by decide +kernel) (by decide +kernel) (fun K hK => ?_) | refine cw_lastD (by decide +kernel) (by decide +kernel) (fun K hK => ?_) | refine rgB_some ?_ | refine call_a (sampleMax_spec _) ?_ | refine gcall_a (fun hg => sampleMax_spec _) ?_ | refine call_a (fields_spec _) ?_ | refine gcall_a (fun hg => fields_spec _) ?_ | refine call_a (opName_spec _) ?_ | refine gcall_a (fun hg => opName_spec _) ?_ | refine call_a (blendName_spec _) ?_ | refine gcall_a (fun hg => blendName_spec _) ?_ | refine call_a (context_spec' _ (by omega)) ?_ | refine gcall_a (fun hg => context_spec' _ (by omega)) ?_); (try simp (maxSteps := 1000000) (disch := omega) only [go_sem]); (repeat' (refine And.intro ?_ ?_)); (all_goals first | (refine hK _ ?_; clear hK K) | exact auto_cl | skip)) | ((first | apply cw_ite | apply cw_iteN); (case hf => rfl); (case hc => simp (maxSteps := 1000000) (disch := omega) only [go_sem]; rfl); (all_goals first | (intro hb; (try simp only [decide_eq_true_eq, decide_eq_false_iff_not, beq_iff_eq, beq_eq_false_iff_ne, bne_iff_ne, bne_eq_false_iff_eq, ne_eq, Bool.not_eq_true, Bool.not_eq_false, Bool.not_true, Bool.not_false, Bool.not_eq_eq_eq_not, Int.not_lt, Int.not_le, gt_iff_lt, ge_iff_le, Bool.cond_eq_ite, Bool.if_false_right, Bool.if_true_left, Bool.and_eq_true, Bool.or_eq_true, Bool.and_eq_false_imp, Bool.or_eq_false_iff, Decidable.not_not, beq_true, beq_false, iteT, iteF, cond_true, cond_false] at hb)) | skip)) | exact atN_intro | ((first | apply cw_if | apply cw_cond); (case hc => simp (maxSteps := 1000000) (disch := omega) only [go_sem]; rfl); (all_goals (intro hb; (try simp only [decide_eq_true_eq, decide_eq_false_iff_not, beq_iff_eq, beq_eq_false_iff_ne, bne_iff_ne, bne_eq_false_iff_eq, ne_eq, Bool.not_eq_true, Bool.not_eq_false, Bool.not_true, Bool.not_false, Bool.not_eq_eq_eq_not, Int.not_lt, Int.not_le, gt_iff_lt, ge_iff_le, Bool.cond_eq_ite, Bool.if_false_right, Bool.if_true_left, Bool.and_eq_true, Bool.or_eq_true, Bool.and_eq_false_imp, Bool.or_eq_false_iff, Decidable.not_not, beq_true, beq_false, iteT, iteF, cond_true, cond_false] at hb); try (exfalso; omega)))) | (refine cw_blocks (fun KB hB => ?_)) | (refine cw_block ?_) | ((first | refine cw_exits ?_ | refine cw_exit ?_ | refine cw_skip ?_); simp (maxSteps := 1000000) (disch := omega) only [go_sem]) | (refine hB _ ?_; clear hB KB) | (refine exit_by (S := Sg) (by assumption) ?_) | ((first | refine cw_rets ?_ | refine cw_ret ?_); simp (maxSteps := 1000000) (disch := omega) only [go_sem]; (try clear hB KB); (try clear hK K)))
  iterate 6
    · refine int_eq ?_
      simp only [opErrAt, opErr]
      generalize s.ops.getD i.toNat default = o at *
      repeat (first | (with_reducible rfl) | (refine Eq.symm (Eq.trans (if_pos ?_) (Eq.symm ?_)); focus (first | (assumption; done) | omega | (simp [*]; done))) | (refine Eq.symm (Eq.trans (if_neg ?_) (Eq.symm ?_)); focus (first | (assumption; done) | omega | (simp [*]; done))) | (refine Eq.symm (Eq.trans (if_neg ?_) (Eq.symm ?_)); focus (grind; done)) | (refine Eq.symm (Eq.trans (if_pos ?_) (Eq.symm ?_)); focus (grind; done)))
  have ho : opErrAt s i l = opErr s.bits s.images.length (s.ops.getD i.toNat default) l := by rw [opErrAt, if_neg (by omega)]
  generalize s.ops.getD i.toNat default = o at *
  refine call_lends ?_ ?_ (by simp (maxSteps := 1000000) (disch := omega) only [go_sem]) ?_ (near_spec [o.x, o.y, o.maskX, o.maskY] (by simp))
  try simp (maxSteps := 1000000) (disch := omega) only [go_sem]
  try (refine hK _ ?_; clear hK K)
  · repeat' (first | refine cw_assoc ?_ | refine cw_skips ?_ | refine cw_labels ?_ | ((first | refine cw_step (fun K hK => ?_) | refine cw_last (fun K hK => ?_) | refine cw_stepD (by decide +kernel) (by decide +kernel) (fun K hK => ?_) | refine cw_lastD (by decide +kernel) (by decide +kernel) (fun K hK => ?_) | refine rgB_some ?_ | refine call_a (sampleMax_spec _) ?_ | refine gcall_a (fun hg => sampleMax_spec _) ?_ | refine call_a (fields_spec _) ?_ | refine gcall_a (fun hg => fields_spec _) ?_ | refine call_a (opName_spec _) ?_ | refine gcall_a (fun hg => opName_spec _) ?_ | refine call_a (blendName_spec _) ?_ | refine gcall_a (fun hg => blendName_spec _) ?_ | refine call_a (context_spec' _ (by omega)) ?_ | refine gcall_a (fun hg => context_spec' _ (by omega)) ?_); (try simp (maxSteps := 1000000) (disch := omega) only [go_sem]); (repeat' (refine And.intro ?_ ?_)); (all_goals first | (refine hK _ ?_; clear hK K) | exact auto_cl | skip)) | ((first | apply cw_ite | apply cw_iteN); (case hf => rfl); (case hc => simp (maxSteps := 1000000) (disch := omega) only [go_sem]; rfl); (all_goals first | (intro hb; (try simp only [decide_eq_true_eq, decide_eq_false_iff_not, beq_iff_eq, beq_eq_false_iff_ne, bne_iff_ne, bne_eq_false_iff_eq, ne_eq, Bool.not_eq_true, Bool.not_eq_false, Bool.not_true, Bool.not_false, Bool.not_eq_eq_eq_not, Int.not_lt, Int.not_le, gt_iff_lt, ge_iff_le, Bool.cond_eq_ite, Bool.if_false_right, Bool.if_true_left, Bool.and_eq_true, Bool.or_eq_true, Bool.and_eq_false_imp, Bool.or_eq_false_iff, Decidable.not_not, beq_true, beq_false, iteT, iteF, cond_true, cond_false] at hb)) | skip)) | exact atN_intro | ((first | apply cw_if | apply cw_cond); (case hc => simp (maxSteps := 1000000) (disch := omega) only [go_sem]; rfl); (all_goals (intro hb; (try simp only [decide_eq_true_eq, decide_eq_false_iff_not, beq_iff_eq, beq_eq_false_iff_ne, bne_iff_ne, bne_eq_false_iff_eq, ne_eq, Bool.not_eq_true, Bool.not_eq_false, Bool.not_true, Bool.not_false, Bool.not_eq_eq_eq_not, Int.not_lt, Int.not_le, gt_iff_lt, ge_iff_le, Bool.cond_eq_ite, Bool.if_false_right, Bool.if_true_left, Bool.and_eq_true, Bool.or_eq_true, Bool.and_eq_false_imp, Bool.or_eq_false_iff, Decidable.not_not, beq_true, beq_false, iteT, iteF, cond_true, cond_false] at hb); try (exfalso; omega)))) | (refine cw_blocks (fun KB hB => ?_)) | (refine cw_block ?_) | ((first | refine cw_exits ?_ | refine cw_exit ?_ | refine cw_skip ?_); simp (maxSteps := 1000000) (disch := omega) only [go_sem]) | (refine hB _ ?_; clear hB KB) | (refine exit_by (S := Sg) (by assumption) ?_) | ((first | refine cw_rets ?_ | refine cw_ret ?_); simp (maxSteps := 1000000) (disch := omega) only [go_sem]; (try clear hB KB); (try clear hK K)))
    all_goals
      refine int_eq ?_
      have hmx : maxOf s.bits = if s.bits = 8 then 255 else if s.bits = 16 then 65535 else 0 := rfl
      rw [ho]
      simp only [opErr]
      try simp only [opNm_empty, blNm_empty', Bool.not_eq_false] at *
      repeat (first | (with_reducible rfl) | (refine Eq.symm (Eq.trans (if_pos ?_) (Eq.symm ?_)); focus (first | (assumption; done) | omega | (simp [*]; done))) | (refine Eq.symm (Eq.trans (if_neg ?_) (Eq.symm ?_)); focus (first | (assumption; done) | omega | (simp [*]; done))) | (refine Eq.symm (Eq.trans (if_neg ?_) (Eq.symm ?_)); focus (grind; done)) | (refine Eq.symm (Eq.trans (if_pos ?_) (Eq.symm ?_)); focus (grind; done)))
  · simp (maxSteps := 1000000) (disch := omega) only [go_sem, argsLe_cons, argsLe_nil]
    refine bvle_p (lst_le fun i hi j hj => ?_)
    have h1 : i = 0 ∨ i = 1 ∨ i = 2 ∨ i = 3 := by omega
    have h2 : j = 0 := by omega
    subst h2
    rcases h1 with rfl | rfl | rfl | rfl <;> rfl
  · trivial
theorem checkOp_spec (s : Script) (i : Int) (l : List Op) (hs : ScriptLen s) (hl : l.length ≤ 4611686018427387904) : Pure Sg 61 [ag (scriptE s), I i, .c (.p (opL l))] (fun x => x = .b (I (opErrAt s i l))) := by
  obtain ⟨h1, h2, h3⟩ := hs
  refine pure_of Tryd.func61 rfl (rs := [.tmp 6]) rfl rfl mixed (by decide +kernel) (Nat.le_of_ble_eq_true rfl) (argsLt_mem (by simp (maxSteps := 1000000) (disch := omega) only [go_sem])) ?_
  repeat' (first | refine cw_assoc ?_ | refine cw_skips ?_ | refine cw_labels ?_ | ((first | refine cw_step (fun K hK => ?_) | refine cw_last (fun K hK => ?_) | refine cw_stepD (by decide +kernel) (by decide +kernel) (fun K hK => ?_) | refine cw_lastD (by decide +kernel) (by decide +kernel) (fun K hK => ?_) | refine rgB_some ?_ | refine call_a (r01max_spec _) ?_ | refine gcall_a (fun hg => r01max_spec _) ?_ | refine call_a (spare_spec _ (by omega) (by omega)) ?_ | refine gcall_a (fun hg => spare_spec _ (by omega) (by omega)) ?_ | refine call_a (isOp_spec _) ?_ | refine gcall_a (fun hg => isOp_spec _) ?_ | refine call_a (isMode_spec _) ?_ | refine gcall_a (fun hg => isMode_spec _) ?_ | refine call_a (far_spec _) ?_ | refine gcall_a (fun hg => far_spec _) ?_); (try simp (maxSteps := 1000000) (disch := omega) only [go_sem]); (repeat' (refine And.intro ?_ ?_)); (all_goals first | (refine hK _ ?_; clear hK K) | exact auto_cl | skip)) | ((first | apply cw_ite | apply cw_iteN); (case hf => rfl); (case hc => simp (maxSteps := 1000000) (disch := omega) only [go_sem]; rfl); (all_goals first | (intro hb; (try simp only [decide_eq_true_eq, decide_eq_false_iff_not, beq_iff_eq, beq_eq_false_iff_ne, bne_iff_ne, bne_eq_false_iff_eq, ne_eq, Bool.not_eq_true, Bool.not_eq_false, Bool.not_true, Bool.not_false, Bool.not_eq_eq_eq_not, Int.not_lt, Int.not_le, gt_iff_lt, ge_iff_le, Bool.cond_eq_ite, Bool.if_false_right, Bool.if_true_left, Bool.and_eq_true, Bool.or_eq_true, Bool.and_eq_false_imp, Bool.or_eq_false_iff, Decidable.not_not, beq_true, beq_false, iteT, iteF, cond_true, cond_false] at hb)) | skip)) | exact atN_intro | ((first | apply cw_if | apply cw_cond); (case hc => simp (maxSteps := 1000000) (disch := omega) only [go_sem]; rfl); (all_goals (intro hb; (try simp only [decide_eq_true_eq, decide_eq_false_iff_not, beq_iff_eq, beq_eq_false_iff_ne, bne_iff_ne, bne_eq_false_iff_eq, ne_eq, Bool.not_eq_true, Bool.not_eq_false, Bool.not_true, Bool.not_false, Bool.not_eq_eq_eq_not, Int.not_lt, Int.not_le, gt_iff_lt, ge_iff_le, Bool.cond_eq_ite, Bool.if_false_right, Bool.if_true_left, Bool.and_eq_true, Bool.or_eq_true, Bool.and_eq_false_imp, Bool.or_eq_false_iff, Decidable.not_not, beq_true, beq_false, iteT, iteF, cond_true, cond_false] at hb); try (exfalso; omega)))) | (refine cw_blocks (fun KB hB => ?_)) | (refine cw_block ?_) | ((first | refine cw_exits ?_ | refine cw_exit ?_ | refine cw_skip ?_); simp (maxSteps := 1000000) (disch := omega) only [go_sem]) | (refine hB _ ?_; clear hB KB) | (refine exit_by (S := Sg) (by assumption) ?_) | ((first | refine cw_rets ?_ | refine cw_ret ?_); simp (maxSteps := 1000000) (disch := omega) only [go_sem]; (try clear hB KB); (try clear hK K)))
  all_goals
    refine int_eq ?_
    have hmx : maxOf s.bits = if s.bits = 8 then 255 else if s.bits = 16 then 65535 else 0 := rfl
    have e : ((l.length : Int) - 1).toNat = l.length - 1 := by omega
    simp only [opErrAt, opErr, withinM4, ctxOk_false]
    try simp only [e] at *
    generalize s.ops.getD i.toNat default = o at *
    repeat (first | (with_reducible rfl) | (refine Eq.symm (Eq.trans (if_pos ?_) (Eq.symm ?_)); focus (first | (assumption; done) | omega | (simp [*]; done))) | (refine Eq.symm (Eq.trans (if_neg ?_) (Eq.symm ?_)); focus (first | (assumption; done) | omega | (simp [*]; done))) | (refine Eq.symm (Eq.trans (if_neg ?_) (Eq.symm ?_)); focus (grind; done)) | (refine Eq.symm (Eq.trans (if_pos ?_) (Eq.symm ?_)); focus (grind; done)))
end Go.Proofs.YtkjdljcbpbeehaaDoor

set_option linter.unusedSimpArgs false
set_option linter.unusedVariables false
set_option maxRecDepth 8000
set_option maxHeartbeats 4000000
namespace Go.Proofs.YtkjdljcbpbeehaaDoor
open Go Go.SL
open Go.RowKit (wrap64)

def nextOpen (l : List Op) (o : Op) : List Op := if o.kind = 2 then l ++ [o] else if o.kind = 3 then l.dropLast else l
def opsGo (b : Int) (n : Nat) : Nat → List Op → List Op → Int × Int
  | i, [], l => if 0 < l.length then (18, i) else (0, 0)
  | i, o :: r, l => if opErr b n o l = 0 then opsGo b n (i + 1) r (nextOpen l o) else (opErr b n o l, i)
/-- What Ops answers. -/
def opsM (s : Script) : Int × Int := if frameM s = 0 then opsGo s.bits s.images.length 0 s.ops [] else (frameM s, 0)

theorem opsGo_step {b : Int} {n : Nat} {ops : List Op} {i : Nat} {l : List Op} (hi : i < ops.length) : opsGo b n i (ops.drop i) l =
    if opErr b n (ops.getD i default) l = 0 then opsGo b n (i + 1) (ops.drop (i + 1)) (nextOpen l (ops.getD i default)) else (opErr b n (ops.getD i default) l, (i : Int)) := by
  rw [List.drop_eq_getElem_cons hi, List.getD_eq_getElem?_getD, List.getElem?_eq_getElem hi]
  rfl
theorem frameM_ok {s : Script} (h : frameM s = 0) : s.images.length ≤ 64 ∧ s.ops.length ≤ 4096 := by
  unfold frameM at h
  split at h
  · cases h
  split at h
  · cases h
  split at h
  · cases h
  split at h
  · cases h
  split at h
  · cases h
  · omega
theorem nextOpen_len (l : List Op) (o : Op) : (nextOpen l o).length ≤ l.length + 1 := by
  unfold nextOpen
  split
  · simp
  split
  · rw [List.length_dropLast]; omega
  · omega
/-- The open groups, lent. -/
theorem lent_open {l : List Op} {g : Nat → Nat → PV} (hg : ∀ k, k < l.length → ∀ j, j < 12 → g k j = fnOf opE l k j) : BV.le (.c (.p (.lst 12 l.length g))) (.c (.p (opL l))) :=
  bvle_p (lst_le hg)
theorem push_open {l : List Op} {o : Op} {g f : Nat → Nat → PV} (hg : ∀ k, k < l.length → ∀ j, j < 12 → g k j = fnOf opE l k j) (hf : ∀ j, j < 12 → f 0 j = (opE o).getD j .any) :
    ∀ i, i < (l ++ [o]).length → ∀ j, j < 12 → PV.le (appF l.length g f i j) (fnOf opE (l ++ [o]) i j) := fun i hi j hj => by
  rw [List.length_append] at hi
  have := arr_push (enc := opE) (xs := l) (x := o) (s := 12) (g := f) hf i hi j hj
  unfold appF at this ⊢
  by_cases h : i < l.length
  · rw [if_pos h] at this ⊢
    rw [hg i h j hj]; exact this
  · rw [if_neg h] at this ⊢
    exact this
theorem pop_open {l : List Op} {g : Nat → Nat → PV} (hg : ∀ k, k < l.length → ∀ j, j < 12 → g k j = fnOf opE l k j) : ∀ k, k < l.dropLast.length → ∀ j, j < 12 → g k j = fnOf opE l.dropLast k j := fun k hk j hj => by
  rw [List.length_dropLast] at hk
  rw [hg k (by omega) j hj]
  have e : l.dropLast.getD k default = l.getD k default := by
    rw [List.getD_eq_getElem?_getD, List.getD_eq_getElem?_getD, List.getElem?_dropLast, if_pos hk]
  unfold fnOf
  rw [e]
theorem opErr_pop {b : Int} {n : Nat} {o : Op} {l : List Op} (h : opErr b n o l = 0) (hk : o.kind = 3) : 0 < l.length := by
  unfold opErr at h
  rw [if_neg (by omega)] at h
  split at h
  · cases h
  split at h
  · cases h
  · omega

theorem vops_spec (s : Script) (hs : ScriptLen s) : Pure Sg 30 [ag (scriptE s)] (fun x => x = .tup [I (opsM s).1, I (opsM s).2]) := by
  have hf := frame_spec s hs
  obtain ⟨h1, h2, h3⟩ := id hs
  refine pure_of Tryd.func30 rfl (rs := [.tmp 2, .tmp 3]) rfl rfl mixed (by decide +kernel) (Nat.le_of_ble_eq_true rfl) (argsLt_mem (by simp (maxSteps := 1000000) (disch := omega) only [go_sem])) ?_
  repeat' (first | refine cw_assoc ?_ | refine cw_skips ?_ | refine cw_labels ?_ | ((first | refine cw_step (fun K hK => ?_) | refine cw_last (fun K hK => ?_) | refine cw_stepD (by decide +kernel) (by decide +kernel) (fun K hK => ?_) | refine cw_lastD (by decide +kernel) (by decide +kernel) (fun K hK => ?_) | refine rgB_some ?_ | refine call_a (hf) ?_ | refine gcall_a (fun hg => hf) ?_); (try simp (maxSteps := 1000000) (disch := omega) only [go_sem]); (repeat' (refine And.intro ?_ ?_)); (all_goals first | (refine hK _ ?_; clear hK K) | exact auto_cl | skip)) | ((first | apply cw_ite | apply cw_iteN); (case hf => rfl); (case hc => simp (maxSteps := 1000000) (disch := omega) only [go_sem]; rfl); (all_goals first | (intro hb; (try simp only [decide_eq_true_eq, decide_eq_false_iff_not, beq_iff_eq, beq_eq_false_iff_ne, bne_iff_ne, bne_eq_false_iff_eq, ne_eq, Bool.not_eq_true, Bool.not_eq_false, Bool.not_true, Bool.not_false, Bool.not_eq_eq_eq_not, Int.not_lt, Int.not_le, gt_iff_lt, ge_iff_le, Bool.cond_eq_ite, Bool.if_false_right, Bool.if_true_left, Bool.and_eq_true, Bool.or_eq_true, Bool.and_eq_false_imp, Bool.or_eq_false_iff, Decidable.not_not, beq_true, beq_false, iteT, iteF, cond_true, cond_false] at hb)) | skip)) | exact atN_intro | ((first | apply cw_if | apply cw_cond); (case hc => simp (maxSteps := 1000000) (disch := omega) only [go_sem]; rfl); (all_goals (intro hb; (try simp only [decide_eq_true_eq, decide_eq_false_iff_not, beq_iff_eq, beq_eq_false_iff_ne, bne_iff_ne, bne_eq_false_iff_eq, ne_eq, Bool.not_eq_true, Bool.not_eq_false, Bool.not_true, Bool.not_false, Bool.not_eq_eq_eq_not, Int.not_lt, Int.not_le, gt_iff_lt, ge_iff_le, Bool.cond_eq_ite, Bool.if_false_right, Bool.if_true_left, Bool.and_eq_true, Bool.or_eq_true, Bool.and_eq_false_imp, Bool.or_eq_false_iff, Decidable.not_not, beq_true, beq_false, iteT, iteF, cond_true, cond_false] at hb); try (exfalso; omega)))) | (refine cw_blocks (fun KB hB => ?_)) | (refine cw_block ?_) | ((first | refine cw_exits ?_ | refine cw_exit ?_ | refine cw_skip ?_); simp (maxSteps := 1000000) (disch := omega) only [go_sem]) | (refine hB _ ?_; clear hB KB) | (refine exit_by (S := Sg) (by assumption) ?_) | ((first | refine cw_rets ?_ | refine cw_ret ?_); simp (maxSteps := 1000000) (disch := omega) only [go_sem]; (try clear hB KB); (try clear hK K)))
  · rw [opsM, if_neg hb]
  have hfo := frameM_ok hb
  rw [opsM, if_pos hb]
  clear hf
  refine cw_loop (X := Nat × List Op × Nat × (Nat → Nat → PV)) (fun x => mkSt [(1, .b (.c (.ptr 0 0))), (5, .b (.c (.own 1 x.2.1.length))), (15, .b (.c (.p (opL s.ops)))), (16, .b (I s.ops.length)), (17, .b (I x.1))]
    [(0, .fix ((scriptE s).map CV.p)), (1, .arr 62 12 x.2.2.1 x.2.2.2)] 2) (fun x => x.1 ≤ s.ops.length ∧ x.2.1.length ≤ x.1 ∧ x.2.1.length ≤ x.2.2.1 ∧ (∀ k, k < x.2.1.length → ∀ j, j < 12 → x.2.2.2 k j = fnOf opE x.2.1 k j) ∧
      opsGo s.bits s.images.length x.1 (s.ops.drop x.1) x.2.1 = opsGo s.bits s.images.length 0 s.ops []) (fun x => s.ops.length - x.1) (0, [], 0, fun _ _ => .any) ?_ ?_ ?_
  · exact ⟨by omega, Nat.le_refl _, Nat.le_refl _, fun k hk => by simp at hk, rfl⟩
  · refine le_of [(1, none)] rfl (by decide) rfl ?_ ?_
    all_goals simp (maxSteps := 1000000) (disch := omega) only [go_sem]
    repeat' (refine And.intro ?_ ?_)
    all_goals first | rfl | omega | exact .inl rfl | trivial | skip
  · rintro ⟨i, l, m, g⟩ ⟨hi, hl, hm, hg, hgo⟩
    dsimp only at hi hl hm hg hgo ⊢
    have hv := vop_spec s i l hs (by omega)
    have he : i < s.ops.length → opErrAt s i l = opErr s.bits s.images.length (s.ops.getD i default) l := fun h => by
      rw [opErrAt, if_neg (by omega), Int.toNat_natCast]
    have hpop : i < s.ops.length → opErrAt s i l = 0 → (s.ops.getD (i : Int).toNat default).kind = 3 → 0 < l.length := fun h1 h2 h3 => by
      rw [he h1] at h2
      exact opErr_pop h2 h3
    repeat' (first | refine cw_assoc ?_ | refine cw_skips ?_ | refine cw_labels ?_ | ((first | refine cw_step (fun K hK => ?_) | refine cw_last (fun K hK => ?_) | refine cw_stepD (by decide +kernel) (by decide +kernel) (fun K hK => ?_) | refine cw_lastD (by decide +kernel) (by decide +kernel) (fun K hK => ?_) | refine rgB_some ?_); (try simp (maxSteps := 1000000) (disch := omega) only [go_sem]); (repeat' (refine And.intro ?_ ?_)); (all_goals first | (refine hK _ ?_; clear hK K) | exact auto_cl | skip)) | ((first | apply cw_ite | apply cw_iteN); (case hf => rfl); (case hc => simp (maxSteps := 1000000) (disch := omega) only [go_sem]; rfl); (all_goals first | (intro hb; (try simp only [decide_eq_true_eq, decide_eq_false_iff_not, beq_iff_eq, beq_eq_false_iff_ne, bne_iff_ne, bne_eq_false_iff_eq, ne_eq, Bool.not_eq_true, Bool.not_eq_false, Bool.not_true, Bool.not_false, Bool.not_eq_eq_eq_not, Int.not_lt, Int.not_le, gt_iff_lt, ge_iff_le, Bool.cond_eq_ite, Bool.if_false_right, Bool.if_true_left, Bool.and_eq_true, Bool.or_eq_true, Bool.and_eq_false_imp, Bool.or_eq_false_iff, Decidable.not_not, beq_true, beq_false, iteT, iteF, cond_true, cond_false] at hb)) | skip)) | exact atN_intro | ((first | apply cw_if | apply cw_cond); (case hc => simp (maxSteps := 1000000) (disch := omega) only [go_sem]; rfl); (all_goals (intro hb; (try simp only [decide_eq_true_eq, decide_eq_false_iff_not, beq_iff_eq, beq_eq_false_iff_ne, bne_iff_ne, bne_eq_false_iff_eq, ne_eq, Bool.not_eq_true, Bool.not_eq_false, Bool.not_true, Bool.not_false, Bool.not_eq_eq_eq_not, Int.not_lt, Int.not_le, gt_iff_lt, ge_iff_le, Bool.cond_eq_ite, Bool.if_false_right, Bool.if_true_left, Bool.and_eq_true, Bool.or_eq_true, Bool.and_eq_false_imp, Bool.or_eq_false_iff, Decidable.not_not, beq_true, beq_false, iteT, iteF, cond_true, cond_false] at hb); try (exfalso; omega)))) | (refine cw_blocks (fun KB hB => ?_)) | (refine cw_block ?_) | ((first | refine cw_exits ?_ | refine cw_exit ?_ | refine cw_skip ?_); simp (maxSteps := 1000000) (disch := omega) only [go_sem]) | (refine hB _ ?_; clear hB KB) | (refine exit_by (S := Sg) (by assumption) ?_) | ((first | refine cw_rets ?_ | refine cw_ret ?_); simp (maxSteps := 1000000) (disch := omega) only [go_sem]; (try clear hB KB); (try clear hK K)))
    · refine call_lends ?_ ?_ (by simp (maxSteps := 1000000) (disch := omega) only [go_sem]) ?_ (hv)
      try simp (maxSteps := 1000000) (disch := omega) only [go_sem]
      try (refine hK _ ?_; clear hK K)
      · repeat' (first | refine cw_assoc ?_ | refine cw_skips ?_ | refine cw_labels ?_ | ((first | refine cw_step (fun K hK => ?_) | refine cw_last (fun K hK => ?_) | refine cw_stepD (by decide +kernel) (by decide +kernel) (fun K hK => ?_) | refine cw_lastD (by decide +kernel) (by decide +kernel) (fun K hK => ?_) | refine rgB_some ?_); (try simp (maxSteps := 1000000) (disch := omega) only [go_sem]); (repeat' (refine And.intro ?_ ?_)); (all_goals first | (refine hK _ ?_; clear hK K) | exact auto_cl | skip)) | ((first | apply cw_ite | apply cw_iteN); (case hf => rfl); (case hc => simp (maxSteps := 1000000) (disch := omega) only [go_sem]; rfl); (all_goals first | (intro hb; (try simp only [decide_eq_true_eq, decide_eq_false_iff_not, beq_iff_eq, beq_eq_false_iff_ne, bne_iff_ne, bne_eq_false_iff_eq, ne_eq, Bool.not_eq_true, Bool.not_eq_false, Bool.not_true, Bool.not_false, Bool.not_eq_eq_eq_not, Int.not_lt, Int.not_le, gt_iff_lt, ge_iff_le, Bool.cond_eq_ite, Bool.if_false_right, Bool.if_true_left, Bool.and_eq_true, Bool.or_eq_true, Bool.and_eq_false_imp, Bool.or_eq_false_iff, Decidable.not_not, beq_true, beq_false, iteT, iteF, cond_true, cond_false] at hb)) | skip)) | exact atN_intro | ((first | apply cw_if | apply cw_cond); (case hc => simp (maxSteps := 1000000) (disch := omega) only [go_sem]; rfl); (all_goals (intro hb; (try simp only [decide_eq_true_eq, decide_eq_false_iff_not, beq_iff_eq, beq_eq_false_iff_ne, bne_iff_ne, bne_eq_false_iff_eq, ne_eq, Bool.not_eq_true, Bool.not_eq_false, Bool.not_true, Bool.not_false, Bool.not_eq_eq_eq_not, Int.not_lt, Int.not_le, gt_iff_lt, ge_iff_le, Bool.cond_eq_ite, Bool.if_false_right, Bool.if_true_left, Bool.and_eq_true, Bool.or_eq_true, Bool.and_eq_false_imp, Bool.or_eq_false_iff, Decidable.not_not, beq_true, beq_false, iteT, iteF, cond_true, cond_false] at hb); try (exfalso; omega)))) | (refine cw_blocks (fun KB hB => ?_)) | (refine cw_block ?_) | ((first | refine cw_exits ?_ | refine cw_exit ?_ | refine cw_skip ?_); simp (maxSteps := 1000000) (disch := omega) only [go_sem]) | (refine hB _ ?_; clear hB KB) | (refine exit_by (S := Sg) (by assumption) ?_) | ((first | refine cw_rets ?_ | refine cw_ret ?_); simp (maxSteps := 1000000) (disch := omega) only [go_sem]; (try clear hB KB); (try clear hK K)))
        · rw [he (by omega)] at hb ⊢
          rw [← hgo, opsGo_step (by omega), if_neg hb]
        · have hn : ∀ l', nextOpen l (s.ops.getD i default) = l' → opsGo s.bits s.images.length (i + 1) (s.ops.drop (i + 1)) l' = opsGo s.bits s.images.length 0 s.ops [] := by
            rintro l' rfl
            have q := opsGo_step (b := s.bits) (n := s.images.length) (l := l) (show i < s.ops.length by omega)
            rw [if_pos (by rw [← he (by omega)]; exact hb)] at q
            rw [← q, hgo]
          rw [thenQ_normal]
          simp only [Int.toNat_natCast] at hpop ⊢
          by_cases hk2 : (s.ops.getD i default).kind = 2
          · have e2 : ((s.ops.getD i default).kind == 2) = true := by rw [hk2]; rfl
            simp only [e2, St.ite_t]
            refine wk_loop (i + 1, l ++ [s.ops.getD i default], l.length + 1, fnOf opE (l ++ [s.ops.getD i default])) ?_ ⟨by omega, by simp; omega, by simp, fun _ _ _ _ => rfl, hn _ (by rw [nextOpen, if_pos hk2])⟩ (by dsimp only; omega)
            refine le_of [(1, some 4)] rfl (by decide) rfl ?_ ?_
            all_goals simp (maxSteps := 1000000) (disch := omega) only [go_sem]
            repeat' (refine And.intro ?_ ?_)
            all_goals first | rfl | omega | exact .inl rfl | trivial | skip
            · simp
            · refine .inr fun a ha j hj => push_open hg (fun j hj => ?_) a (by simpa using ha) j hj
              have hivl : j = 0 ∨ j = 1 ∨ j = 2 ∨ j = 3 ∨ j = 4 ∨ j = 5 ∨ j = 6 ∨ j = 7 ∨ j = 8 ∨ j = 9 ∨ j = 10 ∨ j = 11 := by omega
              rcases hivl with rfl | rfl | rfl | rfl | rfl | rfl | rfl | rfl | rfl | rfl | rfl | rfl <;> rfl
          · have e2 : ((s.ops.getD i default).kind == 2) = false := by simpa using hk2
            simp only [e2, St.ite_f]
            by_cases hk3 : (s.ops.getD i default).kind = 3
            · have e3 : ((s.ops.getD i default).kind == 3) = true := by rw [hk3]; rfl
              simp only [e3, St.ite_t]
              have hp := hpop (by omega) hb hk3
              refine wk_loop (i + 1, l.dropLast, m, g) ?_ ⟨by omega, by rw [List.length_dropLast]; dsimp only; omega, by rw [List.length_dropLast]; dsimp only; omega, pop_open hg, hn _ (by rw [nextOpen, if_neg hk2, if_pos hk3])⟩ (by dsimp only; omega)
              refine le_of [(1, some 1)] rfl (by decide) rfl ?_ ?_
              all_goals simp (maxSteps := 1000000) (disch := omega) only [go_sem]
              repeat' (refine And.intro ?_ ?_)
              all_goals first | rfl | omega | exact .inl rfl | trivial | skip
              rw [List.length_dropLast]; omega
            · have e3 : ((s.ops.getD i default).kind == 3) = false := by simpa using hk3
              simp only [e3, St.ite_f]
              refine wk_loop (i + 1, l, m, g) ?_ ⟨by omega, by dsimp only; omega, hm, hg, hn _ (by rw [nextOpen, if_neg hk2, if_neg hk3])⟩ (by dsimp only; omega)
              refine le_of [(1, some 1)] rfl (by decide) rfl ?_ ?_
              all_goals simp (maxSteps := 1000000) (disch := omega) only [go_sem]
              repeat' (refine And.intro ?_ ?_)
              all_goals first | rfl | omega | exact .inl rfl | trivial | skip
      · simp (maxSteps := 1000000) (disch := omega) only [go_sem, argsLe_cons, argsLe_nil]
        rw [if_pos hm]
        exact ⟨bvle_refl, bvle_refl, lent_open hg⟩
      · trivial
    · have hi2 : i = s.ops.length := by omega
      rw [opsM, if_pos (by assumption), ← hgo, hi2, List.drop_length, opsGo, if_pos (by omega)]
    · have hi2 : i = s.ops.length := by omega
      rw [opsM, if_pos (by assumption), ← hgo, hi2, List.drop_length, opsGo, if_neg (by omega)]
theorem checkOps_spec (s : Script) (hs : ScriptLen s) : Pure Sg 35 [ag (scriptE s)] (fun x => x = .tup [I (opsM s).1, I (opsM s).2]) := by
  have hf := r18frame_spec s hs
  obtain ⟨h1, h2, h3⟩ := id hs
  refine pure_of Tryd.func35 rfl (rs := [.tmp 2, .tmp 3]) rfl rfl mixed (by decide +kernel) (Nat.le_of_ble_eq_true rfl) (argsLt_mem (by simp (maxSteps := 1000000) (disch := omega) only [go_sem])) ?_
  repeat' (first | refine cw_assoc ?_ | refine cw_skips ?_ | refine cw_labels ?_ | ((first | refine cw_step (fun K hK => ?_) | refine cw_last (fun K hK => ?_) | refine cw_stepD (by decide +kernel) (by decide +kernel) (fun K hK => ?_) | refine cw_lastD (by decide +kernel) (by decide +kernel) (fun K hK => ?_) | refine rgB_some ?_ | refine call_a (hf) ?_ | refine gcall_a (fun hg => hf) ?_); (try simp (maxSteps := 1000000) (disch := omega) only [go_sem]); (repeat' (refine And.intro ?_ ?_)); (all_goals first | (refine hK _ ?_; clear hK K) | exact auto_cl | skip)) | ((first | apply cw_ite | apply cw_iteN); (case hf => rfl); (case hc => simp (maxSteps := 1000000) (disch := omega) only [go_sem]; rfl); (all_goals first | (intro hb; (try simp only [decide_eq_true_eq, decide_eq_false_iff_not, beq_iff_eq, beq_eq_false_iff_ne, bne_iff_ne, bne_eq_false_iff_eq, ne_eq, Bool.not_eq_true, Bool.not_eq_false, Bool.not_true, Bool.not_false, Bool.not_eq_eq_eq_not, Int.not_lt, Int.not_le, gt_iff_lt, ge_iff_le, Bool.cond_eq_ite, Bool.if_false_right, Bool.if_true_left, Bool.and_eq_true, Bool.or_eq_true, Bool.and_eq_false_imp, Bool.or_eq_false_iff, Decidable.not_not, beq_true, beq_false, iteT, iteF, cond_true, cond_false] at hb)) | skip)) | exact atN_intro | ((first | apply cw_if | apply cw_cond); (case hc => simp (maxSteps := 1000000) (disch := omega) only [go_sem]; rfl); (all_goals (intro hb; (try simp only [decide_eq_true_eq, decide_eq_false_iff_not, beq_iff_eq, beq_eq_false_iff_ne, bne_iff_ne, bne_eq_false_iff_eq, ne_eq, Bool.not_eq_true, Bool.not_eq_false, Bool.not_true, Bool.not_false, Bool.not_eq_eq_eq_not, Int.not_lt, Int.not_le, gt_iff_lt, ge_iff_le, Bool.cond_eq_ite, Bool.if_false_right, Bool.if_true_left, Bool.and_eq_true, Bool.or_eq_true, Bool.and_eq_false_imp, Bool.or_eq_false_iff, Decidable.not_not, beq_true, beq_false, iteT, iteF, cond_true, cond_false] at hb); try (exfalso; omega)))) | (refine cw_blocks (fun KB hB => ?_)) | (refine cw_block ?_) | ((first | refine cw_exits ?_ | refine cw_exit ?_ | refine cw_skip ?_); simp (maxSteps := 1000000) (disch := omega) only [go_sem]) | (refine hB _ ?_; clear hB KB) | (refine exit_by (S := Sg) (by assumption) ?_) | ((first | refine cw_rets ?_ | refine cw_ret ?_); simp (maxSteps := 1000000) (disch := omega) only [go_sem]; (try clear hB KB); (try clear hK K)))
  · rw [opsM, if_neg hb]
  have hfo := frameM_ok hb
  rw [opsM, if_pos hb]
  clear hf
  refine cw_loop (X := Nat × List Op × Nat × (Nat → Nat → PV)) (fun x => mkSt [(1, .b (.c (.ptr 0 0))), (5, .b (.c (.own 1 x.2.1.length))), (6, .b (I x.1))]
    [(0, .fix ((scriptE s).map CV.p)), (1, .arr 62 12 x.2.2.1 x.2.2.2)] 2) (fun x => x.1 ≤ s.ops.length ∧ x.2.1.length ≤ x.1 ∧ x.2.1.length ≤ x.2.2.1 ∧ (∀ k, k < x.2.1.length → ∀ j, j < 12 → x.2.2.2 k j = fnOf opE x.2.1 k j) ∧
      opsGo s.bits s.images.length x.1 (s.ops.drop x.1) x.2.1 = opsGo s.bits s.images.length 0 s.ops []) (fun x => s.ops.length - x.1) (0, [], 0, fun _ _ => .any) ?_ ?_ ?_
  · exact ⟨by omega, Nat.le_refl _, Nat.le_refl _, fun k hk => by simp at hk, rfl⟩
  · refine le_of [(1, none)] rfl (by decide) rfl ?_ ?_
    all_goals simp (maxSteps := 1000000) (disch := omega) only [go_sem]
    repeat' (refine And.intro ?_ ?_)
    all_goals first | rfl | omega | exact .inl rfl | trivial | skip
  · rintro ⟨i, l, m, g⟩ ⟨hi, hl, hm, hg, hgo⟩
    dsimp only at hi hl hm hg hgo ⊢
    have hv := checkOp_spec s i l hs (by omega)
    have he : i < s.ops.length → opErrAt s i l = opErr s.bits s.images.length (s.ops.getD i default) l := fun h => by
      rw [opErrAt, if_neg (by omega), Int.toNat_natCast]
    have hpop : i < s.ops.length → opErrAt s i l = 0 → (s.ops.getD (i : Int).toNat default).kind = 3 → 0 < l.length := fun h1 h2 h3 => by
      rw [he h1] at h2
      exact opErr_pop h2 h3
    repeat' (first | refine cw_assoc ?_ | refine cw_skips ?_ | refine cw_labels ?_ | ((first | refine cw_step (fun K hK => ?_) | refine cw_last (fun K hK => ?_) | refine cw_stepD (by decide +kernel) (by decide +kernel) (fun K hK => ?_) | refine cw_lastD (by decide +kernel) (by decide +kernel) (fun K hK => ?_) | refine rgB_some ?_); (try simp (maxSteps := 1000000) (disch := omega) only [go_sem]); (repeat' (refine And.intro ?_ ?_)); (all_goals first | (refine hK _ ?_; clear hK K) | exact auto_cl | skip)) | ((first | apply cw_ite | apply cw_iteN); (case hf => rfl); (case hc => simp (maxSteps := 1000000) (disch := omega) only [go_sem]; rfl); (all_goals first | (intro hb; (try simp only [decide_eq_true_eq, decide_eq_false_iff_not, beq_iff_eq, beq_eq_false_iff_ne, bne_iff_ne, bne_eq_false_iff_eq, ne_eq, Bool.not_eq_true, Bool.not_eq_false, Bool.not_true, Bool.not_false, Bool.not_eq_eq_eq_not, Int.not_lt, Int.not_le, gt_iff_lt, ge_iff_le, Bool.cond_eq_ite, Bool.if_false_right, Bool.if_true_left, Bool.and_eq_true, Bool.or_eq_true, Bool.and_eq_false_imp, Bool.or_eq_false_iff, Decidable.not_not, beq_true, beq_false, iteT, iteF, cond_true, cond_false] at hb)) | skip)) | exact atN_intro | ((first | apply cw_if | apply cw_cond); (case hc => simp (maxSteps := 1000000) (disch := omega) only [go_sem]; rfl); (all_goals (intro hb; (try simp only [decide_eq_true_eq, decide_eq_false_iff_not, beq_iff_eq, beq_eq_false_iff_ne, bne_iff_ne, bne_eq_false_iff_eq, ne_eq, Bool.not_eq_true, Bool.not_eq_false, Bool.not_true, Bool.not_false, Bool.not_eq_eq_eq_not, Int.not_lt, Int.not_le, gt_iff_lt, ge_iff_le, Bool.cond_eq_ite, Bool.if_false_right, Bool.if_true_left, Bool.and_eq_true, Bool.or_eq_true, Bool.and_eq_false_imp, Bool.or_eq_false_iff, Decidable.not_not, beq_true, beq_false, iteT, iteF, cond_true, cond_false] at hb); try (exfalso; omega)))) | (refine cw_blocks (fun KB hB => ?_)) | (refine cw_block ?_) | ((first | refine cw_exits ?_ | refine cw_exit ?_ | refine cw_skip ?_); simp (maxSteps := 1000000) (disch := omega) only [go_sem]) | (refine hB _ ?_; clear hB KB) | (refine exit_by (S := Sg) (by assumption) ?_) | ((first | refine cw_rets ?_ | refine cw_ret ?_); simp (maxSteps := 1000000) (disch := omega) only [go_sem]; (try clear hB KB); (try clear hK K)))
    · refine call_lends ?_ ?_ (by simp (maxSteps := 1000000) (disch := omega) only [go_sem]) ?_ (hv)
      try simp (maxSteps := 1000000) (disch := omega) only [go_sem]
      try (refine hK _ ?_; clear hK K)
      · repeat' (first | refine cw_assoc ?_ | refine cw_skips ?_ | refine cw_labels ?_ | ((first | refine cw_step (fun K hK => ?_) | refine cw_last (fun K hK => ?_) | refine cw_stepD (by decide +kernel) (by decide +kernel) (fun K hK => ?_) | refine cw_lastD (by decide +kernel) (by decide +kernel) (fun K hK => ?_) | refine rgB_some ?_); (try simp (maxSteps := 1000000) (disch := omega) only [go_sem]); (repeat' (refine And.intro ?_ ?_)); (all_goals first | (refine hK _ ?_; clear hK K) | exact auto_cl | skip)) | ((first | apply cw_ite | apply cw_iteN); (case hf => rfl); (case hc => simp (maxSteps := 1000000) (disch := omega) only [go_sem]; rfl); (all_goals first | (intro hb; (try simp only [decide_eq_true_eq, decide_eq_false_iff_not, beq_iff_eq, beq_eq_false_iff_ne, bne_iff_ne, bne_eq_false_iff_eq, ne_eq, Bool.not_eq_true, Bool.not_eq_false, Bool.not_true, Bool.not_false, Bool.not_eq_eq_eq_not, Int.not_lt, Int.not_le, gt_iff_lt, ge_iff_le, Bool.cond_eq_ite, Bool.if_false_right, Bool.if_true_left, Bool.and_eq_true, Bool.or_eq_true, Bool.and_eq_false_imp, Bool.or_eq_false_iff, Decidable.not_not, beq_true, beq_false, iteT, iteF, cond_true, cond_false] at hb)) | skip)) | exact atN_intro | ((first | apply cw_if | apply cw_cond); (case hc => simp (maxSteps := 1000000) (disch := omega) only [go_sem]; rfl); (all_goals (intro hb; (try simp only [decide_eq_true_eq, decide_eq_false_iff_not, beq_iff_eq, beq_eq_false_iff_ne, bne_iff_ne, bne_eq_false_iff_eq, ne_eq, Bool.not_eq_true, Bool.not_eq_false, Bool.not_true, Bool.not_false, Bool.not_eq_eq_eq_not, Int.not_lt, Int.not_le, gt_iff_lt, ge_iff_le, Bool.cond_eq_ite, Bool.if_false_right, Bool.if_true_left, Bool.and_eq_true, Bool.or_eq_true, Bool.and_eq_false_imp, Bool.or_eq_false_iff, Decidable.not_not, beq_true, beq_false, iteT, iteF, cond_true, cond_false] at hb); try (exfalso; omega)))) | (refine cw_blocks (fun KB hB => ?_)) | (refine cw_block ?_) | ((first | refine cw_exits ?_ | refine cw_exit ?_ | refine cw_skip ?_); simp (maxSteps := 1000000) (disch := omega) only [go_sem]) | (refine hB _ ?_; clear hB KB) | (refine exit_by (S := Sg) (by assumption) ?_) | ((first | refine cw_rets ?_ | refine cw_ret ?_); simp (maxSteps := 1000000) (disch := omega) only [go_sem]; (try clear hB KB); (try clear hK K)))
        · rw [he (by omega)] at hb ⊢
          rw [← hgo, opsGo_step (by omega), if_neg hb]
        · have hn : ∀ l', nextOpen l (s.ops.getD i default) = l' → opsGo s.bits s.images.length (i + 1) (s.ops.drop (i + 1)) l' = opsGo s.bits s.images.length 0 s.ops [] := by
            rintro l' rfl
            have q := opsGo_step (b := s.bits) (n := s.images.length) (l := l) (show i < s.ops.length by omega)
            rw [if_pos (by rw [← he (by omega)]; exact hb)] at q
            rw [← q, hgo]
          rw [thenQ_normal]
          simp only [Int.toNat_natCast] at hpop ⊢
          by_cases hk2 : (s.ops.getD i default).kind = 2
          · have e2 : ((s.ops.getD i default).kind == 2) = true := by rw [hk2]; rfl
            simp only [e2, St.ite_t]
            refine wk_loop (i + 1, l ++ [s.ops.getD i default], l.length + 1, fnOf opE (l ++ [s.ops.getD i default])) ?_ ⟨by omega, by simp; omega, by simp, fun _ _ _ _ => rfl, hn _ (by rw [nextOpen, if_pos hk2])⟩ (by dsimp only; omega)
            refine le_of [(1, some 3)] rfl (by decide) rfl ?_ ?_
            all_goals simp (maxSteps := 1000000) (disch := omega) only [go_sem]
            repeat' (refine And.intro ?_ ?_)
            all_goals first | rfl | omega | exact .inl rfl | trivial | skip
            · simp
            · refine .inr fun a ha j hj => push_open hg (fun j hj => ?_) a (by simpa using ha) j hj
              have hivl : j = 0 ∨ j = 1 ∨ j = 2 ∨ j = 3 ∨ j = 4 ∨ j = 5 ∨ j = 6 ∨ j = 7 ∨ j = 8 ∨ j = 9 ∨ j = 10 ∨ j = 11 := by omega
              rcases hivl with rfl | rfl | rfl | rfl | rfl | rfl | rfl | rfl | rfl | rfl | rfl | rfl <;> rfl
          · have e2 : ((s.ops.getD i default).kind == 2) = false := by simpa using hk2
            simp only [e2, St.ite_f]
            by_cases hk3 : (s.ops.getD i default).kind = 3
            · have e3 : ((s.ops.getD i default).kind == 3) = true := by rw [hk3]; rfl
              simp only [e3, St.ite_t]
              have hp := hpop (by omega) hb hk3
              refine wk_loop (i + 1, l.dropLast, m, g) ?_ ⟨by omega, by rw [List.length_dropLast]; dsimp only; omega, by rw [List.length_dropLast]; dsimp only; omega, pop_open hg, hn _ (by rw [nextOpen, if_neg hk2, if_pos hk3])⟩ (by dsimp only; omega)
              refine le_of [(1, some 1)] rfl (by decide) rfl ?_ ?_
              all_goals simp (maxSteps := 1000000) (disch := omega) only [go_sem]
              repeat' (refine And.intro ?_ ?_)
              all_goals first | rfl | omega | exact .inl rfl | trivial | skip
              rw [List.length_dropLast]; omega
            · have e3 : ((s.ops.getD i default).kind == 3) = false := by simpa using hk3
              simp only [e3, St.ite_f]
              refine wk_loop (i + 1, l, m, g) ?_ ⟨by omega, by dsimp only; omega, hm, hg, hn _ (by rw [nextOpen, if_neg hk2, if_neg hk3])⟩ (by dsimp only; omega)
              refine le_of [(1, some 1)] rfl (by decide) rfl ?_ ?_
              all_goals simp (maxSteps := 1000000) (disch := omega) only [go_sem]
              repeat' (refine And.intro ?_ ?_)
              all_goals first | rfl | omega | exact .inl rfl | trivial | skip
      · simp (maxSteps := 1000000) (disch := omega) only [go_sem, argsLe_cons, argsLe_nil]
        rw [if_pos hm]
        exact ⟨bvle_refl, bvle_refl, lent_open hg⟩
      · trivial
    · have hi2 : i = s.ops.length := by omega
      rw [opsM, if_pos (by assumption), ← hgo, hi2, List.drop_length, opsGo, if_pos (by omega)]
    · have hi2 : i = s.ops.length := by omega
      rw [opsM, if_pos (by assumption), ← hgo, hi2, List.drop_length, opsGo, if_neg (by omega)]
end Go.Proofs.YtkjdljcbpbeehaaDoor
