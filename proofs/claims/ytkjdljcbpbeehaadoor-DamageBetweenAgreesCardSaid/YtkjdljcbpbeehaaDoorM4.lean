/- Part 4 of the proof: D3, F22, F23, FM, FL, FO, D4, D5. -/
import Derived.Test.YtkjdljcbpbeehaaDoorM0
import Derived.Test.YtkjdljcbpbeehaaDoorM1
import Derived.Test.YtkjdljcbpbeehaaDoorM2
import Derived.Test.YtkjdljcbpbeehaaDoorM3
/- Rectangles, as both programs compute them: what two have in common, moved, far numbers, where an image lies, boxes. -/
set_option linter.unusedSimpArgs false
set_option linter.unusedVariables false
set_option maxRecDepth 8000
set_option maxHeartbeats 1000000
namespace Go.Proofs.YtkjdljcbpbeehaaDoor
open Go Go.SL
open Go.RowKit (wrap64)

theorem imax_ite (a b : Int) : (if b > a then b else a) = max a b := by split <;> omega
theorem imin_ite (a b : Int) : (if b < a then b else a) = min a b := by split <;> omega
attribute [local go_sem] imax_ite imin_ite
theorem isect_spec (r q : Rect) : Pure Sg 64 [ag (rectE r), ag (rectE q)] (fun x => x = .b (ag (rectE (isect r q)))) := by
  refine pure_of Tryd.func64 rfl (rs := [.cell 4 28]) rfl rfl mixed (by decide +kernel) (Nat.le_of_ble_eq_true rfl) (argsLt_mem (by simp (maxSteps := 1000000) (disch := omega) only [go_sem])) ?_
  repeat' (first | refine cw_assoc ?_ | refine cw_skips ?_ | refine cw_labels ?_ | ((first | refine cw_step (fun K hK => ?_) | refine cw_last (fun K hK => ?_) | refine cw_stepD (by decide +kernel) (by decide +kernel) (fun K hK => ?_) | refine cw_lastD (by decide +kernel) (by decide +kernel) (fun K hK => ?_) | refine rgB_some ?_ | refine call_a (rempty_spec _) ?_ | refine gcall_a (fun hg => rempty_spec _) ?_ | refine call_a (rclean_spec ⟨max r.x0 q.x0, max r.y0 q.y0, min r.x1 q.x1, min r.y1 q.y1⟩) ?_ | refine gcall_a (fun hg => rclean_spec ⟨max r.x0 q.x0, max r.y0 q.y0, min r.x1 q.x1, min r.y1 q.y1⟩) ?_); (try simp (maxSteps := 1000000) (disch := omega) only [go_sem]); (repeat' (refine And.intro ?_ ?_)); (all_goals first | (refine hK _ ?_; clear hK K) | exact auto_cl | skip)) | ((first | apply cw_ite | apply cw_iteN); (case hf => rfl); (case hc => simp (maxSteps := 1000000) (disch := omega) only [go_sem]; rfl); (all_goals first | (intro hb; (try simp only [decide_eq_true_eq, decide_eq_false_iff_not, beq_iff_eq, beq_eq_false_iff_ne, bne_iff_ne, bne_eq_false_iff_eq, ne_eq, Bool.not_eq_true, Bool.not_eq_false, Bool.not_true, Bool.not_false, Bool.not_eq_eq_eq_not, Int.not_lt, Int.not_le, gt_iff_lt, ge_iff_le, Bool.cond_eq_ite, Bool.if_false_right, Bool.if_true_left, Bool.and_eq_true, Bool.or_eq_true, Bool.and_eq_false_imp, Bool.or_eq_false_iff, Decidable.not_not, beq_true, beq_false, iteT, iteF, cond_true, cond_false] at hb)) | skip)) | exact atN_intro | ((first | apply cw_if | apply cw_cond); (case hc => simp (maxSteps := 1000000) (disch := omega) only [go_sem]; rfl); (all_goals (intro hb; (try simp only [decide_eq_true_eq, decide_eq_false_iff_not, beq_iff_eq, beq_eq_false_iff_ne, bne_iff_ne, bne_eq_false_iff_eq, ne_eq, Bool.not_eq_true, Bool.not_eq_false, Bool.not_true, Bool.not_false, Bool.not_eq_eq_eq_not, Int.not_lt, Int.not_le, gt_iff_lt, ge_iff_le, Bool.cond_eq_ite, Bool.if_false_right, Bool.if_true_left, Bool.and_eq_true, Bool.or_eq_true, Bool.and_eq_false_imp, Bool.or_eq_false_iff, Decidable.not_not, beq_true, beq_false, iteT, iteF, cond_true, cond_false] at hb); try (exfalso; omega)))) | (refine cw_blocks (fun KB hB => ?_)) | (refine cw_block ?_) | ((first | refine cw_exits ?_ | refine cw_exit ?_ | refine cw_skip ?_); simp (maxSteps := 1000000) (disch := omega) only [go_sem]) | (refine hB _ ?_; clear hB KB) | (refine exit_by (S := Sg) (by assumption) ?_) | ((first | refine cw_rets ?_ | refine cw_ret ?_); simp (maxSteps := 1000000) (disch := omega) only [go_sem]; (try clear hB KB); (try clear hK K)))
  · rw [isect, if_pos hb]; rfl
  · rw [isect, if_neg (by rw [hb.1, hb.2]; simp)]; rfl
theorem risect_spec (r q : Rect) : Pure Sg 132 [ag (rectE r), ag (rectE q)] (fun x => x = .b (ag (rectE (isect r q)))) := by
  refine pure_of Tryd.func132 rfl (rs := [.cell 4 28]) rfl rfl mixed (by decide +kernel) (Nat.le_of_ble_eq_true rfl) (argsLt_mem (by simp (maxSteps := 1000000) (disch := omega) only [go_sem])) ?_
  repeat' (first | refine cw_assoc ?_ | refine cw_skips ?_ | refine cw_labels ?_ | ((first | refine cw_step (fun K hK => ?_) | refine cw_last (fun K hK => ?_) | refine cw_stepD (by decide +kernel) (by decide +kernel) (fun K hK => ?_) | refine cw_lastD (by decide +kernel) (by decide +kernel) (fun K hK => ?_) | refine rgB_some ?_ | refine call_a (r13empty_spec _) ?_ | refine gcall_a (fun hg => r13empty_spec _) ?_ | refine call_a (r13clean_spec ⟨max r.x0 q.x0, max r.y0 q.y0, min r.x1 q.x1, min r.y1 q.y1⟩) ?_ | refine gcall_a (fun hg => r13clean_spec ⟨max r.x0 q.x0, max r.y0 q.y0, min r.x1 q.x1, min r.y1 q.y1⟩) ?_); (try simp (maxSteps := 1000000) (disch := omega) only [go_sem]); (repeat' (refine And.intro ?_ ?_)); (all_goals first | (refine hK _ ?_; clear hK K) | exact auto_cl | skip)) | ((first | apply cw_ite | apply cw_iteN); (case hf => rfl); (case hc => simp (maxSteps := 1000000) (disch := omega) only [go_sem]; rfl); (all_goals first | (intro hb; (try simp only [decide_eq_true_eq, decide_eq_false_iff_not, beq_iff_eq, beq_eq_false_iff_ne, bne_iff_ne, bne_eq_false_iff_eq, ne_eq, Bool.not_eq_true, Bool.not_eq_false, Bool.not_true, Bool.not_false, Bool.not_eq_eq_eq_not, Int.not_lt, Int.not_le, gt_iff_lt, ge_iff_le, Bool.cond_eq_ite, Bool.if_false_right, Bool.if_true_left, Bool.and_eq_true, Bool.or_eq_true, Bool.and_eq_false_imp, Bool.or_eq_false_iff, Decidable.not_not, beq_true, beq_false, iteT, iteF, cond_true, cond_false] at hb)) | skip)) | exact atN_intro | ((first | apply cw_if | apply cw_cond); (case hc => simp (maxSteps := 1000000) (disch := omega) only [go_sem]; rfl); (all_goals (intro hb; (try simp only [decide_eq_true_eq, decide_eq_false_iff_not, beq_iff_eq, beq_eq_false_iff_ne, bne_iff_ne, bne_eq_false_iff_eq, ne_eq, Bool.not_eq_true, Bool.not_eq_false, Bool.not_true, Bool.not_false, Bool.not_eq_eq_eq_not, Int.not_lt, Int.not_le, gt_iff_lt, ge_iff_le, Bool.cond_eq_ite, Bool.if_false_right, Bool.if_true_left, Bool.and_eq_true, Bool.or_eq_true, Bool.and_eq_false_imp, Bool.or_eq_false_iff, Decidable.not_not, beq_true, beq_false, iteT, iteF, cond_true, cond_false] at hb); try (exfalso; omega)))) | (refine cw_blocks (fun KB hB => ?_)) | (refine cw_block ?_) | ((first | refine cw_exits ?_ | refine cw_exit ?_ | refine cw_skip ?_); simp (maxSteps := 1000000) (disch := omega) only [go_sem]) | (refine hB _ ?_; clear hB KB) | (refine exit_by (S := Sg) (by assumption) ?_) | ((first | refine cw_rets ?_ | refine cw_ret ?_); simp (maxSteps := 1000000) (disch := omega) only [go_sem]; (try clear hB KB); (try clear hK K)))
  · rw [isect, if_pos hb]; rfl
  · rw [isect, if_neg (by rw [hb.1, hb.2]; simp)]; rfl
theorem move_spec (r : Rect) (dx dy : Int) : Pure Sg 66 [ag (rectE r), I dx, I dy] (fun x => x = .b (ag (rectE (moveR r dx dy)))) := by
  refine pure_of Tryd.func66 rfl (rs := [.cell 6 28]) rfl rfl mixed (by decide +kernel) (Nat.le_of_ble_eq_true rfl) (argsLt_mem (by simp (maxSteps := 1000000) (disch := omega) only [go_sem])) ?_
  repeat' (first | refine cw_assoc ?_ | refine cw_skips ?_ | refine cw_labels ?_ | ((first | (with_reducible refine cw_stepV (id := 1) (fun K hW => ?_)) | refine cw_step (fun K hK => ?_) | refine cw_last (fun K hK => ?_) | refine cw_stepD (by decide +kernel) (by decide +kernel) (fun K hK => ?_) | refine cw_lastD (by decide +kernel) (by decide +kernel) (fun K hK => ?_) | refine rgB_some ?_ | refine call_a (rempty_spec _) ?_ | refine gcall_a (fun hg => rempty_spec _) ?_); (try simp (maxSteps := 1000000) (disch := omega) only [go_sem]); (repeat' (refine And.intro ?_ ?_)); (all_goals first | (refine hK _ ?_; clear hK K) | exact auto_cl | skip)) | ((first | apply cw_ite | apply cw_iteN); (case hf => rfl); (case hc => simp (maxSteps := 1000000) (disch := omega) only [go_sem]; rfl); (all_goals first | (intro hb; (try simp only [decide_eq_true_eq, decide_eq_false_iff_not, beq_iff_eq, beq_eq_false_iff_ne, bne_iff_ne, bne_eq_false_iff_eq, ne_eq, Bool.not_eq_true, Bool.not_eq_false, Bool.not_true, Bool.not_false, Bool.not_eq_eq_eq_not, Int.not_lt, Int.not_le, gt_iff_lt, ge_iff_le, Bool.cond_eq_ite, Bool.if_false_right, Bool.if_true_left, Bool.and_eq_true, Bool.or_eq_true, Bool.and_eq_false_imp, Bool.or_eq_false_iff, Decidable.not_not, beq_true, beq_false, iteT, iteF, cond_true, cond_false] at hb)) | skip)) | exact atN_intro | ((first | apply cw_if | apply cw_cond); (case hc => simp (maxSteps := 1000000) (disch := omega) only [go_sem]; rfl); (all_goals (intro hb; (try simp only [decide_eq_true_eq, decide_eq_false_iff_not, beq_iff_eq, beq_eq_false_iff_ne, bne_iff_ne, bne_eq_false_iff_eq, ne_eq, Bool.not_eq_true, Bool.not_eq_false, Bool.not_true, Bool.not_false, Bool.not_eq_eq_eq_not, Int.not_lt, Int.not_le, gt_iff_lt, ge_iff_le, Bool.cond_eq_ite, Bool.if_false_right, Bool.if_true_left, Bool.and_eq_true, Bool.or_eq_true, Bool.and_eq_false_imp, Bool.or_eq_false_iff, Decidable.not_not, beq_true, beq_false, iteT, iteF, cond_true, cond_false] at hb); try (exfalso; omega)))) | (refine cw_blocks (fun KB hB => ?_)) | (refine cw_block ?_) | ((first | refine cw_exits ?_ | refine cw_exit ?_ | refine cw_skip ?_); simp (maxSteps := 1000000) (disch := omega) only [go_sem]) | (refine hB _ ?_; clear hB KB) | (refine exit_by (S := Sg) (by assumption) ?_) | ((first | refine cw_rets ?_ | refine cw_ret ?_); simp (maxSteps := 1000000) (disch := omega) only [go_sem]; (try clear hB KB); (try clear hK K)))
  refine rgs_split (.c .any) ?_ ?_ trivial ?_ (fun hg => ?_) (fun hg => ?_)
  · rfl
  · rfl
  · (first | (simp (maxSteps := 1000000) (disch := omega) only [go_sem]; done) | (simp (maxSteps := 1000000) (disch := omega) only [go_sem]; rfl))
  · have hg2 : emptyR r = false := by simpa using hg
    simp (maxSteps := 1000000) (disch := omega) only [go_sem]
    repeat' (refine And.intro ?_ ?_)
    all_goals first | (refine hK _ ?_; clear hK K) | exact auto_cl | skip
    refine gcall_lend (args' := [I 2147483648, .c (.p (ints [dx, dy]))]) hg ?_ (within_spec 2147483648 [dx, dy] (by omega) (by omega) (by simp)) ?_ (by trivial) trivial ?_
    · simp (maxSteps := 1000000) (disch := omega) only [go_sem]
    · simp (maxSteps := 1000000) (disch := omega) only [go_sem, argsLe_cons, argsLe_nil]
      refine ⟨bvle_refl, bvle_p (lst_le fun i hi j hj => ?_)⟩
      have h1 : i = 0 ∨ i = 1 := by omega
      have h2 : j = 0 := by omega
      subst h2
      rcases h1 with rfl | rfl <;> rfl
    simp (maxSteps := 1000000) (disch := omega) only [go_sem]
    repeat' (refine And.intro ?_ ?_)
    all_goals first | (refine hK _ ?_; clear hK K) | exact auto_cl | skip
    refine hW _ (mkSt [(1, .b (I dx)), (2, .b (I dy)), (3, .b (.c (.ptr 0 0))), (6, .b (.c (.ptr 1 0))), (15, .b (B (!withinM 2147483648 [dx, dy])))] [(0, .fix ((rectE r).map CV.p)), (1, .fix ((rectE zeroR).map CV.p))] 2) ?_ ?_
    · clear hW
      refine le_of [(1, some 1)] rfl (by decide) rfl ?_ ?_
      all_goals simp (maxSteps := 1000000) (disch := omega) only [go_sem]
      repeat' (refine And.intro ?_ ?_)
      all_goals first | rfl | omega | exact .inl rfl | trivial | skip
      rw [hg2]; exact .inl rfl
    · clear hW
      cases hq : withinM 2147483648 [dx, dy] with
      | false =>
        repeat' (first | refine cw_assoc ?_ | refine cw_skips ?_ | refine cw_labels ?_ | ((first | refine cw_step (fun K hK => ?_) | refine cw_last (fun K hK => ?_) | refine cw_stepD (by decide +kernel) (by decide +kernel) (fun K hK => ?_) | refine cw_lastD (by decide +kernel) (by decide +kernel) (fun K hK => ?_) | refine rgB_some ?_); (try simp (maxSteps := 1000000) (disch := omega) only [go_sem]); (repeat' (refine And.intro ?_ ?_)); (all_goals first | (refine hK _ ?_; clear hK K) | exact auto_cl | skip)) | ((first | apply cw_ite | apply cw_iteN); (case hf => rfl); (case hc => simp (maxSteps := 1000000) (disch := omega) only [go_sem]; rfl); (all_goals first | (intro hb; (try simp only [decide_eq_true_eq, decide_eq_false_iff_not, beq_iff_eq, beq_eq_false_iff_ne, bne_iff_ne, bne_eq_false_iff_eq, ne_eq, Bool.not_eq_true, Bool.not_eq_false, Bool.not_true, Bool.not_false, Bool.not_eq_eq_eq_not, Int.not_lt, Int.not_le, gt_iff_lt, ge_iff_le, Bool.cond_eq_ite, Bool.if_false_right, Bool.if_true_left, Bool.and_eq_true, Bool.or_eq_true, Bool.and_eq_false_imp, Bool.or_eq_false_iff, Decidable.not_not, beq_true, beq_false, iteT, iteF, cond_true, cond_false] at hb)) | skip)) | exact atN_intro | ((first | apply cw_if | apply cw_cond); (case hc => simp (maxSteps := 1000000) (disch := omega) only [go_sem]; rfl); (all_goals (intro hb; (try simp only [decide_eq_true_eq, decide_eq_false_iff_not, beq_iff_eq, beq_eq_false_iff_ne, bne_iff_ne, bne_eq_false_iff_eq, ne_eq, Bool.not_eq_true, Bool.not_eq_false, Bool.not_true, Bool.not_false, Bool.not_eq_eq_eq_not, Int.not_lt, Int.not_le, gt_iff_lt, ge_iff_le, Bool.cond_eq_ite, Bool.if_false_right, Bool.if_true_left, Bool.and_eq_true, Bool.or_eq_true, Bool.and_eq_false_imp, Bool.or_eq_false_iff, Decidable.not_not, beq_true, beq_false, iteT, iteF, cond_true, cond_false] at hb); try (exfalso; omega)))) | (refine cw_blocks (fun KB hB => ?_)) | (refine cw_block ?_) | ((first | refine cw_exits ?_ | refine cw_exit ?_ | refine cw_skip ?_); simp (maxSteps := 1000000) (disch := omega) only [go_sem]) | (refine hB _ ?_; clear hB KB) | (refine exit_by (S := Sg) (by assumption) ?_) | ((first | refine cw_rets ?_ | refine cw_ret ?_); simp (maxSteps := 1000000) (disch := omega) only [go_sem]; (try clear hB KB); (try clear hK K)))
        rw [moveR, if_pos (.inr (by simp only [withinM, List.all_cons, List.all_nil, Bool.and_true, Bool.and_eq_false_iff, decide_eq_false_iff_not] at hq; omega))]; rfl
      | true =>
        simp only [withinM, List.all_cons, List.all_nil, Bool.and_true, Bool.and_eq_true, decide_eq_true_eq] at hq
        have hv := empty_iff.1 hg2
        repeat' (first | refine cw_assoc ?_ | refine cw_skips ?_ | refine cw_labels ?_ | ((first | refine cw_step (fun K hK => ?_) | refine cw_last (fun K hK => ?_) | refine cw_stepD (by decide +kernel) (by decide +kernel) (fun K hK => ?_) | refine cw_lastD (by decide +kernel) (by decide +kernel) (fun K hK => ?_) | refine rgB_some ?_ | refine call_a (rclean_spec ⟨r.x0 + dx, r.y0 + dy, r.x1 + dx, r.y1 + dy⟩) ?_ | refine gcall_a (fun hg => rclean_spec ⟨r.x0 + dx, r.y0 + dy, r.x1 + dx, r.y1 + dy⟩) ?_); (try simp (maxSteps := 1000000) (disch := omega) only [go_sem]); (repeat' (refine And.intro ?_ ?_)); (all_goals first | (refine hK _ ?_; clear hK K) | exact auto_cl | skip)) | ((first | apply cw_ite | apply cw_iteN); (case hf => rfl); (case hc => simp (maxSteps := 1000000) (disch := omega) only [go_sem]; rfl); (all_goals first | (intro hb; (try simp only [decide_eq_true_eq, decide_eq_false_iff_not, beq_iff_eq, beq_eq_false_iff_ne, bne_iff_ne, bne_eq_false_iff_eq, ne_eq, Bool.not_eq_true, Bool.not_eq_false, Bool.not_true, Bool.not_false, Bool.not_eq_eq_eq_not, Int.not_lt, Int.not_le, gt_iff_lt, ge_iff_le, Bool.cond_eq_ite, Bool.if_false_right, Bool.if_true_left, Bool.and_eq_true, Bool.or_eq_true, Bool.and_eq_false_imp, Bool.or_eq_false_iff, Decidable.not_not, beq_true, beq_false, iteT, iteF, cond_true, cond_false] at hb)) | skip)) | exact atN_intro | ((first | apply cw_if | apply cw_cond); (case hc => simp (maxSteps := 1000000) (disch := omega) only [go_sem]; rfl); (all_goals (intro hb; (try simp only [decide_eq_true_eq, decide_eq_false_iff_not, beq_iff_eq, beq_eq_false_iff_ne, bne_iff_ne, bne_eq_false_iff_eq, ne_eq, Bool.not_eq_true, Bool.not_eq_false, Bool.not_true, Bool.not_false, Bool.not_eq_eq_eq_not, Int.not_lt, Int.not_le, gt_iff_lt, ge_iff_le, Bool.cond_eq_ite, Bool.if_false_right, Bool.if_true_left, Bool.and_eq_true, Bool.or_eq_true, Bool.and_eq_false_imp, Bool.or_eq_false_iff, Decidable.not_not, beq_true, beq_false, iteT, iteF, cond_true, cond_false] at hb); try (exfalso; omega)))) | (refine cw_blocks (fun KB hB => ?_)) | (refine cw_block ?_) | ((first | refine cw_exits ?_ | refine cw_exit ?_ | refine cw_skip ?_); simp (maxSteps := 1000000) (disch := omega) only [go_sem]) | (refine hB _ ?_; clear hB KB) | (refine exit_by (S := Sg) (by assumption) ?_) | ((first | refine cw_rets ?_ | refine cw_ret ?_); simp (maxSteps := 1000000) (disch := omega) only [go_sem]; (try clear hB KB); (try clear hK K)))
        · cases hb
        · rw [moveR, if_neg (by rw [hg2]; simp; omega)]; rfl
  · have hg2 : emptyR r = true := by simpa using hg
    simp (maxSteps := 1000000) (disch := omega) only [go_sem]
    repeat' (refine And.intro ?_ ?_)
    all_goals first | (refine hK _ ?_; clear hK K) | exact auto_cl | skip
    refine gcall_off (B true) hg trivial ?_
    simp (maxSteps := 1000000) (disch := omega) only [go_sem]
    repeat' (refine And.intro ?_ ?_)
    all_goals first | (refine hK _ ?_; clear hK K) | exact auto_cl | skip
    refine hW _ (mkSt [(1, .b (I dx)), (2, .b (I dy)), (3, .b (.c (.ptr 0 0))), (6, .b (.c (.ptr 1 0))), (15, .b (B true))] [(0, .fix ((rectE r).map CV.p)), (1, .fix ((rectE zeroR).map CV.p))] 2) ?_ ?_
    · clear hW
      refine le_of [(1, some 1)] rfl (by decide) rfl ?_ ?_
      all_goals simp (maxSteps := 1000000) (disch := omega) only [go_sem]
      repeat' (refine And.intro ?_ ?_)
      all_goals first | rfl | omega | exact .inl rfl | trivial | skip
      rw [hg2]; exact .inl rfl
    · clear hW
      repeat' (first | refine cw_assoc ?_ | refine cw_skips ?_ | refine cw_labels ?_ | ((first | refine cw_step (fun K hK => ?_) | refine cw_last (fun K hK => ?_) | refine cw_stepD (by decide +kernel) (by decide +kernel) (fun K hK => ?_) | refine cw_lastD (by decide +kernel) (by decide +kernel) (fun K hK => ?_) | refine rgB_some ?_); (try simp (maxSteps := 1000000) (disch := omega) only [go_sem]); (repeat' (refine And.intro ?_ ?_)); (all_goals first | (refine hK _ ?_; clear hK K) | exact auto_cl | skip)) | ((first | apply cw_ite | apply cw_iteN); (case hf => rfl); (case hc => simp (maxSteps := 1000000) (disch := omega) only [go_sem]; rfl); (all_goals first | (intro hb; (try simp only [decide_eq_true_eq, decide_eq_false_iff_not, beq_iff_eq, beq_eq_false_iff_ne, bne_iff_ne, bne_eq_false_iff_eq, ne_eq, Bool.not_eq_true, Bool.not_eq_false, Bool.not_true, Bool.not_false, Bool.not_eq_eq_eq_not, Int.not_lt, Int.not_le, gt_iff_lt, ge_iff_le, Bool.cond_eq_ite, Bool.if_false_right, Bool.if_true_left, Bool.and_eq_true, Bool.or_eq_true, Bool.and_eq_false_imp, Bool.or_eq_false_iff, Decidable.not_not, beq_true, beq_false, iteT, iteF, cond_true, cond_false] at hb)) | skip)) | exact atN_intro | ((first | apply cw_if | apply cw_cond); (case hc => simp (maxSteps := 1000000) (disch := omega) only [go_sem]; rfl); (all_goals (intro hb; (try simp only [decide_eq_true_eq, decide_eq_false_iff_not, beq_iff_eq, beq_eq_false_iff_ne, bne_iff_ne, bne_eq_false_iff_eq, ne_eq, Bool.not_eq_true, Bool.not_eq_false, Bool.not_true, Bool.not_false, Bool.not_eq_eq_eq_not, Int.not_lt, Int.not_le, gt_iff_lt, ge_iff_le, Bool.cond_eq_ite, Bool.if_false_right, Bool.if_true_left, Bool.and_eq_true, Bool.or_eq_true, Bool.and_eq_false_imp, Bool.or_eq_false_iff, Decidable.not_not, beq_true, beq_false, iteT, iteF, cond_true, cond_false] at hb); try (exfalso; omega)))) | (refine cw_blocks (fun KB hB => ?_)) | (refine cw_block ?_) | ((first | refine cw_exits ?_ | refine cw_exit ?_ | refine cw_skip ?_); simp (maxSteps := 1000000) (disch := omega) only [go_sem]) | (refine hB _ ?_; clear hB KB) | (refine exit_by (S := Sg) (by assumption) ?_) | ((first | refine cw_rets ?_ | refine cw_ret ?_); simp (maxSteps := 1000000) (disch := omega) only [go_sem]; (try clear hB KB); (try clear hK K)))
      rw [moveR, if_pos (.inl hg2)]; rfl
theorem bfar_spec (v : Int) : Pure Sg 136 [I v] (fun x => x = .b (B (farM v))) := by
  refine pure_of Tryd.func136 rfl (rs := [.tmp 2]) rfl rfl mixed (by decide +kernel) (Nat.le_of_ble_eq_true rfl) (argsLt_mem (by simp (maxSteps := 1000000) (disch := omega) only [go_sem])) ?_
  repeat' (first | refine cw_assoc ?_ | refine cw_skips ?_ | refine cw_labels ?_ | ((first | refine cw_step (fun K hK => ?_) | refine cw_last (fun K hK => ?_) | refine cw_stepD (by decide +kernel) (by decide +kernel) (fun K hK => ?_) | refine cw_lastD (by decide +kernel) (by decide +kernel) (fun K hK => ?_) | refine rgB_some ?_); (try simp (maxSteps := 1000000) (disch := omega) only [go_sem]); (repeat' (refine And.intro ?_ ?_)); (all_goals first | (refine hK _ ?_; clear hK K) | exact auto_cl | skip)) | ((first | apply cw_ite | apply cw_iteN); (case hf => rfl); (case hc => simp (maxSteps := 1000000) (disch := omega) only [go_sem]; rfl); (all_goals first | (intro hb; (try simp only [decide_eq_true_eq, decide_eq_false_iff_not, beq_iff_eq, beq_eq_false_iff_ne, bne_iff_ne, bne_eq_false_iff_eq, ne_eq, Bool.not_eq_true, Bool.not_eq_false, Bool.not_true, Bool.not_false, Bool.not_eq_eq_eq_not, Int.not_lt, Int.not_le, gt_iff_lt, ge_iff_le, Bool.cond_eq_ite, Bool.if_false_right, Bool.if_true_left, Bool.and_eq_true, Bool.or_eq_true, Bool.and_eq_false_imp, Bool.or_eq_false_iff, Decidable.not_not, beq_true, beq_false, iteT, iteF, cond_true, cond_false] at hb)) | skip)) | exact atN_intro | ((first | apply cw_if | apply cw_cond); (case hc => simp (maxSteps := 1000000) (disch := omega) only [go_sem]; rfl); (all_goals (intro hb; (try simp only [decide_eq_true_eq, decide_eq_false_iff_not, beq_iff_eq, beq_eq_false_iff_ne, bne_iff_ne, bne_eq_false_iff_eq, ne_eq, Bool.not_eq_true, Bool.not_eq_false, Bool.not_true, Bool.not_false, Bool.not_eq_eq_eq_not, Int.not_lt, Int.not_le, gt_iff_lt, ge_iff_le, Bool.cond_eq_ite, Bool.if_false_right, Bool.if_true_left, Bool.and_eq_true, Bool.or_eq_true, Bool.and_eq_false_imp, Bool.or_eq_false_iff, Decidable.not_not, beq_true, beq_false, iteT, iteF, cond_true, cond_false] at hb); try (exfalso; omega)))) | (refine cw_blocks (fun KB hB => ?_)) | (refine cw_block ?_) | ((first | refine cw_exits ?_ | refine cw_exit ?_ | refine cw_skip ?_); simp (maxSteps := 1000000) (disch := omega) only [go_sem]) | (refine hB _ ?_; clear hB KB) | (refine exit_by (S := Sg) (by assumption) ?_) | ((first | refine cw_rets ?_ | refine cw_ret ?_); simp (maxSteps := 1000000) (disch := omega) only [go_sem]; (try clear hB KB); (try clear hK K)))
  refine bool_eq ?_
  (try simp only [farM, Bool.and_eq_true, Bool.or_eq_true, Bool.not_eq_true', Bool.not_eq_false', decide_eq_true_eq, decide_eq_false_iff_not, ge_iff_le, gt_iff_lt, beq_iff_eq, bne_iff_ne, ne_eq, Bool.or_eq_false_iff, Bool.and_eq_false_imp, Bool.not_true, Bool.not_false])
  try omega
theorem rule_neutral (o : Int) : ∃ a b c, ruleE o = [.val (.string (opNm o)), PI a, PI b, PI c] ∧ (decide (1 ≤ o ∧ o ≤ 12) && ((b == 1 || b == 3) && (c == 2 || c == 3))) = neutralM o := by
  by_cases h : 1 ≤ o ∧ o ≤ 12
  · have : o = 1 ∨ o = 2 ∨ o = 3 ∨ o = 4 ∨ o = 5 ∨ o = 6 ∨ o = 7 ∨ o = 8 ∨ o = 9 ∨ o = 10 ∨ o = 11 ∨ o = 12 := by omega
    rcases this with rfl | rfl | rfl | rfl | rfl | rfl | rfl | rfl | rfl | rfl | rfl | rfl <;> exact ⟨_, _, _, rfl, by decide +kernel⟩
  · obtain ⟨a, b, c, e, _⟩ := opNm_spec o
    refine ⟨a, b, c, e, ?_⟩
    rw [decide_eq_false h, Bool.false_and, neutralM]
    exact (decide_eq_false (by omega)).symm
theorem neutral_spec (o : Int) : Pure Sg 113 [I o] (fun x => x = .b (B (neutralM o))) := by
  obtain ⟨a, b, c, he, hn⟩ := rule_neutral o
  have hf := find_spec o
  rw [he] at hf
  rw [← hn]
  refine pure_of Tryd.func113 rfl (rs := [.tmp 2]) rfl rfl mixed (by decide +kernel) (Nat.le_of_ble_eq_true rfl) (argsLt_mem (by simp (maxSteps := 1000000) (disch := omega) only [go_sem])) ?_
  repeat' (first | refine cw_assoc ?_ | refine cw_skips ?_ | refine cw_labels ?_ | ((first | refine cw_step (fun K hK => ?_) | refine cw_last (fun K hK => ?_) | refine cw_stepD (by decide +kernel) (by decide +kernel) (fun K hK => ?_) | refine cw_lastD (by decide +kernel) (by decide +kernel) (fun K hK => ?_) | refine rgB_some ?_ | refine call_a (hf) ?_ | refine gcall_a (fun hg => hf) ?_); (try simp (maxSteps := 1000000) (disch := omega) only [go_sem]); (repeat' (refine And.intro ?_ ?_)); (all_goals first | (refine hK _ ?_; clear hK K) | exact auto_cl | skip)) | ((first | apply cw_ite | apply cw_iteN); (case hf => rfl); (case hc => simp (maxSteps := 1000000) (disch := omega) only [go_sem]; rfl); (all_goals first | (intro hb; (try simp only [decide_eq_true_eq, decide_eq_false_iff_not, beq_iff_eq, beq_eq_false_iff_ne, bne_iff_ne, bne_eq_false_iff_eq, ne_eq, Bool.not_eq_true, Bool.not_eq_false, Bool.not_true, Bool.not_false, Bool.not_eq_eq_eq_not, Int.not_lt, Int.not_le, gt_iff_lt, ge_iff_le, Bool.cond_eq_ite, Bool.if_false_right, Bool.if_true_left, Bool.and_eq_true, Bool.or_eq_true, Bool.and_eq_false_imp, Bool.or_eq_false_iff, Decidable.not_not, beq_true, beq_false, iteT, iteF, cond_true, cond_false] at hb)) | skip)) | exact atN_intro | ((first | apply cw_if | apply cw_cond); (case hc => simp (maxSteps := 1000000) (disch := omega) only [go_sem]; rfl); (all_goals (intro hb; (try simp only [decide_eq_true_eq, decide_eq_false_iff_not, beq_iff_eq, beq_eq_false_iff_ne, bne_iff_ne, bne_eq_false_iff_eq, ne_eq, Bool.not_eq_true, Bool.not_eq_false, Bool.not_true, Bool.not_false, Bool.not_eq_eq_eq_not, Int.not_lt, Int.not_le, gt_iff_lt, ge_iff_le, Bool.cond_eq_ite, Bool.if_false_right, Bool.if_true_left, Bool.and_eq_true, Bool.or_eq_true, Bool.and_eq_false_imp, Bool.or_eq_false_iff, Decidable.not_not, beq_true, beq_false, iteT, iteF, cond_true, cond_false] at hb); try (exfalso; omega)))) | (refine cw_blocks (fun KB hB => ?_)) | (refine cw_block ?_) | ((first | refine cw_exits ?_ | refine cw_exit ?_ | refine cw_skip ?_); simp (maxSteps := 1000000) (disch := omega) only [go_sem]) | (refine hB _ ?_; clear hB KB) | (refine exit_by (S := Sg) (by assumption) ?_) | ((first | refine cw_rets ?_ | refine cw_ret ?_); simp (maxSteps := 1000000) (disch := omega) only [go_sem]; (try clear hB KB); (try clear hK K)))
  rw [Bool.and_assoc]
theorem rneutral_spec (o : Int) : Pure Sg 130 [I o] (fun x => x = .b (B (neutralM o))) := by
  refine pure_of Tryd.func130 rfl (rs := [.tmp 2]) rfl rfl mixed (by decide +kernel) (Nat.le_of_ble_eq_true rfl) (argsLt_mem (by simp (maxSteps := 1000000) (disch := omega) only [go_sem])) ?_
  repeat' (first | refine cw_assoc ?_ | refine cw_skips ?_ | refine cw_labels ?_ | ((first | refine cw_step (fun K hK => ?_) | refine cw_last (fun K hK => ?_) | refine cw_stepD (by decide +kernel) (by decide +kernel) (fun K hK => ?_) | refine cw_lastD (by decide +kernel) (by decide +kernel) (fun K hK => ?_) | refine rgB_some ?_); (try simp (maxSteps := 1000000) (disch := omega) only [go_sem]); (repeat' (refine And.intro ?_ ?_)); (all_goals first | (refine hK _ ?_; clear hK K) | exact auto_cl | skip)) | ((first | apply cw_ite | apply cw_iteN); (case hf => rfl); (case hc => simp (maxSteps := 1000000) (disch := omega) only [go_sem]; rfl); (all_goals first | (intro hb; (try simp only [decide_eq_true_eq, decide_eq_false_iff_not, beq_iff_eq, beq_eq_false_iff_ne, bne_iff_ne, bne_eq_false_iff_eq, ne_eq, Bool.not_eq_true, Bool.not_eq_false, Bool.not_true, Bool.not_false, Bool.not_eq_eq_eq_not, Int.not_lt, Int.not_le, gt_iff_lt, ge_iff_le, Bool.cond_eq_ite, Bool.if_false_right, Bool.if_true_left, Bool.and_eq_true, Bool.or_eq_true, Bool.and_eq_false_imp, Bool.or_eq_false_iff, Decidable.not_not, beq_true, beq_false, iteT, iteF, cond_true, cond_false] at hb)) | skip)) | exact atN_intro | ((first | apply cw_if | apply cw_cond); (case hc => simp (maxSteps := 1000000) (disch := omega) only [go_sem]; rfl); (all_goals (intro hb; (try simp only [decide_eq_true_eq, decide_eq_false_iff_not, beq_iff_eq, beq_eq_false_iff_ne, bne_iff_ne, bne_eq_false_iff_eq, ne_eq, Bool.not_eq_true, Bool.not_eq_false, Bool.not_true, Bool.not_false, Bool.not_eq_eq_eq_not, Int.not_lt, Int.not_le, gt_iff_lt, ge_iff_le, Bool.cond_eq_ite, Bool.if_false_right, Bool.if_true_left, Bool.and_eq_true, Bool.or_eq_true, Bool.and_eq_false_imp, Bool.or_eq_false_iff, Decidable.not_not, beq_true, beq_false, iteT, iteF, cond_true, cond_false] at hb); try (exfalso; omega)))) | (refine cw_blocks (fun KB hB => ?_)) | (refine cw_block ?_) | ((first | refine cw_exits ?_ | refine cw_exit ?_ | refine cw_skip ?_); simp (maxSteps := 1000000) (disch := omega) only [go_sem]) | (refine hB _ ?_; clear hB KB) | (refine exit_by (S := Sg) (by assumption) ?_) | ((first | refine cw_rets ?_ | refine cw_ret ?_); simp (maxSteps := 1000000) (disch := omega) only [go_sem]; (try clear hB KB); (try clear hK K)))
  refine bool_eq ?_
  (try simp only [neutralM, Bool.and_eq_true, Bool.or_eq_true, Bool.not_eq_true', Bool.not_eq_false', decide_eq_true_eq, decide_eq_false_iff_not, ge_iff_le, gt_iff_lt, beq_iff_eq, bne_iff_ne, ne_eq, Bool.or_eq_false_iff, Bool.and_eq_false_imp, Bool.not_true, Bool.not_false])
  try omega
def rectL (l : List Rect) : PV := .lst 4 l.length (fnOf rectE l)
attribute [go_sem] rectL
theorem hull_take {l : List Rect} {i : Nat} (h : i < l.length) : hullM (l.take (i + 1)) = hull1 (hullM (l.take i)) (l.getD i default) := by
  rw [List.take_add_one, List.getElem?_eq_getElem h, List.getD_eq_getElem?_getD, List.getElem?_eq_getElem h]
  exact hull_snoc _ _
theorem hull_spec (l : List Rect) (hl : l.length ≤ 4611686018427387904) : Pure Sg 33 [.c (.p (rectL l))] (fun x => x = .b (ag (rectE (hullM l)))) := by
  refine pure_of Tryd.func33 rfl (rs := [.cell 2 28]) rfl rfl mixed (by decide +kernel) (Nat.le_of_ble_eq_true rfl) (argsLt_mem (by simp (maxSteps := 1000000) (disch := omega) only [go_sem])) ?_
  repeat' (first | refine cw_assoc ?_ | refine cw_skips ?_ | refine cw_labels ?_ | ((first | refine cw_step (fun K hK => ?_) | refine cw_last (fun K hK => ?_) | refine cw_stepD (by decide +kernel) (by decide +kernel) (fun K hK => ?_) | refine cw_lastD (by decide +kernel) (by decide +kernel) (fun K hK => ?_) | refine rgB_some ?_); (try simp (maxSteps := 1000000) (disch := omega) only [go_sem]); (repeat' (refine And.intro ?_ ?_)); (all_goals first | (refine hK _ ?_; clear hK K) | exact auto_cl | skip)) | ((first | apply cw_ite | apply cw_iteN); (case hf => rfl); (case hc => simp (maxSteps := 1000000) (disch := omega) only [go_sem]; rfl); (all_goals first | (intro hb; (try simp only [decide_eq_true_eq, decide_eq_false_iff_not, beq_iff_eq, beq_eq_false_iff_ne, bne_iff_ne, bne_eq_false_iff_eq, ne_eq, Bool.not_eq_true, Bool.not_eq_false, Bool.not_true, Bool.not_false, Bool.not_eq_eq_eq_not, Int.not_lt, Int.not_le, gt_iff_lt, ge_iff_le, Bool.cond_eq_ite, Bool.if_false_right, Bool.if_true_left, Bool.and_eq_true, Bool.or_eq_true, Bool.and_eq_false_imp, Bool.or_eq_false_iff, Decidable.not_not, beq_true, beq_false, iteT, iteF, cond_true, cond_false] at hb)) | skip)) | exact atN_intro | ((first | apply cw_if | apply cw_cond); (case hc => simp (maxSteps := 1000000) (disch := omega) only [go_sem]; rfl); (all_goals (intro hb; (try simp only [decide_eq_true_eq, decide_eq_false_iff_not, beq_iff_eq, beq_eq_false_iff_ne, bne_iff_ne, bne_eq_false_iff_eq, ne_eq, Bool.not_eq_true, Bool.not_eq_false, Bool.not_true, Bool.not_false, Bool.not_eq_eq_eq_not, Int.not_lt, Int.not_le, gt_iff_lt, ge_iff_le, Bool.cond_eq_ite, Bool.if_false_right, Bool.if_true_left, Bool.and_eq_true, Bool.or_eq_true, Bool.and_eq_false_imp, Bool.or_eq_false_iff, Decidable.not_not, beq_true, beq_false, iteT, iteF, cond_true, cond_false] at hb); try (exfalso; omega)))) | (refine cw_blocks (fun KB hB => ?_)) | (refine cw_block ?_) | ((first | refine cw_exits ?_ | refine cw_exit ?_ | refine cw_skip ?_); simp (maxSteps := 1000000) (disch := omega) only [go_sem]) | (refine hB _ ?_; clear hB KB) | (refine exit_by (S := Sg) (by assumption) ?_) | ((first | refine cw_rets ?_ | refine cw_ret ?_); simp (maxSteps := 1000000) (disch := omega) only [go_sem]; (try clear hB KB); (try clear hK K)))
  refine cw_loop (X := Nat × Rect) (fun x => mkSt [(2, .b (.c (.ptr 0 0))), (3, .b (.c (.ptr 1 0))), (6, .b (.c (.p (rectL l)))), (7, .b (I l.length)), (8, .b (I x.1))] [(0, .fix ((rectE zeroR).map CV.p)), (1, .fix ((rectE x.2).map CV.p))] 2)
    (fun x => x.1 ≤ l.length ∧ x.2 = hullM (l.take x.1)) (fun x => l.length - x.1) (0, zeroR) ?_ ?_ ?_
  · exact ⟨by dsimp only; omega, rfl⟩
  · refine le_of [(1, some 1)] rfl (by decide) rfl ?_ ?_
    all_goals simp (maxSteps := 1000000) (disch := omega) only [go_sem]
    repeat' (refine And.intro ?_ ?_)
    all_goals first | rfl | omega | exact .inl rfl | trivial | skip
  · rintro ⟨i, h⟩ ⟨hi, hh⟩
    dsimp only at hi hh ⊢
    have e0 := hull_take (l := l) (i := i)
    cases he : emptyR (l.getD i default) with
    | true =>
      repeat' (first | ((first | apply cw_ifT | apply cw_condT); (case hc => simp (maxSteps := 1000000) (disch := omega) only [go_sem]; rfl); (case ht => (simp only [Int.toNat_natCast, Int.reduceBEq, Int.reduceBNe, Int.reduceLT, Int.reduceLE, decide_true, decide_false, Bool.not_true, Bool.not_false, Bool.and_true, Bool.true_and, Bool.and_false, Bool.false_and, Bool.or_true, Bool.true_or, Bool.or_false, Bool.false_or, he]; done))) | ((first | apply cw_ifF | apply cw_condF); (case hc => simp (maxSteps := 1000000) (disch := omega) only [go_sem]; rfl); (case ht => (simp only [Int.toNat_natCast, Int.reduceBEq, Int.reduceBNe, Int.reduceLT, Int.reduceLE, decide_true, decide_false, Bool.not_true, Bool.not_false, Bool.and_true, Bool.true_and, Bool.and_false, Bool.false_and, Bool.or_true, Bool.true_or, Bool.or_false, Bool.false_or, he]; done))) | refine cw_assoc ?_ | refine cw_skips ?_ | refine cw_labels ?_ | ((first | refine cw_step (fun K hK => ?_) | refine cw_last (fun K hK => ?_) | refine cw_stepD (by decide +kernel) (by decide +kernel) (fun K hK => ?_) | refine cw_lastD (by decide +kernel) (by decide +kernel) (fun K hK => ?_) | refine rgB_some ?_ | refine call_a (rempty_spec (l.getD i default)) ?_ | refine gcall_a (fun hg => rempty_spec (l.getD i default)) ?_ | refine call_a (rempty_spec h) ?_ | refine gcall_a (fun hg => rempty_spec h) ?_); (try simp (maxSteps := 1000000) (disch := omega) only [go_sem]); (repeat' (refine And.intro ?_ ?_)); (all_goals first | (refine hK _ ?_; clear hK K) | exact auto_cl | skip)) | ((first | apply cw_ite | apply cw_iteN); (case hf => rfl); (case hc => simp (maxSteps := 1000000) (disch := omega) only [go_sem]; rfl); (all_goals first | (intro hb; (try simp only [decide_eq_true_eq, decide_eq_false_iff_not, beq_iff_eq, beq_eq_false_iff_ne, bne_iff_ne, bne_eq_false_iff_eq, ne_eq, Bool.not_eq_true, Bool.not_eq_false, Bool.not_true, Bool.not_false, Bool.not_eq_eq_eq_not, Int.not_lt, Int.not_le, gt_iff_lt, ge_iff_le, Bool.cond_eq_ite, Bool.if_false_right, Bool.if_true_left, Bool.and_eq_true, Bool.or_eq_true, Bool.and_eq_false_imp, Bool.or_eq_false_iff, Decidable.not_not, beq_true, beq_false, iteT, iteF, cond_true, cond_false] at hb)) | skip)) | exact atN_intro | ((first | apply cw_if | apply cw_cond); (case hc => simp (maxSteps := 1000000) (disch := omega) only [go_sem]; rfl); (all_goals (intro hb; (try simp only [decide_eq_true_eq, decide_eq_false_iff_not, beq_iff_eq, beq_eq_false_iff_ne, bne_iff_ne, bne_eq_false_iff_eq, ne_eq, Bool.not_eq_true, Bool.not_eq_false, Bool.not_true, Bool.not_false, Bool.not_eq_eq_eq_not, Int.not_lt, Int.not_le, gt_iff_lt, ge_iff_le, Bool.cond_eq_ite, Bool.if_false_right, Bool.if_true_left, Bool.and_eq_true, Bool.or_eq_true, Bool.and_eq_false_imp, Bool.or_eq_false_iff, Decidable.not_not, beq_true, beq_false, iteT, iteF, cond_true, cond_false] at hb); try (exfalso; omega)))) | (refine cw_blocks (fun KB hB => ?_)) | (refine cw_block ?_) | ((first | refine cw_exits ?_ | refine cw_exit ?_ | refine cw_skip ?_); simp (maxSteps := 1000000) (disch := omega) only [go_sem]) | (refine hB _ ?_; clear hB KB) | (refine exit_by (S := Sg) (by assumption) ?_) | ((first | refine cw_rets ?_ | refine cw_ret ?_); simp (maxSteps := 1000000) (disch := omega) only [go_sem]; (try clear hB KB); (try clear hK K)))
      · rw [thenQ_normal]
        refine wk_loop (i + 1, h) ?_ ⟨by dsimp only; omega, by rw [e0 (by omega), hull1, if_pos he, hh]⟩ (by dsimp only; omega)
        refine le_of [(1, some 1)] rfl (by decide) rfl ?_ ?_
        all_goals simp (maxSteps := 1000000) (disch := omega) only [go_sem]
        repeat' (refine And.intro ?_ ?_)
        all_goals first | rfl | omega | exact .inl rfl | trivial | skip
      · rw [hh, show i = l.length by omega, List.take_length]; rfl
    | false =>
      cases he2 : emptyR h with
      | true =>
        repeat' (first | ((first | apply cw_ifT | apply cw_condT); (case hc => simp (maxSteps := 1000000) (disch := omega) only [go_sem]; rfl); (case ht => (simp only [Int.toNat_natCast, Int.reduceBEq, Int.reduceBNe, Int.reduceLT, Int.reduceLE, decide_true, decide_false, Bool.not_true, Bool.not_false, Bool.and_true, Bool.true_and, Bool.and_false, Bool.false_and, Bool.or_true, Bool.true_or, Bool.or_false, Bool.false_or, he, he2]; done))) | ((first | apply cw_ifF | apply cw_condF); (case hc => simp (maxSteps := 1000000) (disch := omega) only [go_sem]; rfl); (case ht => (simp only [Int.toNat_natCast, Int.reduceBEq, Int.reduceBNe, Int.reduceLT, Int.reduceLE, decide_true, decide_false, Bool.not_true, Bool.not_false, Bool.and_true, Bool.true_and, Bool.and_false, Bool.false_and, Bool.or_true, Bool.true_or, Bool.or_false, Bool.false_or, he, he2]; done))) | refine cw_assoc ?_ | refine cw_skips ?_ | refine cw_labels ?_ | ((first | refine cw_step (fun K hK => ?_) | refine cw_last (fun K hK => ?_) | refine cw_stepD (by decide +kernel) (by decide +kernel) (fun K hK => ?_) | refine cw_lastD (by decide +kernel) (by decide +kernel) (fun K hK => ?_) | refine rgB_some ?_ | refine call_a (rempty_spec (l.getD i default)) ?_ | refine gcall_a (fun hg => rempty_spec (l.getD i default)) ?_ | refine call_a (rempty_spec h) ?_ | refine gcall_a (fun hg => rempty_spec h) ?_); (try simp (maxSteps := 1000000) (disch := omega) only [go_sem]); (repeat' (refine And.intro ?_ ?_)); (all_goals first | (refine hK _ ?_; clear hK K) | exact auto_cl | skip)) | ((first | apply cw_ite | apply cw_iteN); (case hf => rfl); (case hc => simp (maxSteps := 1000000) (disch := omega) only [go_sem]; rfl); (all_goals first | (intro hb; (try simp only [decide_eq_true_eq, decide_eq_false_iff_not, beq_iff_eq, beq_eq_false_iff_ne, bne_iff_ne, bne_eq_false_iff_eq, ne_eq, Bool.not_eq_true, Bool.not_eq_false, Bool.not_true, Bool.not_false, Bool.not_eq_eq_eq_not, Int.not_lt, Int.not_le, gt_iff_lt, ge_iff_le, Bool.cond_eq_ite, Bool.if_false_right, Bool.if_true_left, Bool.and_eq_true, Bool.or_eq_true, Bool.and_eq_false_imp, Bool.or_eq_false_iff, Decidable.not_not, beq_true, beq_false, iteT, iteF, cond_true, cond_false] at hb)) | skip)) | exact atN_intro | ((first | apply cw_if | apply cw_cond); (case hc => simp (maxSteps := 1000000) (disch := omega) only [go_sem]; rfl); (all_goals (intro hb; (try simp only [decide_eq_true_eq, decide_eq_false_iff_not, beq_iff_eq, beq_eq_false_iff_ne, bne_iff_ne, bne_eq_false_iff_eq, ne_eq, Bool.not_eq_true, Bool.not_eq_false, Bool.not_true, Bool.not_false, Bool.not_eq_eq_eq_not, Int.not_lt, Int.not_le, gt_iff_lt, ge_iff_le, Bool.cond_eq_ite, Bool.if_false_right, Bool.if_true_left, Bool.and_eq_true, Bool.or_eq_true, Bool.and_eq_false_imp, Bool.or_eq_false_iff, Decidable.not_not, beq_true, beq_false, iteT, iteF, cond_true, cond_false] at hb); try (exfalso; omega)))) | (refine cw_blocks (fun KB hB => ?_)) | (refine cw_block ?_) | ((first | refine cw_exits ?_ | refine cw_exit ?_ | refine cw_skip ?_); simp (maxSteps := 1000000) (disch := omega) only [go_sem]) | (refine hB _ ?_; clear hB KB) | (refine exit_by (S := Sg) (by assumption) ?_) | ((first | refine cw_rets ?_ | refine cw_ret ?_); simp (maxSteps := 1000000) (disch := omega) only [go_sem]; (try clear hB KB); (try clear hK K)))
        · rw [thenQ_normal]
          refine wk_loop (i + 1, l.getD i default) ?_ ⟨by dsimp only; omega, by rw [e0 (by omega), hull1, if_neg (by rw [he]; simp), ← hh, if_pos he2]⟩ (by dsimp only; omega)
          refine le_of [(1, some 1)] rfl (by decide) rfl ?_ ?_
          all_goals simp (maxSteps := 1000000) (disch := omega) only [go_sem]
          repeat' (refine And.intro ?_ ?_)
          all_goals first | rfl | omega | exact .inl rfl | trivial | skip
        · rw [hh, show i = l.length by omega, List.take_length]; rfl
      | false =>
        repeat' (first | ((first | apply cw_ifT | apply cw_condT); (case hc => simp (maxSteps := 1000000) (disch := omega) only [go_sem]; rfl); (case ht => (simp only [Int.toNat_natCast, Int.reduceBEq, Int.reduceBNe, Int.reduceLT, Int.reduceLE, decide_true, decide_false, Bool.not_true, Bool.not_false, Bool.and_true, Bool.true_and, Bool.and_false, Bool.false_and, Bool.or_true, Bool.true_or, Bool.or_false, Bool.false_or, he, he2]; done))) | ((first | apply cw_ifF | apply cw_condF); (case hc => simp (maxSteps := 1000000) (disch := omega) only [go_sem]; rfl); (case ht => (simp only [Int.toNat_natCast, Int.reduceBEq, Int.reduceBNe, Int.reduceLT, Int.reduceLE, decide_true, decide_false, Bool.not_true, Bool.not_false, Bool.and_true, Bool.true_and, Bool.and_false, Bool.false_and, Bool.or_true, Bool.true_or, Bool.or_false, Bool.false_or, he, he2]; done))) | refine cw_assoc ?_ | refine cw_skips ?_ | refine cw_labels ?_ | ((first | refine cw_step (fun K hK => ?_) | refine cw_last (fun K hK => ?_) | refine cw_stepD (by decide +kernel) (by decide +kernel) (fun K hK => ?_) | refine cw_lastD (by decide +kernel) (by decide +kernel) (fun K hK => ?_) | refine rgB_some ?_ | refine call_a (rempty_spec (l.getD i default)) ?_ | refine gcall_a (fun hg => rempty_spec (l.getD i default)) ?_ | refine call_a (rempty_spec h) ?_ | refine gcall_a (fun hg => rempty_spec h) ?_); (try simp (maxSteps := 1000000) (disch := omega) only [go_sem]); (repeat' (refine And.intro ?_ ?_)); (all_goals first | (refine hK _ ?_; clear hK K) | exact auto_cl | skip)) | ((first | apply cw_ite | apply cw_iteN); (case hf => rfl); (case hc => simp (maxSteps := 1000000) (disch := omega) only [go_sem]; rfl); (all_goals first | (intro hb; (try simp only [decide_eq_true_eq, decide_eq_false_iff_not, beq_iff_eq, beq_eq_false_iff_ne, bne_iff_ne, bne_eq_false_iff_eq, ne_eq, Bool.not_eq_true, Bool.not_eq_false, Bool.not_true, Bool.not_false, Bool.not_eq_eq_eq_not, Int.not_lt, Int.not_le, gt_iff_lt, ge_iff_le, Bool.cond_eq_ite, Bool.if_false_right, Bool.if_true_left, Bool.and_eq_true, Bool.or_eq_true, Bool.and_eq_false_imp, Bool.or_eq_false_iff, Decidable.not_not, beq_true, beq_false, iteT, iteF, cond_true, cond_false] at hb)) | skip)) | exact atN_intro | ((first | apply cw_if | apply cw_cond); (case hc => simp (maxSteps := 1000000) (disch := omega) only [go_sem]; rfl); (all_goals (intro hb; (try simp only [decide_eq_true_eq, decide_eq_false_iff_not, beq_iff_eq, beq_eq_false_iff_ne, bne_iff_ne, bne_eq_false_iff_eq, ne_eq, Bool.not_eq_true, Bool.not_eq_false, Bool.not_true, Bool.not_false, Bool.not_eq_eq_eq_not, Int.not_lt, Int.not_le, gt_iff_lt, ge_iff_le, Bool.cond_eq_ite, Bool.if_false_right, Bool.if_true_left, Bool.and_eq_true, Bool.or_eq_true, Bool.and_eq_false_imp, Bool.or_eq_false_iff, Decidable.not_not, beq_true, beq_false, iteT, iteF, cond_true, cond_false] at hb); try (exfalso; omega)))) | (refine cw_blocks (fun KB hB => ?_)) | (refine cw_block ?_) | ((first | refine cw_exits ?_ | refine cw_exit ?_ | refine cw_skip ?_); simp (maxSteps := 1000000) (disch := omega) only [go_sem]) | (refine hB _ ?_; clear hB KB) | (refine exit_by (S := Sg) (by assumption) ?_) | ((first | refine cw_rets ?_ | refine cw_ret ?_); simp (maxSteps := 1000000) (disch := omega) only [go_sem]; (try clear hB KB); (try clear hK K)))
        · rw [thenQ_normal]
          refine wk_loop (i + 1, ⟨min h.x0 (l.getD i default).x0, min h.y0 (l.getD i default).y0, max h.x1 (l.getD i default).x1, max h.y1 (l.getD i default).y1⟩) ?_ ⟨by dsimp only; omega, by rw [e0 (by omega), hull1, if_neg (by rw [he]; simp), ← hh, if_neg (by rw [he2]; simp)]⟩ (by dsimp only; omega)
          refine le_of [(1, some 1)] rfl (by decide) rfl ?_ ?_
          all_goals simp (maxSteps := 1000000) (disch := omega) only [go_sem]
          repeat' (refine And.intro ?_ ?_)
          all_goals first | rfl | omega | exact .inl rfl | trivial | skip
        · rw [hh, show i = l.length by omega, List.take_length]; rfl
theorem rhull_spec (l : List Rect) (hl : l.length ≤ 4611686018427387904) : Pure Sg 37 [.c (.p (rectL l))] (fun x => x = .b (ag (rectE (hullM l)))) := by
  refine pure_of Tryd.func37 rfl (rs := [.cell 2 28]) rfl rfl mixed (by decide +kernel) (Nat.le_of_ble_eq_true rfl) (argsLt_mem (by simp (maxSteps := 1000000) (disch := omega) only [go_sem])) ?_
  repeat' (first | refine cw_assoc ?_ | refine cw_skips ?_ | refine cw_labels ?_ | ((first | refine cw_step (fun K hK => ?_) | refine cw_last (fun K hK => ?_) | refine cw_stepD (by decide +kernel) (by decide +kernel) (fun K hK => ?_) | refine cw_lastD (by decide +kernel) (by decide +kernel) (fun K hK => ?_) | refine rgB_some ?_); (try simp (maxSteps := 1000000) (disch := omega) only [go_sem]); (repeat' (refine And.intro ?_ ?_)); (all_goals first | (refine hK _ ?_; clear hK K) | exact auto_cl | skip)) | ((first | apply cw_ite | apply cw_iteN); (case hf => rfl); (case hc => simp (maxSteps := 1000000) (disch := omega) only [go_sem]; rfl); (all_goals first | (intro hb; (try simp only [decide_eq_true_eq, decide_eq_false_iff_not, beq_iff_eq, beq_eq_false_iff_ne, bne_iff_ne, bne_eq_false_iff_eq, ne_eq, Bool.not_eq_true, Bool.not_eq_false, Bool.not_true, Bool.not_false, Bool.not_eq_eq_eq_not, Int.not_lt, Int.not_le, gt_iff_lt, ge_iff_le, Bool.cond_eq_ite, Bool.if_false_right, Bool.if_true_left, Bool.and_eq_true, Bool.or_eq_true, Bool.and_eq_false_imp, Bool.or_eq_false_iff, Decidable.not_not, beq_true, beq_false, iteT, iteF, cond_true, cond_false] at hb)) | skip)) | exact atN_intro | ((first | apply cw_if | apply cw_cond); (case hc => simp (maxSteps := 1000000) (disch := omega) only [go_sem]; rfl); (all_goals (intro hb; (try simp only [decide_eq_true_eq, decide_eq_false_iff_not, beq_iff_eq, beq_eq_false_iff_ne, bne_iff_ne, bne_eq_false_iff_eq, ne_eq, Bool.not_eq_true, Bool.not_eq_false, Bool.not_true, Bool.not_false, Bool.not_eq_eq_eq_not, Int.not_lt, Int.not_le, gt_iff_lt, ge_iff_le, Bool.cond_eq_ite, Bool.if_false_right, Bool.if_true_left, Bool.and_eq_true, Bool.or_eq_true, Bool.and_eq_false_imp, Bool.or_eq_false_iff, Decidable.not_not, beq_true, beq_false, iteT, iteF, cond_true, cond_false] at hb); try (exfalso; omega)))) | (refine cw_blocks (fun KB hB => ?_)) | (refine cw_block ?_) | ((first | refine cw_exits ?_ | refine cw_exit ?_ | refine cw_skip ?_); simp (maxSteps := 1000000) (disch := omega) only [go_sem]) | (refine hB _ ?_; clear hB KB) | (refine exit_by (S := Sg) (by assumption) ?_) | ((first | refine cw_rets ?_ | refine cw_ret ?_); simp (maxSteps := 1000000) (disch := omega) only [go_sem]; (try clear hB KB); (try clear hK K)))
  refine cw_loop (X := Nat × Rect) (fun x => mkSt [(0, .b (.c (.p (rectL l)))), (2, .b (.c (.ptr 0 0))), (3, .b (.c (.ptr 1 0))), (4, .b (I x.1))] [(0, .fix ((rectE zeroR).map CV.p)), (1, .fix ((rectE x.2).map CV.p))] 2)
    (fun x => x.1 ≤ l.length ∧ x.2 = hullM (l.take x.1)) (fun x => l.length - x.1) (0, zeroR) ?_ ?_ ?_
  · exact ⟨by dsimp only; omega, rfl⟩
  · refine le_of [(1, some 1)] rfl (by decide) rfl ?_ ?_
    all_goals simp (maxSteps := 1000000) (disch := omega) only [go_sem]
    repeat' (refine And.intro ?_ ?_)
    all_goals first | rfl | omega | exact .inl rfl | trivial | skip
  · rintro ⟨i, h⟩ ⟨hi, hh⟩
    dsimp only at hi hh ⊢
    have e0 := hull_take (l := l) (i := i)
    cases he : emptyR (l.getD i default) with
    | true =>
      repeat' (first | ((first | apply cw_ifT | apply cw_condT); (case hc => simp (maxSteps := 1000000) (disch := omega) only [go_sem]; rfl); (case ht => (simp only [Int.toNat_natCast, Int.reduceBEq, Int.reduceBNe, Int.reduceLT, Int.reduceLE, decide_true, decide_false, Bool.not_true, Bool.not_false, Bool.and_true, Bool.true_and, Bool.and_false, Bool.false_and, Bool.or_true, Bool.true_or, Bool.or_false, Bool.false_or, he]; done))) | ((first | apply cw_ifF | apply cw_condF); (case hc => simp (maxSteps := 1000000) (disch := omega) only [go_sem]; rfl); (case ht => (simp only [Int.toNat_natCast, Int.reduceBEq, Int.reduceBNe, Int.reduceLT, Int.reduceLE, decide_true, decide_false, Bool.not_true, Bool.not_false, Bool.and_true, Bool.true_and, Bool.and_false, Bool.false_and, Bool.or_true, Bool.true_or, Bool.or_false, Bool.false_or, he]; done))) | refine cw_assoc ?_ | refine cw_skips ?_ | refine cw_labels ?_ | ((first | refine cw_step (fun K hK => ?_) | refine cw_last (fun K hK => ?_) | refine cw_stepD (by decide +kernel) (by decide +kernel) (fun K hK => ?_) | refine cw_lastD (by decide +kernel) (by decide +kernel) (fun K hK => ?_) | refine rgB_some ?_ | refine call_a (r13empty_spec (l.getD i default)) ?_ | refine gcall_a (fun hg => r13empty_spec (l.getD i default)) ?_ | refine call_a (r13empty_spec h) ?_ | refine gcall_a (fun hg => r13empty_spec h) ?_); (try simp (maxSteps := 1000000) (disch := omega) only [go_sem]); (repeat' (refine And.intro ?_ ?_)); (all_goals first | (refine hK _ ?_; clear hK K) | exact auto_cl | skip)) | ((first | apply cw_ite | apply cw_iteN); (case hf => rfl); (case hc => simp (maxSteps := 1000000) (disch := omega) only [go_sem]; rfl); (all_goals first | (intro hb; (try simp only [decide_eq_true_eq, decide_eq_false_iff_not, beq_iff_eq, beq_eq_false_iff_ne, bne_iff_ne, bne_eq_false_iff_eq, ne_eq, Bool.not_eq_true, Bool.not_eq_false, Bool.not_true, Bool.not_false, Bool.not_eq_eq_eq_not, Int.not_lt, Int.not_le, gt_iff_lt, ge_iff_le, Bool.cond_eq_ite, Bool.if_false_right, Bool.if_true_left, Bool.and_eq_true, Bool.or_eq_true, Bool.and_eq_false_imp, Bool.or_eq_false_iff, Decidable.not_not, beq_true, beq_false, iteT, iteF, cond_true, cond_false] at hb)) | skip)) | exact atN_intro | ((first | apply cw_if | apply cw_cond); (case hc => simp (maxSteps := 1000000) (disch := omega) only [go_sem]; rfl); (all_goals (intro hb; (try simp only [decide_eq_true_eq, decide_eq_false_iff_not, beq_iff_eq, beq_eq_false_iff_ne, bne_iff_ne, bne_eq_false_iff_eq, ne_eq, Bool.not_eq_true, Bool.not_eq_false, Bool.not_true, Bool.not_false, Bool.not_eq_eq_eq_not, Int.not_lt, Int.not_le, gt_iff_lt, ge_iff_le, Bool.cond_eq_ite, Bool.if_false_right, Bool.if_true_left, Bool.and_eq_true, Bool.or_eq_true, Bool.and_eq_false_imp, Bool.or_eq_false_iff, Decidable.not_not, beq_true, beq_false, iteT, iteF, cond_true, cond_false] at hb); try (exfalso; omega)))) | (refine cw_blocks (fun KB hB => ?_)) | (refine cw_block ?_) | ((first | refine cw_exits ?_ | refine cw_exit ?_ | refine cw_skip ?_); simp (maxSteps := 1000000) (disch := omega) only [go_sem]) | (refine hB _ ?_; clear hB KB) | (refine exit_by (S := Sg) (by assumption) ?_) | ((first | refine cw_rets ?_ | refine cw_ret ?_); simp (maxSteps := 1000000) (disch := omega) only [go_sem]; (try clear hB KB); (try clear hK K)))
      · rw [thenQ_normal]
        refine wk_loop (i + 1, h) ?_ ⟨by dsimp only; omega, by rw [e0 (by omega), hull1, if_pos he, hh]⟩ (by dsimp only; omega)
        refine le_of [(1, some 1)] rfl (by decide) rfl ?_ ?_
        all_goals simp (maxSteps := 1000000) (disch := omega) only [go_sem]
        repeat' (refine And.intro ?_ ?_)
        all_goals first | rfl | omega | exact .inl rfl | trivial | skip
      · rw [hh, show i = l.length by omega, List.take_length]; rfl
    | false =>
      cases he2 : emptyR h with
      | true =>
        repeat' (first | ((first | apply cw_ifT | apply cw_condT); (case hc => simp (maxSteps := 1000000) (disch := omega) only [go_sem]; rfl); (case ht => (simp only [Int.toNat_natCast, Int.reduceBEq, Int.reduceBNe, Int.reduceLT, Int.reduceLE, decide_true, decide_false, Bool.not_true, Bool.not_false, Bool.and_true, Bool.true_and, Bool.and_false, Bool.false_and, Bool.or_true, Bool.true_or, Bool.or_false, Bool.false_or, he, he2]; done))) | ((first | apply cw_ifF | apply cw_condF); (case hc => simp (maxSteps := 1000000) (disch := omega) only [go_sem]; rfl); (case ht => (simp only [Int.toNat_natCast, Int.reduceBEq, Int.reduceBNe, Int.reduceLT, Int.reduceLE, decide_true, decide_false, Bool.not_true, Bool.not_false, Bool.and_true, Bool.true_and, Bool.and_false, Bool.false_and, Bool.or_true, Bool.true_or, Bool.or_false, Bool.false_or, he, he2]; done))) | refine cw_assoc ?_ | refine cw_skips ?_ | refine cw_labels ?_ | ((first | refine cw_step (fun K hK => ?_) | refine cw_last (fun K hK => ?_) | refine cw_stepD (by decide +kernel) (by decide +kernel) (fun K hK => ?_) | refine cw_lastD (by decide +kernel) (by decide +kernel) (fun K hK => ?_) | refine rgB_some ?_ | refine call_a (r13empty_spec (l.getD i default)) ?_ | refine gcall_a (fun hg => r13empty_spec (l.getD i default)) ?_ | refine call_a (r13empty_spec h) ?_ | refine gcall_a (fun hg => r13empty_spec h) ?_); (try simp (maxSteps := 1000000) (disch := omega) only [go_sem]); (repeat' (refine And.intro ?_ ?_)); (all_goals first | (refine hK _ ?_; clear hK K) | exact auto_cl | skip)) | ((first | apply cw_ite | apply cw_iteN); (case hf => rfl); (case hc => simp (maxSteps := 1000000) (disch := omega) only [go_sem]; rfl); (all_goals first | (intro hb; (try simp only [decide_eq_true_eq, decide_eq_false_iff_not, beq_iff_eq, beq_eq_false_iff_ne, bne_iff_ne, bne_eq_false_iff_eq, ne_eq, Bool.not_eq_true, Bool.not_eq_false, Bool.not_true, Bool.not_false, Bool.not_eq_eq_eq_not, Int.not_lt, Int.not_le, gt_iff_lt, ge_iff_le, Bool.cond_eq_ite, Bool.if_false_right, Bool.if_true_left, Bool.and_eq_true, Bool.or_eq_true, Bool.and_eq_false_imp, Bool.or_eq_false_iff, Decidable.not_not, beq_true, beq_false, iteT, iteF, cond_true, cond_false] at hb)) | skip)) | exact atN_intro | ((first | apply cw_if | apply cw_cond); (case hc => simp (maxSteps := 1000000) (disch := omega) only [go_sem]; rfl); (all_goals (intro hb; (try simp only [decide_eq_true_eq, decide_eq_false_iff_not, beq_iff_eq, beq_eq_false_iff_ne, bne_iff_ne, bne_eq_false_iff_eq, ne_eq, Bool.not_eq_true, Bool.not_eq_false, Bool.not_true, Bool.not_false, Bool.not_eq_eq_eq_not, Int.not_lt, Int.not_le, gt_iff_lt, ge_iff_le, Bool.cond_eq_ite, Bool.if_false_right, Bool.if_true_left, Bool.and_eq_true, Bool.or_eq_true, Bool.and_eq_false_imp, Bool.or_eq_false_iff, Decidable.not_not, beq_true, beq_false, iteT, iteF, cond_true, cond_false] at hb); try (exfalso; omega)))) | (refine cw_blocks (fun KB hB => ?_)) | (refine cw_block ?_) | ((first | refine cw_exits ?_ | refine cw_exit ?_ | refine cw_skip ?_); simp (maxSteps := 1000000) (disch := omega) only [go_sem]) | (refine hB _ ?_; clear hB KB) | (refine exit_by (S := Sg) (by assumption) ?_) | ((first | refine cw_rets ?_ | refine cw_ret ?_); simp (maxSteps := 1000000) (disch := omega) only [go_sem]; (try clear hB KB); (try clear hK K)))
        · rw [thenQ_normal]
          refine wk_loop (i + 1, l.getD i default) ?_ ⟨by dsimp only; omega, by rw [e0 (by omega), hull1, if_neg (by rw [he]; simp), ← hh, if_pos he2]⟩ (by dsimp only; omega)
          refine le_of [(1, some 1)] rfl (by decide) rfl ?_ ?_
          all_goals simp (maxSteps := 1000000) (disch := omega) only [go_sem]
          repeat' (refine And.intro ?_ ?_)
          all_goals first | rfl | omega | exact .inl rfl | trivial | skip
        · rw [hh, show i = l.length by omega, List.take_length]; rfl
      | false =>
        repeat' (first | ((first | apply cw_ifT | apply cw_condT); (case hc => simp (maxSteps := 1000000) (disch := omega) only [go_sem]; rfl); (case ht => (simp only [Int.toNat_natCast, Int.reduceBEq, Int.reduceBNe, Int.reduceLT, Int.reduceLE, decide_true, decide_false, Bool.not_true, Bool.not_false, Bool.and_true, Bool.true_and, Bool.and_false, Bool.false_and, Bool.or_true, Bool.true_or, Bool.or_false, Bool.false_or, he, he2]; done))) | ((first | apply cw_ifF | apply cw_condF); (case hc => simp (maxSteps := 1000000) (disch := omega) only [go_sem]; rfl); (case ht => (simp only [Int.toNat_natCast, Int.reduceBEq, Int.reduceBNe, Int.reduceLT, Int.reduceLE, decide_true, decide_false, Bool.not_true, Bool.not_false, Bool.and_true, Bool.true_and, Bool.and_false, Bool.false_and, Bool.or_true, Bool.true_or, Bool.or_false, Bool.false_or, he, he2]; done))) | refine cw_assoc ?_ | refine cw_skips ?_ | refine cw_labels ?_ | ((first | refine cw_step (fun K hK => ?_) | refine cw_last (fun K hK => ?_) | refine cw_stepD (by decide +kernel) (by decide +kernel) (fun K hK => ?_) | refine cw_lastD (by decide +kernel) (by decide +kernel) (fun K hK => ?_) | refine rgB_some ?_ | refine call_a (r13empty_spec (l.getD i default)) ?_ | refine gcall_a (fun hg => r13empty_spec (l.getD i default)) ?_ | refine call_a (r13empty_spec h) ?_ | refine gcall_a (fun hg => r13empty_spec h) ?_); (try simp (maxSteps := 1000000) (disch := omega) only [go_sem]); (repeat' (refine And.intro ?_ ?_)); (all_goals first | (refine hK _ ?_; clear hK K) | exact auto_cl | skip)) | ((first | apply cw_ite | apply cw_iteN); (case hf => rfl); (case hc => simp (maxSteps := 1000000) (disch := omega) only [go_sem]; rfl); (all_goals first | (intro hb; (try simp only [decide_eq_true_eq, decide_eq_false_iff_not, beq_iff_eq, beq_eq_false_iff_ne, bne_iff_ne, bne_eq_false_iff_eq, ne_eq, Bool.not_eq_true, Bool.not_eq_false, Bool.not_true, Bool.not_false, Bool.not_eq_eq_eq_not, Int.not_lt, Int.not_le, gt_iff_lt, ge_iff_le, Bool.cond_eq_ite, Bool.if_false_right, Bool.if_true_left, Bool.and_eq_true, Bool.or_eq_true, Bool.and_eq_false_imp, Bool.or_eq_false_iff, Decidable.not_not, beq_true, beq_false, iteT, iteF, cond_true, cond_false] at hb)) | skip)) | exact atN_intro | ((first | apply cw_if | apply cw_cond); (case hc => simp (maxSteps := 1000000) (disch := omega) only [go_sem]; rfl); (all_goals (intro hb; (try simp only [decide_eq_true_eq, decide_eq_false_iff_not, beq_iff_eq, beq_eq_false_iff_ne, bne_iff_ne, bne_eq_false_iff_eq, ne_eq, Bool.not_eq_true, Bool.not_eq_false, Bool.not_true, Bool.not_false, Bool.not_eq_eq_eq_not, Int.not_lt, Int.not_le, gt_iff_lt, ge_iff_le, Bool.cond_eq_ite, Bool.if_false_right, Bool.if_true_left, Bool.and_eq_true, Bool.or_eq_true, Bool.and_eq_false_imp, Bool.or_eq_false_iff, Decidable.not_not, beq_true, beq_false, iteT, iteF, cond_true, cond_false] at hb); try (exfalso; omega)))) | (refine cw_blocks (fun KB hB => ?_)) | (refine cw_block ?_) | ((first | refine cw_exits ?_ | refine cw_exit ?_ | refine cw_skip ?_); simp (maxSteps := 1000000) (disch := omega) only [go_sem]) | (refine hB _ ?_; clear hB KB) | (refine exit_by (S := Sg) (by assumption) ?_) | ((first | refine cw_rets ?_ | refine cw_ret ?_); simp (maxSteps := 1000000) (disch := omega) only [go_sem]; (try clear hB KB); (try clear hK K)))
        · rw [thenQ_normal]
          refine wk_loop (i + 1, ⟨min (l.getD i default).x0 h.x0, min (l.getD i default).y0 h.y0, max (l.getD i default).x1 h.x1, max (l.getD i default).y1 h.y1⟩) ?_ ⟨by dsimp only; omega, by rw [e0 (by omega), hull1, if_neg (by rw [he]; simp), ← hh, if_neg (by rw [he2]; simp)]; rw [Int.min_comm _ h.x0, Int.min_comm _ h.y0, Int.max_comm _ h.x1, Int.max_comm _ h.y1]⟩ (by dsimp only; omega)
          refine le_of [(1, some 1)] rfl (by decide) rfl ?_ ?_
          all_goals simp (maxSteps := 1000000) (disch := omega) only [go_sem]
          repeat' (refine And.intro ?_ ?_)
          all_goals first | rfl | omega | exact .inl rfl | trivial | skip
        · rw [hh, show i = l.length by omega, List.take_length]; rfl
theorem far_le {v : Int} (h : farM v = false) : -1099511627776 ≤ v ∧ v ≤ 1099511627776 := by
  simp only [farM, decide_eq_false_iff_not] at h; omega
theorem placed_spec (s : Script) (i x y : Int) (hs : ScriptLen s) : Pure Sg 126 [ag (scriptE s), I i, I x, I y] (fun r => r = .b (ag (rectE (placedM s i x y)))) := by
  obtain ⟨h1, h2, h3⟩ := id hs
  refine pure_of Tryd.func126 rfl (rs := [.cell 8 28]) rfl rfl mixed (by decide +kernel) (Nat.le_of_ble_eq_true rfl) (argsLt_mem (by simp (maxSteps := 1000000) (disch := omega) only [go_sem])) ?_
  cases hfar : (farM x || farM y || farM (s.images.getD i.toNat default).w || farM (s.images.getD i.toNat default).h) with
  | true =>
    repeat' (first | ((first | apply cw_ifT | apply cw_condT); (case hc => simp (maxSteps := 1000000) (disch := omega) only [go_sem]; rfl); (case ht => (simp only [Int.toNat_natCast, Int.reduceBEq, Int.reduceBNe, Int.reduceLT, Int.reduceLE, decide_true, decide_false, Bool.not_true, Bool.not_false, Bool.and_true, Bool.true_and, Bool.and_false, Bool.false_and, Bool.or_true, Bool.true_or, Bool.or_false, Bool.false_or, hfar]; done))) | ((first | apply cw_ifF | apply cw_condF); (case hc => simp (maxSteps := 1000000) (disch := omega) only [go_sem]; rfl); (case ht => (simp only [Int.toNat_natCast, Int.reduceBEq, Int.reduceBNe, Int.reduceLT, Int.reduceLE, decide_true, decide_false, Bool.not_true, Bool.not_false, Bool.and_true, Bool.true_and, Bool.and_false, Bool.false_and, Bool.or_true, Bool.true_or, Bool.or_false, Bool.false_or, hfar]; done))) | refine cw_assoc ?_ | refine cw_skips ?_ | refine cw_labels ?_ | ((first | refine cw_step (fun K hK => ?_) | refine cw_last (fun K hK => ?_) | refine cw_stepD (by decide +kernel) (by decide +kernel) (fun K hK => ?_) | refine cw_lastD (by decide +kernel) (by decide +kernel) (fun K hK => ?_) | refine rgB_some ?_ | refine call_a (bfar_spec x) ?_ | refine gcall_a (fun hg => bfar_spec x) ?_ | refine call_a (bfar_spec y) ?_ | refine gcall_a (fun hg => bfar_spec y) ?_ | refine call_a (bfar_spec (s.images.getD i.toNat default).w) ?_ | refine gcall_a (fun hg => bfar_spec (s.images.getD i.toNat default).w) ?_ | refine call_a (bfar_spec (s.images.getD i.toNat default).h) ?_ | refine gcall_a (fun hg => bfar_spec (s.images.getD i.toNat default).h) ?_); (try simp (maxSteps := 1000000) (disch := omega) only [go_sem]); (repeat' (refine And.intro ?_ ?_)); (all_goals first | (refine hK _ ?_; clear hK K) | exact auto_cl | skip)) | ((first | apply cw_ite | apply cw_iteN); (case hf => rfl); (case hc => simp (maxSteps := 1000000) (disch := omega) only [go_sem]; rfl); (all_goals first | (intro hb; (try simp only [decide_eq_true_eq, decide_eq_false_iff_not, beq_iff_eq, beq_eq_false_iff_ne, bne_iff_ne, bne_eq_false_iff_eq, ne_eq, Bool.not_eq_true, Bool.not_eq_false, Bool.not_true, Bool.not_false, Bool.not_eq_eq_eq_not, Int.not_lt, Int.not_le, gt_iff_lt, ge_iff_le, Bool.cond_eq_ite, Bool.if_false_right, Bool.if_true_left, Bool.and_eq_true, Bool.or_eq_true, Bool.and_eq_false_imp, Bool.or_eq_false_iff, Decidable.not_not, beq_true, beq_false, iteT, iteF, cond_true, cond_false] at hb)) | skip)) | exact atN_intro | ((first | apply cw_if | apply cw_cond); (case hc => simp (maxSteps := 1000000) (disch := omega) only [go_sem]; rfl); (all_goals (intro hb; (try simp only [decide_eq_true_eq, decide_eq_false_iff_not, beq_iff_eq, beq_eq_false_iff_ne, bne_iff_ne, bne_eq_false_iff_eq, ne_eq, Bool.not_eq_true, Bool.not_eq_false, Bool.not_true, Bool.not_false, Bool.not_eq_eq_eq_not, Int.not_lt, Int.not_le, gt_iff_lt, ge_iff_le, Bool.cond_eq_ite, Bool.if_false_right, Bool.if_true_left, Bool.and_eq_true, Bool.or_eq_true, Bool.and_eq_false_imp, Bool.or_eq_false_iff, Decidable.not_not, beq_true, beq_false, iteT, iteF, cond_true, cond_false] at hb); try (exfalso; omega)))) | (refine cw_blocks (fun KB hB => ?_)) | (refine cw_block ?_) | ((first | refine cw_exits ?_ | refine cw_exit ?_ | refine cw_skip ?_); simp (maxSteps := 1000000) (disch := omega) only [go_sem]) | (refine hB _ ?_; clear hB KB) | (refine exit_by (S := Sg) (by assumption) ?_) | ((first | refine cw_rets ?_ | refine cw_ret ?_); simp (maxSteps := 1000000) (disch := omega) only [go_sem]; (try clear hB KB); (try clear hK K)))
    · rw [placedM, if_pos (by omega)]; rfl
    · rw [placedM, if_neg (by omega), if_pos hfar]; rfl
  | false =>
    have hq := hfar
    simp only [Bool.or_eq_false_iff] at hq
    have f1 := far_le hq.1.1.1
    have f2 := far_le hq.1.1.2
    have f3 := far_le hq.1.2
    have f4 := far_le hq.2
    repeat' (first | ((first | apply cw_ifT | apply cw_condT); (case hc => simp (maxSteps := 1000000) (disch := omega) only [go_sem]; rfl); (case ht => (simp only [Int.toNat_natCast, Int.reduceBEq, Int.reduceBNe, Int.reduceLT, Int.reduceLE, decide_true, decide_false, Bool.not_true, Bool.not_false, Bool.and_true, Bool.true_and, Bool.and_false, Bool.false_and, Bool.or_true, Bool.true_or, Bool.or_false, Bool.false_or, hfar]; done))) | ((first | apply cw_ifF | apply cw_condF); (case hc => simp (maxSteps := 1000000) (disch := omega) only [go_sem]; rfl); (case ht => (simp only [Int.toNat_natCast, Int.reduceBEq, Int.reduceBNe, Int.reduceLT, Int.reduceLE, decide_true, decide_false, Bool.not_true, Bool.not_false, Bool.and_true, Bool.true_and, Bool.and_false, Bool.false_and, Bool.or_true, Bool.true_or, Bool.or_false, Bool.false_or, hfar]; done))) | refine cw_assoc ?_ | refine cw_skips ?_ | refine cw_labels ?_ | ((first | refine cw_step (fun K hK => ?_) | refine cw_last (fun K hK => ?_) | refine cw_stepD (by decide +kernel) (by decide +kernel) (fun K hK => ?_) | refine cw_lastD (by decide +kernel) (by decide +kernel) (fun K hK => ?_) | refine rgB_some ?_ | refine call_a (bfar_spec x) ?_ | refine gcall_a (fun hg => bfar_spec x) ?_ | refine call_a (bfar_spec y) ?_ | refine gcall_a (fun hg => bfar_spec y) ?_ | refine call_a (bfar_spec (s.images.getD i.toNat default).w) ?_ | refine gcall_a (fun hg => bfar_spec (s.images.getD i.toNat default).w) ?_ | refine call_a (bfar_spec (s.images.getD i.toNat default).h) ?_ | refine gcall_a (fun hg => bfar_spec (s.images.getD i.toNat default).h) ?_ | refine call_a (isect_spec ⟨x, y, x + (s.images.getD i.toNat default).w, y + (s.images.getD i.toNat default).h⟩ s.canvas) ?_ | refine gcall_a (fun hg => isect_spec ⟨x, y, x + (s.images.getD i.toNat default).w, y + (s.images.getD i.toNat default).h⟩ s.canvas) ?_); (try simp (maxSteps := 1000000) (disch := omega) only [go_sem]); (repeat' (refine And.intro ?_ ?_)); (all_goals first | (refine hK _ ?_; clear hK K) | exact auto_cl | skip)) | ((first | apply cw_ite | apply cw_iteN); (case hf => rfl); (case hc => simp (maxSteps := 1000000) (disch := omega) only [go_sem]; rfl); (all_goals first | (intro hb; (try simp only [decide_eq_true_eq, decide_eq_false_iff_not, beq_iff_eq, beq_eq_false_iff_ne, bne_iff_ne, bne_eq_false_iff_eq, ne_eq, Bool.not_eq_true, Bool.not_eq_false, Bool.not_true, Bool.not_false, Bool.not_eq_eq_eq_not, Int.not_lt, Int.not_le, gt_iff_lt, ge_iff_le, Bool.cond_eq_ite, Bool.if_false_right, Bool.if_true_left, Bool.and_eq_true, Bool.or_eq_true, Bool.and_eq_false_imp, Bool.or_eq_false_iff, Decidable.not_not, beq_true, beq_false, iteT, iteF, cond_true, cond_false] at hb)) | skip)) | exact atN_intro | ((first | apply cw_if | apply cw_cond); (case hc => simp (maxSteps := 1000000) (disch := omega) only [go_sem]; rfl); (all_goals (intro hb; (try simp only [decide_eq_true_eq, decide_eq_false_iff_not, beq_iff_eq, beq_eq_false_iff_ne, bne_iff_ne, bne_eq_false_iff_eq, ne_eq, Bool.not_eq_true, Bool.not_eq_false, Bool.not_true, Bool.not_false, Bool.not_eq_eq_eq_not, Int.not_lt, Int.not_le, gt_iff_lt, ge_iff_le, Bool.cond_eq_ite, Bool.if_false_right, Bool.if_true_left, Bool.and_eq_true, Bool.or_eq_true, Bool.and_eq_false_imp, Bool.or_eq_false_iff, Decidable.not_not, beq_true, beq_false, iteT, iteF, cond_true, cond_false] at hb); try (exfalso; omega)))) | (refine cw_blocks (fun KB hB => ?_)) | (refine cw_block ?_) | ((first | refine cw_exits ?_ | refine cw_exit ?_ | refine cw_skip ?_); simp (maxSteps := 1000000) (disch := omega) only [go_sem]) | (refine hB _ ?_; clear hB KB) | (refine exit_by (S := Sg) (by assumption) ?_) | ((first | refine cw_rets ?_ | refine cw_ret ?_); simp (maxSteps := 1000000) (disch := omega) only [go_sem]; (try clear hB KB); (try clear hK K)))
    · rw [placedM, if_pos (by omega)]; rfl
    · rw [placedM, if_neg (by omega), if_neg (by rw [hfar]; simp)]; rfl
theorem imageRect_spec (s : Script) (o : Op) (hs : ScriptLen s) : Pure Sg 102 [ag (scriptE s), ag (opE o)] (fun r => r = .b (ag (rectE (imageRectM s o)))) := by
  refine pure_of Tryd.func102 rfl (rs := [.cell 4 28]) rfl rfl mixed (by decide +kernel) (Nat.le_of_ble_eq_true rfl) (argsLt_mem (by simp (maxSteps := 1000000) (disch := omega) only [go_sem])) ?_
  repeat' (first | refine cw_assoc ?_ | refine cw_skips ?_ | refine cw_labels ?_ | ((first | refine cw_step (fun K hK => ?_) | refine cw_last (fun K hK => ?_) | refine cw_stepD (by decide +kernel) (by decide +kernel) (fun K hK => ?_) | refine cw_lastD (by decide +kernel) (by decide +kernel) (fun K hK => ?_) | refine rgB_some ?_ | refine call_a (placed_spec s o.image o.x o.y hs) ?_ | refine gcall_a (fun hg => placed_spec s o.image o.x o.y hs) ?_); (try simp (maxSteps := 1000000) (disch := omega) only [go_sem]); (repeat' (refine And.intro ?_ ?_)); (all_goals first | (refine hK _ ?_; clear hK K) | exact auto_cl | skip)) | ((first | apply cw_ite | apply cw_iteN); (case hf => rfl); (case hc => simp (maxSteps := 1000000) (disch := omega) only [go_sem]; rfl); (all_goals first | (intro hb; (try simp only [decide_eq_true_eq, decide_eq_false_iff_not, beq_iff_eq, beq_eq_false_iff_ne, bne_iff_ne, bne_eq_false_iff_eq, ne_eq, Bool.not_eq_true, Bool.not_eq_false, Bool.not_true, Bool.not_false, Bool.not_eq_eq_eq_not, Int.not_lt, Int.not_le, gt_iff_lt, ge_iff_le, Bool.cond_eq_ite, Bool.if_false_right, Bool.if_true_left, Bool.and_eq_true, Bool.or_eq_true, Bool.and_eq_false_imp, Bool.or_eq_false_iff, Decidable.not_not, beq_true, beq_false, iteT, iteF, cond_true, cond_false] at hb)) | skip)) | exact atN_intro | ((first | apply cw_if | apply cw_cond); (case hc => simp (maxSteps := 1000000) (disch := omega) only [go_sem]; rfl); (all_goals (intro hb; (try simp only [decide_eq_true_eq, decide_eq_false_iff_not, beq_iff_eq, beq_eq_false_iff_ne, bne_iff_ne, bne_eq_false_iff_eq, ne_eq, Bool.not_eq_true, Bool.not_eq_false, Bool.not_true, Bool.not_false, Bool.not_eq_eq_eq_not, Int.not_lt, Int.not_le, gt_iff_lt, ge_iff_le, Bool.cond_eq_ite, Bool.if_false_right, Bool.if_true_left, Bool.and_eq_true, Bool.or_eq_true, Bool.and_eq_false_imp, Bool.or_eq_false_iff, Decidable.not_not, beq_true, beq_false, iteT, iteF, cond_true, cond_false] at hb); try (exfalso; omega)))) | (refine cw_blocks (fun KB hB => ?_)) | (refine cw_block ?_) | ((first | refine cw_exits ?_ | refine cw_exit ?_ | refine cw_skip ?_); simp (maxSteps := 1000000) (disch := omega) only [go_sem]) | (refine hB _ ?_; clear hB KB) | (refine exit_by (S := Sg) (by assumption) ?_) | ((first | refine cw_rets ?_ | refine cw_ret ?_); simp (maxSteps := 1000000) (disch := omega) only [go_sem]; (try clear hB KB); (try clear hK K)))
  · rw [imageRectM, if_neg (by omega)]; rfl
  · rw [imageRectM, if_pos (by omega)]; rfl
theorem maskRect_spec (s : Script) (o : Op) (hs : ScriptLen s) (hm : 0 ≤ o.mask ∧ o.mask ≤ 1000000) : Pure Sg 125 [ag (scriptE s), ag (opE o)] (fun r => r = .b (ag (rectE (maskRectM s o)))) := by
  obtain ⟨m1, m2⟩ := hm
  refine pure_of Tryd.func125 rfl (rs := [.cell 4 28]) rfl rfl mixed (by decide +kernel) (Nat.le_of_ble_eq_true rfl) (argsLt_mem (by simp (maxSteps := 1000000) (disch := omega) only [go_sem])) ?_
  repeat' (first | refine cw_assoc ?_ | refine cw_skips ?_ | refine cw_labels ?_ | ((first | refine cw_step (fun K hK => ?_) | refine cw_last (fun K hK => ?_) | refine cw_stepD (by decide +kernel) (by decide +kernel) (fun K hK => ?_) | refine cw_lastD (by decide +kernel) (by decide +kernel) (fun K hK => ?_) | refine rgB_some ?_ | refine call_a (isect_spec s.canvas s.canvas) ?_ | refine gcall_a (fun hg => isect_spec s.canvas s.canvas) ?_ | refine call_a (placed_spec s (o.mask - 1) o.maskX o.maskY hs) ?_ | refine gcall_a (fun hg => placed_spec s (o.mask - 1) o.maskX o.maskY hs) ?_); (try simp (maxSteps := 1000000) (disch := omega) only [go_sem]); (repeat' (refine And.intro ?_ ?_)); (all_goals first | (refine hK _ ?_; clear hK K) | exact auto_cl | skip)) | ((first | apply cw_ite | apply cw_iteN); (case hf => rfl); (case hc => simp (maxSteps := 1000000) (disch := omega) only [go_sem]; rfl); (all_goals first | (intro hb; (try simp only [decide_eq_true_eq, decide_eq_false_iff_not, beq_iff_eq, beq_eq_false_iff_ne, bne_iff_ne, bne_eq_false_iff_eq, ne_eq, Bool.not_eq_true, Bool.not_eq_false, Bool.not_true, Bool.not_false, Bool.not_eq_eq_eq_not, Int.not_lt, Int.not_le, gt_iff_lt, ge_iff_le, Bool.cond_eq_ite, Bool.if_false_right, Bool.if_true_left, Bool.and_eq_true, Bool.or_eq_true, Bool.and_eq_false_imp, Bool.or_eq_false_iff, Decidable.not_not, beq_true, beq_false, iteT, iteF, cond_true, cond_false] at hb)) | skip)) | exact atN_intro | ((first | apply cw_if | apply cw_cond); (case hc => simp (maxSteps := 1000000) (disch := omega) only [go_sem]; rfl); (all_goals (intro hb; (try simp only [decide_eq_true_eq, decide_eq_false_iff_not, beq_iff_eq, beq_eq_false_iff_ne, bne_iff_ne, bne_eq_false_iff_eq, ne_eq, Bool.not_eq_true, Bool.not_eq_false, Bool.not_true, Bool.not_false, Bool.not_eq_eq_eq_not, Int.not_lt, Int.not_le, gt_iff_lt, ge_iff_le, Bool.cond_eq_ite, Bool.if_false_right, Bool.if_true_left, Bool.and_eq_true, Bool.or_eq_true, Bool.and_eq_false_imp, Bool.or_eq_false_iff, Decidable.not_not, beq_true, beq_false, iteT, iteF, cond_true, cond_false] at hb); try (exfalso; omega)))) | (refine cw_blocks (fun KB hB => ?_)) | (refine cw_block ?_) | ((first | refine cw_exits ?_ | refine cw_exit ?_ | refine cw_skip ?_); simp (maxSteps := 1000000) (disch := omega) only [go_sem]) | (refine hB _ ?_; clear hB KB) | (refine exit_by (S := Sg) (by assumption) ?_) | ((first | refine cw_rets ?_ | refine cw_ret ?_); simp (maxSteps := 1000000) (disch := omega) only [go_sem]; (try clear hB KB); (try clear hK K)))
  · rw [maskRectM, if_pos (by omega)]; rfl
  · rw [maskRectM, if_neg (by omega)]; rfl
theorem box_spec (s : Script) (o : Op) (r : Rect) (hs : ScriptLen s) (hm : 0 ≤ o.mask ∧ o.mask ≤ 1000000) : Pure Sg 101 [ag (scriptE s), ag (opE o), ag (rectE r)] (fun x => x = .b (ag (rectE (boxM s o r)))) := by
  refine pure_of Tryd.func101 rfl (rs := [.cell 6 28]) rfl rfl mixed (by decide +kernel) (Nat.le_of_ble_eq_true rfl) (argsLt_mem (by simp (maxSteps := 1000000) (disch := omega) only [go_sem])) ?_
  repeat' (first | refine cw_assoc ?_ | refine cw_skips ?_ | refine cw_labels ?_ | ((first | refine cw_step (fun K hK => ?_) | refine cw_last (fun K hK => ?_) | refine cw_stepD (by decide +kernel) (by decide +kernel) (fun K hK => ?_) | refine cw_lastD (by decide +kernel) (by decide +kernel) (fun K hK => ?_) | refine rgB_some ?_ | refine call_a (neutral_spec o.operator) ?_ | refine gcall_a (fun hg => neutral_spec o.operator) ?_ | refine call_a (maskRect_spec s o hs hm) ?_ | refine gcall_a (fun hg => maskRect_spec s o hs hm) ?_ | refine call_a (isect_spec r (maskRectM s o)) ?_ | refine gcall_a (fun hg => isect_spec r (maskRectM s o)) ?_); (try simp (maxSteps := 1000000) (disch := omega) only [go_sem]); (repeat' (refine And.intro ?_ ?_)); (all_goals first | (refine hK _ ?_; clear hK K) | exact auto_cl | skip)) | ((first | apply cw_ite | apply cw_iteN); (case hf => rfl); (case hc => simp (maxSteps := 1000000) (disch := omega) only [go_sem]; rfl); (all_goals first | (intro hb; (try simp only [decide_eq_true_eq, decide_eq_false_iff_not, beq_iff_eq, beq_eq_false_iff_ne, bne_iff_ne, bne_eq_false_iff_eq, ne_eq, Bool.not_eq_true, Bool.not_eq_false, Bool.not_true, Bool.not_false, Bool.not_eq_eq_eq_not, Int.not_lt, Int.not_le, gt_iff_lt, ge_iff_le, Bool.cond_eq_ite, Bool.if_false_right, Bool.if_true_left, Bool.and_eq_true, Bool.or_eq_true, Bool.and_eq_false_imp, Bool.or_eq_false_iff, Decidable.not_not, beq_true, beq_false, iteT, iteF, cond_true, cond_false] at hb)) | skip)) | exact atN_intro | ((first | apply cw_if | apply cw_cond); (case hc => simp (maxSteps := 1000000) (disch := omega) only [go_sem]; rfl); (all_goals (intro hb; (try simp only [decide_eq_true_eq, decide_eq_false_iff_not, beq_iff_eq, beq_eq_false_iff_ne, bne_iff_ne, bne_eq_false_iff_eq, ne_eq, Bool.not_eq_true, Bool.not_eq_false, Bool.not_true, Bool.not_false, Bool.not_eq_eq_eq_not, Int.not_lt, Int.not_le, gt_iff_lt, ge_iff_le, Bool.cond_eq_ite, Bool.if_false_right, Bool.if_true_left, Bool.and_eq_true, Bool.or_eq_true, Bool.and_eq_false_imp, Bool.or_eq_false_iff, Decidable.not_not, beq_true, beq_false, iteT, iteF, cond_true, cond_false] at hb); try (exfalso; omega)))) | (refine cw_blocks (fun KB hB => ?_)) | (refine cw_block ?_) | ((first | refine cw_exits ?_ | refine cw_exit ?_ | refine cw_skip ?_); simp (maxSteps := 1000000) (disch := omega) only [go_sem]) | (refine hB _ ?_; clear hB KB) | (refine exit_by (S := Sg) (by assumption) ?_) | ((first | refine cw_rets ?_ | refine cw_ret ?_); simp (maxSteps := 1000000) (disch := omega) only [go_sem]; (try clear hB KB); (try clear hK K)))
  · rw [boxM, if_pos hb]; rfl
  · rw [boxM, if_neg (by simp [*]), if_pos (by omega)]; rfl
  · rw [boxM, if_neg (by simp [*]), if_neg (by omega)]; rfl
def four (a b c d : Int) (k : Nat) : Int := [a, b, c, d].getD k 0
theorem four_far {a b c d : Int} {k : Nat} (hk : k < 4) (h : farM (four a b c d k) = true) : (farM c || farM d || farM a || farM b) = true := by
  have : k = 0 ∨ k = 1 ∨ k = 2 ∨ k = 3 := by omega
  rcases this with rfl | rfl | rfl | rfl <;> simp only [four, List.getD_cons_zero, List.getD_cons_succ] at h <;> simp [h]
theorem four_near {a b c d : Int} (h : ∀ j, j < 4 → farM (four a b c d j) = false) : farM a = false ∧ farM b = false ∧ farM c = false ∧ farM d = false :=
  ⟨h 0 (by omega), h 1 (by omega), h 2 (by omega), h 3 (by omega)⟩
theorem rplaced_spec (s : Script) (i x y : Int) (hs : ScriptLen s) : Pure Sg 137 [ag (scriptE s), I i, I x, I y] (fun r => r = .b (ag (rectE (placedM s i x y)))) := by
  obtain ⟨h1, h2, h3⟩ := id hs
  refine pure_of Tryd.func137 rfl (rs := [.cell 8 28]) rfl rfl mixed (by decide +kernel) (Nat.le_of_ble_eq_true rfl) (argsLt_mem (by simp (maxSteps := 1000000) (disch := omega) only [go_sem])) ?_
  repeat' (first | refine cw_assoc ?_ | refine cw_skips ?_ | refine cw_labels ?_ | ((first | refine cw_step (fun K hK => ?_) | refine cw_last (fun K hK => ?_) | refine cw_stepD (by decide +kernel) (by decide +kernel) (fun K hK => ?_) | refine cw_lastD (by decide +kernel) (by decide +kernel) (fun K hK => ?_) | refine rgB_some ?_); (try simp (maxSteps := 1000000) (disch := omega) only [go_sem]); (repeat' (refine And.intro ?_ ?_)); (all_goals first | (refine hK _ ?_; clear hK K) | exact auto_cl | skip)) | ((first | apply cw_ite | apply cw_iteN); (case hf => rfl); (case hc => simp (maxSteps := 1000000) (disch := omega) only [go_sem]; rfl); (all_goals first | (intro hb; (try simp only [decide_eq_true_eq, decide_eq_false_iff_not, beq_iff_eq, beq_eq_false_iff_ne, bne_iff_ne, bne_eq_false_iff_eq, ne_eq, Bool.not_eq_true, Bool.not_eq_false, Bool.not_true, Bool.not_false, Bool.not_eq_eq_eq_not, Int.not_lt, Int.not_le, gt_iff_lt, ge_iff_le, Bool.cond_eq_ite, Bool.if_false_right, Bool.if_true_left, Bool.and_eq_true, Bool.or_eq_true, Bool.and_eq_false_imp, Bool.or_eq_false_iff, Decidable.not_not, beq_true, beq_false, iteT, iteF, cond_true, cond_false] at hb)) | skip)) | exact atN_intro | ((first | apply cw_if | apply cw_cond); (case hc => simp (maxSteps := 1000000) (disch := omega) only [go_sem]; rfl); (all_goals (intro hb; (try simp only [decide_eq_true_eq, decide_eq_false_iff_not, beq_iff_eq, beq_eq_false_iff_ne, bne_iff_ne, bne_eq_false_iff_eq, ne_eq, Bool.not_eq_true, Bool.not_eq_false, Bool.not_true, Bool.not_false, Bool.not_eq_eq_eq_not, Int.not_lt, Int.not_le, gt_iff_lt, ge_iff_le, Bool.cond_eq_ite, Bool.if_false_right, Bool.if_true_left, Bool.and_eq_true, Bool.or_eq_true, Bool.and_eq_false_imp, Bool.or_eq_false_iff, Decidable.not_not, beq_true, beq_false, iteT, iteF, cond_true, cond_false] at hb); try (exfalso; omega)))) | (refine cw_blocks (fun KB hB => ?_)) | (refine cw_block ?_) | ((first | refine cw_exits ?_ | refine cw_exit ?_ | refine cw_skip ?_); simp (maxSteps := 1000000) (disch := omega) only [go_sem]) | (refine hB _ ?_; clear hB KB) | (refine exit_by (S := Sg) (by assumption) ?_) | ((first | refine cw_rets ?_ | refine cw_ret ?_); simp (maxSteps := 1000000) (disch := omega) only [go_sem]; (try clear hB KB); (try clear hK K)))
  · rw [placedM, if_pos (by omega)]; rfl
  refine cw_loop (X := Nat) (fun k => mkSt [(2, .b (I x)), (3, .b (I y)), (4, .b (.c (.ptr 0 0))), (8, .b (.c (.ptr 1 0))), (9, .b (.c (.own 2 4))), (10, .b (I k))]
    [(0, .fix ((scriptE s).map CV.p)), (1, .fix ((rectE zeroR).map CV.p)), (2, .arr 3 1 4 (fun a _ => PI (four (s.images.getD i.toNat default).w (s.images.getD i.toNat default).h x y a)))] 3)
    (fun k => k ≤ 4 ∧ ∀ j, j < k → farM (four (s.images.getD i.toNat default).w (s.images.getD i.toNat default).h x y j) = false) (fun k => 4 - k) 0 ?_ ?_ ?_
  · exact ⟨by omega, fun j hj => absurd hj (Nat.not_lt_zero _)⟩
  · refine le_of [(1, some 1), (2, some 2)] rfl (by decide) rfl ?_ ?_
    all_goals simp (maxSteps := 1000000) (disch := omega) only [go_sem]
    repeat' (refine And.intro ?_ ?_)
    all_goals first | rfl | omega | exact .inl rfl | trivial | skip
    refine .inr fun a ha j hj => ?_
    have h2 : j = 0 := by omega
    subst h2
    have h1 : a = 0 ∨ a = 1 ∨ a = 2 ∨ a = 3 := by omega
    rcases h1 with rfl | rfl | rfl | rfl <;> exact fun _ _ _ h => h
  · rintro k ⟨hk, hf⟩
    rcases Nat.lt_or_ge k 4 with hk4 | hk4
    · repeat' (first | refine cw_assoc ?_ | refine cw_skips ?_ | refine cw_labels ?_ | ((first | refine cw_step (fun K hK => ?_) | refine cw_last (fun K hK => ?_) | refine cw_stepD (by decide +kernel) (by decide +kernel) (fun K hK => ?_) | refine cw_lastD (by decide +kernel) (by decide +kernel) (fun K hK => ?_) | refine rgB_some ?_); (try simp (maxSteps := 1000000) (disch := omega) only [go_sem]); (repeat' (refine And.intro ?_ ?_)); (all_goals first | (refine hK _ ?_; clear hK K) | exact auto_cl | skip)) | ((first | apply cw_ite | apply cw_iteN); (case hf => rfl); (case hc => simp (maxSteps := 1000000) (disch := omega) only [go_sem]; rfl); (all_goals first | (intro hb; (try simp only [decide_eq_true_eq, decide_eq_false_iff_not, beq_iff_eq, beq_eq_false_iff_ne, bne_iff_ne, bne_eq_false_iff_eq, ne_eq, Bool.not_eq_true, Bool.not_eq_false, Bool.not_true, Bool.not_false, Bool.not_eq_eq_eq_not, Int.not_lt, Int.not_le, gt_iff_lt, ge_iff_le, Bool.cond_eq_ite, Bool.if_false_right, Bool.if_true_left, Bool.and_eq_true, Bool.or_eq_true, Bool.and_eq_false_imp, Bool.or_eq_false_iff, Decidable.not_not, beq_true, beq_false, iteT, iteF, cond_true, cond_false] at hb)) | skip)) | exact atN_intro | ((first | apply cw_if | apply cw_cond); (case hc => simp (maxSteps := 1000000) (disch := omega) only [go_sem]; rfl); (all_goals (intro hb; (try simp only [decide_eq_true_eq, decide_eq_false_iff_not, beq_iff_eq, beq_eq_false_iff_ne, bne_iff_ne, bne_eq_false_iff_eq, ne_eq, Bool.not_eq_true, Bool.not_eq_false, Bool.not_true, Bool.not_false, Bool.not_eq_eq_eq_not, Int.not_lt, Int.not_le, gt_iff_lt, ge_iff_le, Bool.cond_eq_ite, Bool.if_false_right, Bool.if_true_left, Bool.and_eq_true, Bool.or_eq_true, Bool.and_eq_false_imp, Bool.or_eq_false_iff, Decidable.not_not, beq_true, beq_false, iteT, iteF, cond_true, cond_false] at hb); try (exfalso; omega)))) | (refine cw_blocks (fun KB hB => ?_)) | (refine cw_block ?_) | ((first | refine cw_exits ?_ | refine cw_exit ?_ | refine cw_skip ?_); simp (maxSteps := 1000000) (disch := omega) only [go_sem]) | (refine hB _ ?_; clear hB KB) | (refine exit_by (S := Sg) (by assumption) ?_) | ((first | refine cw_rets ?_ | refine cw_ret ?_); simp (maxSteps := 1000000) (disch := omega) only [go_sem]; (try clear hB KB); (try clear hK K)))
      · rw [placedM, if_neg (by omega), if_pos (four_far hk4 (by simp only [Int.toNat_natCast] at hb; simp only [farM, decide_eq_true_eq]; omega))]; rfl
      · rw [thenQ_normal]
        refine wk_loop (k + 1) ?_ ⟨by omega, fun j hj => ?_⟩ (by omega)
        · refine le_of [(1, some 1), (2, some 2)] rfl (by decide) rfl ?_ ?_
          all_goals simp (maxSteps := 1000000) (disch := omega) only [go_sem]
          repeat' (refine And.intro ?_ ?_)
          all_goals first | rfl | omega | exact .inl rfl | trivial | skip
        · by_cases e : j = k
          · rw [e]; simp only [Int.toNat_natCast] at hb; simp only [farM, decide_eq_false_iff_not]; omega
          · exact hf j (by omega)
    · have hk5 : k = 4 := by omega
      subst hk5
      obtain ⟨n1, n2, n3, n4⟩ := four_near hf
      have f1 := far_le n1
      have f2 := far_le n2
      have f3 := far_le n3
      have f4 := far_le n4
      have e1 : four (s.images.getD i.toNat default).w (s.images.getD i.toNat default).h x y 0 = (s.images.getD i.toNat default).w := rfl
      have e2 : four (s.images.getD i.toNat default).w (s.images.getD i.toNat default).h x y 1 = (s.images.getD i.toNat default).h := rfl
      repeat' (first | refine cw_assoc ?_ | refine cw_skips ?_ | refine cw_labels ?_ | ((first | refine cw_step (fun K hK => ?_) | refine cw_last (fun K hK => ?_) | refine cw_stepD (by decide +kernel) (by decide +kernel) (fun K hK => ?_) | refine cw_lastD (by decide +kernel) (by decide +kernel) (fun K hK => ?_) | refine rgB_some ?_ | refine call_a (risect_spec ⟨x, y, x + (s.images.getD i.toNat default).w, y + (s.images.getD i.toNat default).h⟩ s.canvas) ?_ | refine gcall_a (fun hg => risect_spec ⟨x, y, x + (s.images.getD i.toNat default).w, y + (s.images.getD i.toNat default).h⟩ s.canvas) ?_); (try simp (maxSteps := 1000000) (disch := omega) only [go_sem]); (repeat' (refine And.intro ?_ ?_)); (all_goals first | (refine hK _ ?_; clear hK K) | exact auto_cl | skip)) | ((first | apply cw_ite | apply cw_iteN); (case hf => rfl); (case hc => simp (maxSteps := 1000000) (disch := omega) only [go_sem]; rfl); (all_goals first | (intro hb; (try simp only [decide_eq_true_eq, decide_eq_false_iff_not, beq_iff_eq, beq_eq_false_iff_ne, bne_iff_ne, bne_eq_false_iff_eq, ne_eq, Bool.not_eq_true, Bool.not_eq_false, Bool.not_true, Bool.not_false, Bool.not_eq_eq_eq_not, Int.not_lt, Int.not_le, gt_iff_lt, ge_iff_le, Bool.cond_eq_ite, Bool.if_false_right, Bool.if_true_left, Bool.and_eq_true, Bool.or_eq_true, Bool.and_eq_false_imp, Bool.or_eq_false_iff, Decidable.not_not, beq_true, beq_false, iteT, iteF, cond_true, cond_false] at hb)) | skip)) | exact atN_intro | ((first | apply cw_if | apply cw_cond); (case hc => simp (maxSteps := 1000000) (disch := omega) only [go_sem]; rfl); (all_goals (intro hb; (try simp only [decide_eq_true_eq, decide_eq_false_iff_not, beq_iff_eq, beq_eq_false_iff_ne, bne_iff_ne, bne_eq_false_iff_eq, ne_eq, Bool.not_eq_true, Bool.not_eq_false, Bool.not_true, Bool.not_false, Bool.not_eq_eq_eq_not, Int.not_lt, Int.not_le, gt_iff_lt, ge_iff_le, Bool.cond_eq_ite, Bool.if_false_right, Bool.if_true_left, Bool.and_eq_true, Bool.or_eq_true, Bool.and_eq_false_imp, Bool.or_eq_false_iff, Decidable.not_not, beq_true, beq_false, iteT, iteF, cond_true, cond_false] at hb); try (exfalso; omega)))) | (refine cw_blocks (fun KB hB => ?_)) | (refine cw_block ?_) | ((first | refine cw_exits ?_ | refine cw_exit ?_ | refine cw_skip ?_); simp (maxSteps := 1000000) (disch := omega) only [go_sem]) | (refine hB _ ?_; clear hB KB) | (refine exit_by (S := Sg) (by assumption) ?_) | ((first | refine cw_rets ?_ | refine cw_ret ?_); simp (maxSteps := 1000000) (disch := omega) only [go_sem]; (try clear hB KB); (try clear hK K)))
      rw [placedM, if_neg (by omega), if_neg (by rw [n1, n2, n3, n4]; simp)]; rfl
theorem rimageRect_spec (s : Script) (o : Op) (hs : ScriptLen s) : Pure Sg 131 [ag (scriptE s), ag (opE o)] (fun r => r = .b (ag (rectE (imageRectM s o)))) := by
  refine pure_of Tryd.func131 rfl (rs := [.cell 4 28]) rfl rfl mixed (by decide +kernel) (Nat.le_of_ble_eq_true rfl) (argsLt_mem (by simp (maxSteps := 1000000) (disch := omega) only [go_sem])) ?_
  repeat' (first | refine cw_assoc ?_ | refine cw_skips ?_ | refine cw_labels ?_ | ((first | refine cw_step (fun K hK => ?_) | refine cw_last (fun K hK => ?_) | refine cw_stepD (by decide +kernel) (by decide +kernel) (fun K hK => ?_) | refine cw_lastD (by decide +kernel) (by decide +kernel) (fun K hK => ?_) | refine rgB_some ?_ | refine call_a (rplaced_spec s o.image o.x o.y hs) ?_ | refine gcall_a (fun hg => rplaced_spec s o.image o.x o.y hs) ?_); (try simp (maxSteps := 1000000) (disch := omega) only [go_sem]); (repeat' (refine And.intro ?_ ?_)); (all_goals first | (refine hK _ ?_; clear hK K) | exact auto_cl | skip)) | ((first | apply cw_ite | apply cw_iteN); (case hf => rfl); (case hc => simp (maxSteps := 1000000) (disch := omega) only [go_sem]; rfl); (all_goals first | (intro hb; (try simp only [decide_eq_true_eq, decide_eq_false_iff_not, beq_iff_eq, beq_eq_false_iff_ne, bne_iff_ne, bne_eq_false_iff_eq, ne_eq, Bool.not_eq_true, Bool.not_eq_false, Bool.not_true, Bool.not_false, Bool.not_eq_eq_eq_not, Int.not_lt, Int.not_le, gt_iff_lt, ge_iff_le, Bool.cond_eq_ite, Bool.if_false_right, Bool.if_true_left, Bool.and_eq_true, Bool.or_eq_true, Bool.and_eq_false_imp, Bool.or_eq_false_iff, Decidable.not_not, beq_true, beq_false, iteT, iteF, cond_true, cond_false] at hb)) | skip)) | exact atN_intro | ((first | apply cw_if | apply cw_cond); (case hc => simp (maxSteps := 1000000) (disch := omega) only [go_sem]; rfl); (all_goals (intro hb; (try simp only [decide_eq_true_eq, decide_eq_false_iff_not, beq_iff_eq, beq_eq_false_iff_ne, bne_iff_ne, bne_eq_false_iff_eq, ne_eq, Bool.not_eq_true, Bool.not_eq_false, Bool.not_true, Bool.not_false, Bool.not_eq_eq_eq_not, Int.not_lt, Int.not_le, gt_iff_lt, ge_iff_le, Bool.cond_eq_ite, Bool.if_false_right, Bool.if_true_left, Bool.and_eq_true, Bool.or_eq_true, Bool.and_eq_false_imp, Bool.or_eq_false_iff, Decidable.not_not, beq_true, beq_false, iteT, iteF, cond_true, cond_false] at hb); try (exfalso; omega)))) | (refine cw_blocks (fun KB hB => ?_)) | (refine cw_block ?_) | ((first | refine cw_exits ?_ | refine cw_exit ?_ | refine cw_skip ?_); simp (maxSteps := 1000000) (disch := omega) only [go_sem]) | (refine hB _ ?_; clear hB KB) | (refine exit_by (S := Sg) (by assumption) ?_) | ((first | refine cw_rets ?_ | refine cw_ret ?_); simp (maxSteps := 1000000) (disch := omega) only [go_sem]; (try clear hB KB); (try clear hK K)))
  · rw [imageRectM, if_neg (by omega)]; rfl
  · rw [imageRectM, if_pos (by omega)]; rfl
theorem rmaskRect_spec (s : Script) (o : Op) (hs : ScriptLen s) (hm : 0 ≤ o.mask ∧ o.mask ≤ 1000000) : Pure Sg 133 [ag (scriptE s), ag (opE o)] (fun r => r = .b (ag (rectE (maskRectM s o)))) := by
  obtain ⟨m1, m2⟩ := hm
  refine pure_of Tryd.func133 rfl (rs := [.cell 4 28]) rfl rfl mixed (by decide +kernel) (Nat.le_of_ble_eq_true rfl) (argsLt_mem (by simp (maxSteps := 1000000) (disch := omega) only [go_sem])) ?_
  repeat' (first | refine cw_assoc ?_ | refine cw_skips ?_ | refine cw_labels ?_ | ((first | refine cw_step (fun K hK => ?_) | refine cw_last (fun K hK => ?_) | refine cw_stepD (by decide +kernel) (by decide +kernel) (fun K hK => ?_) | refine cw_lastD (by decide +kernel) (by decide +kernel) (fun K hK => ?_) | refine rgB_some ?_ | refine call_a (risect_spec s.canvas s.canvas) ?_ | refine gcall_a (fun hg => risect_spec s.canvas s.canvas) ?_ | refine call_a (rplaced_spec s (o.mask - 1) o.maskX o.maskY hs) ?_ | refine gcall_a (fun hg => rplaced_spec s (o.mask - 1) o.maskX o.maskY hs) ?_); (try simp (maxSteps := 1000000) (disch := omega) only [go_sem]); (repeat' (refine And.intro ?_ ?_)); (all_goals first | (refine hK _ ?_; clear hK K) | exact auto_cl | skip)) | ((first | apply cw_ite | apply cw_iteN); (case hf => rfl); (case hc => simp (maxSteps := 1000000) (disch := omega) only [go_sem]; rfl); (all_goals first | (intro hb; (try simp only [decide_eq_true_eq, decide_eq_false_iff_not, beq_iff_eq, beq_eq_false_iff_ne, bne_iff_ne, bne_eq_false_iff_eq, ne_eq, Bool.not_eq_true, Bool.not_eq_false, Bool.not_true, Bool.not_false, Bool.not_eq_eq_eq_not, Int.not_lt, Int.not_le, gt_iff_lt, ge_iff_le, Bool.cond_eq_ite, Bool.if_false_right, Bool.if_true_left, Bool.and_eq_true, Bool.or_eq_true, Bool.and_eq_false_imp, Bool.or_eq_false_iff, Decidable.not_not, beq_true, beq_false, iteT, iteF, cond_true, cond_false] at hb)) | skip)) | exact atN_intro | ((first | apply cw_if | apply cw_cond); (case hc => simp (maxSteps := 1000000) (disch := omega) only [go_sem]; rfl); (all_goals (intro hb; (try simp only [decide_eq_true_eq, decide_eq_false_iff_not, beq_iff_eq, beq_eq_false_iff_ne, bne_iff_ne, bne_eq_false_iff_eq, ne_eq, Bool.not_eq_true, Bool.not_eq_false, Bool.not_true, Bool.not_false, Bool.not_eq_eq_eq_not, Int.not_lt, Int.not_le, gt_iff_lt, ge_iff_le, Bool.cond_eq_ite, Bool.if_false_right, Bool.if_true_left, Bool.and_eq_true, Bool.or_eq_true, Bool.and_eq_false_imp, Bool.or_eq_false_iff, Decidable.not_not, beq_true, beq_false, iteT, iteF, cond_true, cond_false] at hb); try (exfalso; omega)))) | (refine cw_blocks (fun KB hB => ?_)) | (refine cw_block ?_) | ((first | refine cw_exits ?_ | refine cw_exit ?_ | refine cw_skip ?_); simp (maxSteps := 1000000) (disch := omega) only [go_sem]) | (refine hB _ ?_; clear hB KB) | (refine exit_by (S := Sg) (by assumption) ?_) | ((first | refine cw_rets ?_ | refine cw_ret ?_); simp (maxSteps := 1000000) (disch := omega) only [go_sem]; (try clear hB KB); (try clear hK K)))
  · rw [maskRectM, if_pos (by omega)]; rfl
  · rw [maskRectM, if_neg (by omega)]; rfl
end Go.Proofs.YtkjdljcbpbeehaaDoor

set_option linter.unusedSimpArgs false
set_option linter.unusedVariables false
set_option maxRecDepth 8000
set_option maxHeartbeats 8000000
namespace Go.Proofs.YtkjdljcbpbeehaaDoor
open Go Go.SL
open Go.RowKit (wrap64)

def pixC (k : Nat) (p : Pixel) : Int := match k with
  | 0 => p.c0
  | 1 => p.c1
  | 2 => p.c2
  | 3 => p.a
  | _ => p.f
def planeOf (w h : Int) (l : List Pixel) (k : Nat) : Plane := ⟨w, h, w, l.map (pixC k)⟩
def imageOf (w h : Int) (l : List Pixel) : Image := ⟨w, h, false, ⟨0, 0, 0, 0, 0⟩, planeOf w h l 0, planeOf w h l 1, planeOf w h l 2, planeOf w h l 3, planeOf w h l 4⟩
def noPlane : Plane := ⟨0, 0, 0, []⟩
def noImage : Image := ⟨0, 0, false, ⟨0, 0, 0, 0, 0⟩, noPlane, noPlane, noPlane, noPlane, noPlane⟩
def imageOk (w h : Int) (n : Nat) : Bool := fitsM w h && decide ((n : Int) = w * h)
def imageOfM (w h : Int) (l : List Pixel) : Image := if imageOk w h l.length = true then imageOf w h l else noImage
theorem fits_bound {w h : Int} (hf : fitsM w h = true) : 1 ≤ w ∧ 1 ≤ h ∧ 1 ≤ w * h ∧ w * h ≤ 16777216 ∧ w ≤ 16777216 ∧ h ≤ 16777216 := by
  simp only [fitsM, decide_eq_true_eq] at hf
  obtain ⟨h1, h2, h3, h4⟩ := hf
  have h5 : w * h ≤ w * (16777216 / w) := Int.mul_le_mul_of_nonneg_left h4 (by omega)
  have h6 : w * (16777216 / w) ≤ 16777216 := Int.mul_ediv_self_le (by omega)
  have h7 : 1 * 1 ≤ w * h := Int.mul_le_mul h1 h2 (by omega) (by omega)
  have h8 : 16777216 / w ≤ 16777216 := Int.ediv_le_self _ (by omega)
  omega

/-- The planes, i pixels done, and k colours of the next. -/
def planeF (l : List Pixel) (q i k : Nat) : Nat → Nat → PV := fun a _ => PU (if a < i ∨ a = i ∧ q < k then pixC q (l.getD a default) else 0)
def plCells (w h : Int) (x q n : Nat) : List CV := if q < x then [.p (PI w), .p (PI h), .p (PI w), .own (2 + q) n] else [.p (PI 0), .p (PI 0), .p (PI 0), .p Nil]
def imCells (w h : Int) (n x : Nat) : List CV := [.p (PI w), .p (PI h), .p (PB false), .p (PU 0), .p (PU 0), .p (PU 0), .p (PU 0), .p (PU 0)] ++ plCells w h x 0 n ++ plCells w h x 1 n ++ plCells w h x 2 n ++ plCells w h x 3 n ++ plCells w h x 4 n
def imBoxes (w h : Int) (n x : Nat) (l : List Pixel) : List (Nat × Bx) := [(0, .fix ((imageE noImage).map CV.p)), (1, .fix (imCells w h n x))] ++ (if 0 < x then [(2, .arr 36 1 n (planeF l 0 0 0))] else []) ++ (if 1 < x then [(3, .arr 36 1 n (planeF l 1 0 0))] else []) ++ (if 2 < x then [(4, .arr 36 1 n (planeF l 2 0 0))] else []) ++ (if 3 < x then [(5, .arr 36 1 n (planeF l 3 0 0))] else []) ++ (if 4 < x then [(6, .arr 36 1 n (planeF l 4 0 0))] else [])

theorem planeF_zero {l : List Pixel} {q a j : Nat} : planeF l q 0 0 a j = PU 0 := by
  rw [planeF, if_neg (by omega)]
theorem planeF_same {l : List Pixel} {q i k : Nat} (h : q ≠ k) : planeF l q i k = planeF l q i (k + 1) := by
  funext a j
  unfold planeF
  by_cases c : a < i ∨ a = i ∧ q < k
  · rw [if_pos c, if_pos (by omega)]
  · rw [if_neg c, if_neg (by omega)]
theorem planeF_set {l : List Pixel} {q i a j : Nat} : (if a = i then PU (pixC q (l.getD i default)) else planeF l q i q a j) = planeF l q i (q + 1) a j := by
  unfold planeF
  by_cases c : a = i
  · rw [if_pos c, if_pos (by omega), c]
  · rw [if_neg c]
    by_cases d : a < i
    · rw [if_pos (by omega), if_pos (by omega)]
    · rw [if_neg (by omega), if_neg (by omega)]
theorem planeF_next {l : List Pixel} {q i : Nat} (h : q < 3) : planeF l q i 3 = planeF l q (i + 1) 0 := by
  funext a j
  unfold planeF
  by_cases c : a < i ∨ a = i ∧ q < 3
  · rw [if_pos c, if_pos (by omega)]
  · rw [if_neg c, if_neg (by omega)]
theorem planeF_last {l : List Pixel} {q i a j : Nat} (h : 3 ≤ q) : (if a = i then PU (pixC q (l.getD i default)) else planeF l q i 3 a j) = planeF l q (i + 1) 0 a j := by
  unfold planeF
  by_cases c : a = i
  · rw [if_pos c, if_pos (by omega), c]
  · rw [if_neg c]
    by_cases d : a < i
    · rw [if_pos (by omega), if_pos (by omega)]
    · rw [if_neg (by omega), if_neg (by omega)]

theorem plane_le {w h : Int} {l : List Pixel} {q : Nat} : PV.le (.lst 1 l.length (planeF l q l.length 0)) (.lst 1 (planeOf w h l q).s.length (fnOf u16E (planeOf w h l q).s)) := by
  have e : (planeOf w h l q).s.length = l.length := by simp [planeOf]
  rw [e]
  refine lst_le fun a ha j hj => ?_
  have : j = 0 := by omega
  subst this
  have e2 : (planeOf w h l q).s.getD a default = pixC q (l.getD a default) := by
    simp only [planeOf, List.getD_eq_getElem?_getD, List.getElem?_map, List.getElem?_eq_getElem ha, Option.map_some, Option.getD_some]
  rw [planeF, if_pos (by omega), fnOf, e2]
  rfl

theorem imageOf_spec (w h : Int) (l : List Pixel) (hl : l.length ≤ 4611686018427387904) :
    Pure Sg 52 [I w, I h, .c (.p (pixL l))] (fun r => r = .tup [ag (imageE (imageOfM w h l)), B (imageOk w h l.length)]) := by
  refine pure_le ?_
  refine pure_of Tryd.func52 rfl (rs := [.cell 6 45, .tmp 7]) rfl rfl mixed (by decide +kernel) (Nat.le_of_ble_eq_true rfl) (argsLt_mem (by simp (maxSteps := 1000000) (disch := omega) only [go_sem])) ?_
  repeat' (first | refine cw_assoc ?_ | refine cw_skips ?_ | refine cw_labels ?_ | ((first | refine cw_step (fun K hK => ?_) | refine cw_last (fun K hK => ?_) | refine cw_stepD (by decide +kernel) (by decide +kernel) (fun K hK => ?_) | refine cw_lastD (by decide +kernel) (by decide +kernel) (fun K hK => ?_) | refine rgB_some ?_ | refine call_a (r13fits_spec _ _) ?_ | refine gcall_a (fun hg => r13fits_spec _ _) ?_); (try simp (maxSteps := 1000000) (disch := omega) only [go_sem]); (repeat' (refine And.intro ?_ ?_)); (all_goals first | (refine hK _ ?_; clear hK K) | exact auto_cl | skip)) | ((first | apply cw_ite | apply cw_iteN); (case hf => rfl); (case hc => simp (maxSteps := 1000000) (disch := omega) only [go_sem]; rfl); (all_goals first | (intro hb; (try simp only [decide_eq_true_eq, decide_eq_false_iff_not, beq_iff_eq, beq_eq_false_iff_ne, bne_iff_ne, bne_eq_false_iff_eq, ne_eq, Bool.not_eq_true, Bool.not_eq_false, Bool.not_true, Bool.not_false, Bool.not_eq_eq_eq_not, Int.not_lt, Int.not_le, gt_iff_lt, ge_iff_le, Bool.cond_eq_ite, Bool.if_false_right, Bool.if_true_left, Bool.and_eq_true, Bool.or_eq_true, Bool.and_eq_false_imp, Bool.or_eq_false_iff, Decidable.not_not, beq_true, beq_false, iteT, iteF, cond_true, cond_false] at hb)) | skip)) | exact atN_intro | ((first | apply cw_if | apply cw_cond); (case hc => simp (maxSteps := 1000000) (disch := omega) only [go_sem]; rfl); (all_goals (intro hb; (try simp only [decide_eq_true_eq, decide_eq_false_iff_not, beq_iff_eq, beq_eq_false_iff_ne, bne_iff_ne, bne_eq_false_iff_eq, ne_eq, Bool.not_eq_true, Bool.not_eq_false, Bool.not_true, Bool.not_false, Bool.not_eq_eq_eq_not, Int.not_lt, Int.not_le, gt_iff_lt, ge_iff_le, Bool.cond_eq_ite, Bool.if_false_right, Bool.if_true_left, Bool.and_eq_true, Bool.or_eq_true, Bool.and_eq_false_imp, Bool.or_eq_false_iff, Decidable.not_not, beq_true, beq_false, iteT, iteF, cond_true, cond_false] at hb); try (exfalso; omega)))) | (refine cw_blocks (fun KB hB => ?_)) | (refine cw_block ?_) | ((first | refine cw_exits ?_ | refine cw_exit ?_ | refine cw_skip ?_); simp (maxSteps := 1000000) (disch := omega) only [go_sem]) | (refine hB _ ?_; clear hB KB) | (refine exit_by (S := Sg) (by assumption) ?_) | ((first | refine cw_rets ?_ | refine cw_ret ?_); simp (maxSteps := 1000000) (disch := omega) only [go_sem]; (try clear hB KB); (try clear hK K)))
  · have hok : imageOk w h l.length = false := by
      cases hf : fitsM w h with
      | false => rw [imageOk, hf]; rfl
      | true =>
        have hb2 := fits_bound hf
        rw [hf, w64' (n := w * h) (by omega) (by omega)] at hb
        rw [imageOk, hf, decide_eq_false (by simpa using hb)]; rfl
    rw [hok, imageOfM, if_neg (by rw [hok]; simp)]
    refine sle_tup ⟨ble_agg ?_, ble_rfl trivial, trivial⟩
    simp only [List.map_cons, List.map_nil, cleL_cons, cleL_nil]
    repeat' (refine And.intro ?_ ?_)
    all_goals first | exact .inl rfl | exact .inl trivial | exact .inr nil_le | trivial | skip
  refine cw_loop (X := Nat) (fun x => mkSt [(0, .b (I w)), (1, .b (I h)), (2, .b (.c (.p (pixL l)))), (6, .b (.c (.ptr 0 0))), (8, .b (.c (.ptr 1 0))), (9, .b (I x))] (imBoxes w h l.length x l) (2 + x)) (fun x => x ≤ 5) (fun x => 5 - x) 0 ?_ ?_ ?_
  · omega
  · simp only [imBoxes, imCells, plCells]
    refine le_of [(1, some 1)] rfl (by decide) rfl ?_ ?_
    all_goals simp (maxSteps := 1000000) (disch := omega) only [go_sem]
    repeat' (refine And.intro ?_ ?_)
    all_goals first | rfl | omega | exact .inl rfl | trivial | skip
    all_goals exact nil_le
  · intro x hx
    have hw : IntKind.i64.wrap (w * h) = w * h := by
      have := fits_bound hb.1
      exact w64' (by omega) (by omega)
    have hb2 := fits_bound hb.1
    rw [hw] at hb
    have hx' : x = 0 ∨ x = 1 ∨ x = 2 ∨ x = 3 ∨ x = 4 ∨ x = 5 := by omega
    rcases hx' with rfl | rfl | rfl | rfl | rfl | rfl
    · simp only [imBoxes, imCells, plCells]
      repeat' (first | refine cw_assoc ?_ | refine cw_skips ?_ | refine cw_labels ?_ | ((first | refine cw_step (fun K hK => ?_) | refine cw_last (fun K hK => ?_) | refine cw_stepD (by decide +kernel) (by decide +kernel) (fun K hK => ?_) | refine cw_lastD (by decide +kernel) (by decide +kernel) (fun K hK => ?_) | refine rgB_some ?_); (try simp (maxSteps := 1000000) (disch := omega) only [go_sem]); (repeat' (refine And.intro ?_ ?_)); (all_goals first | (refine hK _ ?_; clear hK K) | exact auto_cl | skip)) | ((first | apply cw_ite | apply cw_iteN); (case hf => rfl); (case hc => simp (maxSteps := 1000000) (disch := omega) only [go_sem]; rfl); (all_goals first | (intro hb; (try simp only [decide_eq_true_eq, decide_eq_false_iff_not, beq_iff_eq, beq_eq_false_iff_ne, bne_iff_ne, bne_eq_false_iff_eq, ne_eq, Bool.not_eq_true, Bool.not_eq_false, Bool.not_true, Bool.not_false, Bool.not_eq_eq_eq_not, Int.not_lt, Int.not_le, gt_iff_lt, ge_iff_le, Bool.cond_eq_ite, Bool.if_false_right, Bool.if_true_left, Bool.and_eq_true, Bool.or_eq_true, Bool.and_eq_false_imp, Bool.or_eq_false_iff, Decidable.not_not, beq_true, beq_false, iteT, iteF, cond_true, cond_false] at hb)) | skip)) | exact atN_intro | ((first | apply cw_if | apply cw_cond); (case hc => simp (maxSteps := 1000000) (disch := omega) only [go_sem]; rfl); (all_goals (intro hb; (try simp only [decide_eq_true_eq, decide_eq_false_iff_not, beq_iff_eq, beq_eq_false_iff_ne, bne_iff_ne, bne_eq_false_iff_eq, ne_eq, Bool.not_eq_true, Bool.not_eq_false, Bool.not_true, Bool.not_false, Bool.not_eq_eq_eq_not, Int.not_lt, Int.not_le, gt_iff_lt, ge_iff_le, Bool.cond_eq_ite, Bool.if_false_right, Bool.if_true_left, Bool.and_eq_true, Bool.or_eq_true, Bool.and_eq_false_imp, Bool.or_eq_false_iff, Decidable.not_not, beq_true, beq_false, iteT, iteF, cond_true, cond_false] at hb); try (exfalso; omega)))) | (refine cw_blocks (fun KB hB => ?_)) | (refine cw_block ?_) | ((first | refine cw_exits ?_ | refine cw_exit ?_ | refine cw_skip ?_); simp (maxSteps := 1000000) (disch := omega) only [go_sem]) | (refine hB _ ?_; clear hB KB) | (refine exit_by (S := Sg) (by assumption) ?_) | ((first | refine cw_rets ?_ | refine cw_ret ?_); simp (maxSteps := 1000000) (disch := omega) only [go_sem]; (try clear hB KB); (try clear hK K)))
      rw [thenQ_normal]
      refine wk_loop 1 ?_ (by omega) (by omega)
      refine le_of [(1, some 1), (2, some 2)] rfl (by decide) rfl ?_ ?_
      all_goals simp (maxSteps := 1000000) (disch := omega) only [go_sem]
      repeat' (refine And.intro ?_ ?_)
      all_goals first | rfl | omega | exact .inl rfl | trivial | skip
      refine .inr fun a ha j hj => ?_
      have : j = 0 := by omega
      subst this
      rw [planeF_zero]; exact PV.le_refl _
    · simp only [imBoxes, imCells, plCells]
      repeat' (first | refine cw_assoc ?_ | refine cw_skips ?_ | refine cw_labels ?_ | ((first | refine cw_step (fun K hK => ?_) | refine cw_last (fun K hK => ?_) | refine cw_stepD (by decide +kernel) (by decide +kernel) (fun K hK => ?_) | refine cw_lastD (by decide +kernel) (by decide +kernel) (fun K hK => ?_) | refine rgB_some ?_); (try simp (maxSteps := 1000000) (disch := omega) only [go_sem]); (repeat' (refine And.intro ?_ ?_)); (all_goals first | (refine hK _ ?_; clear hK K) | exact auto_cl | skip)) | ((first | apply cw_ite | apply cw_iteN); (case hf => rfl); (case hc => simp (maxSteps := 1000000) (disch := omega) only [go_sem]; rfl); (all_goals first | (intro hb; (try simp only [decide_eq_true_eq, decide_eq_false_iff_not, beq_iff_eq, beq_eq_false_iff_ne, bne_iff_ne, bne_eq_false_iff_eq, ne_eq, Bool.not_eq_true, Bool.not_eq_false, Bool.not_true, Bool.not_false, Bool.not_eq_eq_eq_not, Int.not_lt, Int.not_le, gt_iff_lt, ge_iff_le, Bool.cond_eq_ite, Bool.if_false_right, Bool.if_true_left, Bool.and_eq_true, Bool.or_eq_true, Bool.and_eq_false_imp, Bool.or_eq_false_iff, Decidable.not_not, beq_true, beq_false, iteT, iteF, cond_true, cond_false] at hb)) | skip)) | exact atN_intro | ((first | apply cw_if | apply cw_cond); (case hc => simp (maxSteps := 1000000) (disch := omega) only [go_sem]; rfl); (all_goals (intro hb; (try simp only [decide_eq_true_eq, decide_eq_false_iff_not, beq_iff_eq, beq_eq_false_iff_ne, bne_iff_ne, bne_eq_false_iff_eq, ne_eq, Bool.not_eq_true, Bool.not_eq_false, Bool.not_true, Bool.not_false, Bool.not_eq_eq_eq_not, Int.not_lt, Int.not_le, gt_iff_lt, ge_iff_le, Bool.cond_eq_ite, Bool.if_false_right, Bool.if_true_left, Bool.and_eq_true, Bool.or_eq_true, Bool.and_eq_false_imp, Bool.or_eq_false_iff, Decidable.not_not, beq_true, beq_false, iteT, iteF, cond_true, cond_false] at hb); try (exfalso; omega)))) | (refine cw_blocks (fun KB hB => ?_)) | (refine cw_block ?_) | ((first | refine cw_exits ?_ | refine cw_exit ?_ | refine cw_skip ?_); simp (maxSteps := 1000000) (disch := omega) only [go_sem]) | (refine hB _ ?_; clear hB KB) | (refine exit_by (S := Sg) (by assumption) ?_) | ((first | refine cw_rets ?_ | refine cw_ret ?_); simp (maxSteps := 1000000) (disch := omega) only [go_sem]; (try clear hB KB); (try clear hK K)))
      rw [thenQ_normal]
      refine wk_loop 2 ?_ (by omega) (by omega)
      refine le_of [(1, some 1), (2, some 2), (3, some 3)] rfl (by decide) rfl ?_ ?_
      all_goals simp (maxSteps := 1000000) (disch := omega) only [go_sem]
      repeat' (refine And.intro ?_ ?_)
      all_goals first | rfl | omega | exact .inl rfl | trivial | skip
      refine .inr fun a ha j hj => ?_
      have : j = 0 := by omega
      subst this
      rw [planeF_zero]; exact PV.le_refl _
    · simp only [imBoxes, imCells, plCells]
      repeat' (first | refine cw_assoc ?_ | refine cw_skips ?_ | refine cw_labels ?_ | ((first | refine cw_step (fun K hK => ?_) | refine cw_last (fun K hK => ?_) | refine cw_stepD (by decide +kernel) (by decide +kernel) (fun K hK => ?_) | refine cw_lastD (by decide +kernel) (by decide +kernel) (fun K hK => ?_) | refine rgB_some ?_); (try simp (maxSteps := 1000000) (disch := omega) only [go_sem]); (repeat' (refine And.intro ?_ ?_)); (all_goals first | (refine hK _ ?_; clear hK K) | exact auto_cl | skip)) | ((first | apply cw_ite | apply cw_iteN); (case hf => rfl); (case hc => simp (maxSteps := 1000000) (disch := omega) only [go_sem]; rfl); (all_goals first | (intro hb; (try simp only [decide_eq_true_eq, decide_eq_false_iff_not, beq_iff_eq, beq_eq_false_iff_ne, bne_iff_ne, bne_eq_false_iff_eq, ne_eq, Bool.not_eq_true, Bool.not_eq_false, Bool.not_true, Bool.not_false, Bool.not_eq_eq_eq_not, Int.not_lt, Int.not_le, gt_iff_lt, ge_iff_le, Bool.cond_eq_ite, Bool.if_false_right, Bool.if_true_left, Bool.and_eq_true, Bool.or_eq_true, Bool.and_eq_false_imp, Bool.or_eq_false_iff, Decidable.not_not, beq_true, beq_false, iteT, iteF, cond_true, cond_false] at hb)) | skip)) | exact atN_intro | ((first | apply cw_if | apply cw_cond); (case hc => simp (maxSteps := 1000000) (disch := omega) only [go_sem]; rfl); (all_goals (intro hb; (try simp only [decide_eq_true_eq, decide_eq_false_iff_not, beq_iff_eq, beq_eq_false_iff_ne, bne_iff_ne, bne_eq_false_iff_eq, ne_eq, Bool.not_eq_true, Bool.not_eq_false, Bool.not_true, Bool.not_false, Bool.not_eq_eq_eq_not, Int.not_lt, Int.not_le, gt_iff_lt, ge_iff_le, Bool.cond_eq_ite, Bool.if_false_right, Bool.if_true_left, Bool.and_eq_true, Bool.or_eq_true, Bool.and_eq_false_imp, Bool.or_eq_false_iff, Decidable.not_not, beq_true, beq_false, iteT, iteF, cond_true, cond_false] at hb); try (exfalso; omega)))) | (refine cw_blocks (fun KB hB => ?_)) | (refine cw_block ?_) | ((first | refine cw_exits ?_ | refine cw_exit ?_ | refine cw_skip ?_); simp (maxSteps := 1000000) (disch := omega) only [go_sem]) | (refine hB _ ?_; clear hB KB) | (refine exit_by (S := Sg) (by assumption) ?_) | ((first | refine cw_rets ?_ | refine cw_ret ?_); simp (maxSteps := 1000000) (disch := omega) only [go_sem]; (try clear hB KB); (try clear hK K)))
      rw [thenQ_normal]
      refine wk_loop 3 ?_ (by omega) (by omega)
      refine le_of [(1, some 1), (2, some 2), (3, some 3), (4, some 4)] rfl (by decide) rfl ?_ ?_
      all_goals simp (maxSteps := 1000000) (disch := omega) only [go_sem]
      repeat' (refine And.intro ?_ ?_)
      all_goals first | rfl | omega | exact .inl rfl | trivial | skip
      refine .inr fun a ha j hj => ?_
      have : j = 0 := by omega
      subst this
      rw [planeF_zero]; exact PV.le_refl _
    · simp only [imBoxes, imCells, plCells]
      repeat' (first | refine cw_assoc ?_ | refine cw_skips ?_ | refine cw_labels ?_ | ((first | refine cw_step (fun K hK => ?_) | refine cw_last (fun K hK => ?_) | refine cw_stepD (by decide +kernel) (by decide +kernel) (fun K hK => ?_) | refine cw_lastD (by decide +kernel) (by decide +kernel) (fun K hK => ?_) | refine rgB_some ?_); (try simp (maxSteps := 1000000) (disch := omega) only [go_sem]); (repeat' (refine And.intro ?_ ?_)); (all_goals first | (refine hK _ ?_; clear hK K) | exact auto_cl | skip)) | ((first | apply cw_ite | apply cw_iteN); (case hf => rfl); (case hc => simp (maxSteps := 1000000) (disch := omega) only [go_sem]; rfl); (all_goals first | (intro hb; (try simp only [decide_eq_true_eq, decide_eq_false_iff_not, beq_iff_eq, beq_eq_false_iff_ne, bne_iff_ne, bne_eq_false_iff_eq, ne_eq, Bool.not_eq_true, Bool.not_eq_false, Bool.not_true, Bool.not_false, Bool.not_eq_eq_eq_not, Int.not_lt, Int.not_le, gt_iff_lt, ge_iff_le, Bool.cond_eq_ite, Bool.if_false_right, Bool.if_true_left, Bool.and_eq_true, Bool.or_eq_true, Bool.and_eq_false_imp, Bool.or_eq_false_iff, Decidable.not_not, beq_true, beq_false, iteT, iteF, cond_true, cond_false] at hb)) | skip)) | exact atN_intro | ((first | apply cw_if | apply cw_cond); (case hc => simp (maxSteps := 1000000) (disch := omega) only [go_sem]; rfl); (all_goals (intro hb; (try simp only [decide_eq_true_eq, decide_eq_false_iff_not, beq_iff_eq, beq_eq_false_iff_ne, bne_iff_ne, bne_eq_false_iff_eq, ne_eq, Bool.not_eq_true, Bool.not_eq_false, Bool.not_true, Bool.not_false, Bool.not_eq_eq_eq_not, Int.not_lt, Int.not_le, gt_iff_lt, ge_iff_le, Bool.cond_eq_ite, Bool.if_false_right, Bool.if_true_left, Bool.and_eq_true, Bool.or_eq_true, Bool.and_eq_false_imp, Bool.or_eq_false_iff, Decidable.not_not, beq_true, beq_false, iteT, iteF, cond_true, cond_false] at hb); try (exfalso; omega)))) | (refine cw_blocks (fun KB hB => ?_)) | (refine cw_block ?_) | ((first | refine cw_exits ?_ | refine cw_exit ?_ | refine cw_skip ?_); simp (maxSteps := 1000000) (disch := omega) only [go_sem]) | (refine hB _ ?_; clear hB KB) | (refine exit_by (S := Sg) (by assumption) ?_) | ((first | refine cw_rets ?_ | refine cw_ret ?_); simp (maxSteps := 1000000) (disch := omega) only [go_sem]; (try clear hB KB); (try clear hK K)))
      rw [thenQ_normal]
      refine wk_loop 4 ?_ (by omega) (by omega)
      refine le_of [(1, some 1), (2, some 2), (3, some 3), (4, some 4), (5, some 5)] rfl (by decide) rfl ?_ ?_
      all_goals simp (maxSteps := 1000000) (disch := omega) only [go_sem]
      repeat' (refine And.intro ?_ ?_)
      all_goals first | rfl | omega | exact .inl rfl | trivial | skip
      refine .inr fun a ha j hj => ?_
      have : j = 0 := by omega
      subst this
      rw [planeF_zero]; exact PV.le_refl _
    · simp only [imBoxes, imCells, plCells]
      repeat' (first | refine cw_assoc ?_ | refine cw_skips ?_ | refine cw_labels ?_ | ((first | refine cw_step (fun K hK => ?_) | refine cw_last (fun K hK => ?_) | refine cw_stepD (by decide +kernel) (by decide +kernel) (fun K hK => ?_) | refine cw_lastD (by decide +kernel) (by decide +kernel) (fun K hK => ?_) | refine rgB_some ?_); (try simp (maxSteps := 1000000) (disch := omega) only [go_sem]); (repeat' (refine And.intro ?_ ?_)); (all_goals first | (refine hK _ ?_; clear hK K) | exact auto_cl | skip)) | ((first | apply cw_ite | apply cw_iteN); (case hf => rfl); (case hc => simp (maxSteps := 1000000) (disch := omega) only [go_sem]; rfl); (all_goals first | (intro hb; (try simp only [decide_eq_true_eq, decide_eq_false_iff_not, beq_iff_eq, beq_eq_false_iff_ne, bne_iff_ne, bne_eq_false_iff_eq, ne_eq, Bool.not_eq_true, Bool.not_eq_false, Bool.not_true, Bool.not_false, Bool.not_eq_eq_eq_not, Int.not_lt, Int.not_le, gt_iff_lt, ge_iff_le, Bool.cond_eq_ite, Bool.if_false_right, Bool.if_true_left, Bool.and_eq_true, Bool.or_eq_true, Bool.and_eq_false_imp, Bool.or_eq_false_iff, Decidable.not_not, beq_true, beq_false, iteT, iteF, cond_true, cond_false] at hb)) | skip)) | exact atN_intro | ((first | apply cw_if | apply cw_cond); (case hc => simp (maxSteps := 1000000) (disch := omega) only [go_sem]; rfl); (all_goals (intro hb; (try simp only [decide_eq_true_eq, decide_eq_false_iff_not, beq_iff_eq, beq_eq_false_iff_ne, bne_iff_ne, bne_eq_false_iff_eq, ne_eq, Bool.not_eq_true, Bool.not_eq_false, Bool.not_true, Bool.not_false, Bool.not_eq_eq_eq_not, Int.not_lt, Int.not_le, gt_iff_lt, ge_iff_le, Bool.cond_eq_ite, Bool.if_false_right, Bool.if_true_left, Bool.and_eq_true, Bool.or_eq_true, Bool.and_eq_false_imp, Bool.or_eq_false_iff, Decidable.not_not, beq_true, beq_false, iteT, iteF, cond_true, cond_false] at hb); try (exfalso; omega)))) | (refine cw_blocks (fun KB hB => ?_)) | (refine cw_block ?_) | ((first | refine cw_exits ?_ | refine cw_exit ?_ | refine cw_skip ?_); simp (maxSteps := 1000000) (disch := omega) only [go_sem]) | (refine hB _ ?_; clear hB KB) | (refine exit_by (S := Sg) (by assumption) ?_) | ((first | refine cw_rets ?_ | refine cw_ret ?_); simp (maxSteps := 1000000) (disch := omega) only [go_sem]; (try clear hB KB); (try clear hK K)))
      rw [thenQ_normal]
      refine wk_loop 5 ?_ (by omega) (by omega)
      refine le_of [(1, some 1), (2, some 2), (3, some 3), (4, some 4), (5, some 5), (6, some 6)] rfl (by decide) rfl ?_ ?_
      all_goals simp (maxSteps := 1000000) (disch := omega) only [go_sem]
      repeat' (refine And.intro ?_ ?_)
      all_goals first | rfl | omega | exact .inl rfl | trivial | skip
      refine .inr fun a ha j hj => ?_
      have : j = 0 := by omega
      subst this
      rw [planeF_zero]; exact PV.le_refl _
    simp only [imBoxes, imCells, plCells]
    repeat' (first | refine cw_assoc ?_ | refine cw_skips ?_ | refine cw_labels ?_ | ((first | refine cw_step (fun K hK => ?_) | refine cw_last (fun K hK => ?_) | refine cw_stepD (by decide +kernel) (by decide +kernel) (fun K hK => ?_) | refine cw_lastD (by decide +kernel) (by decide +kernel) (fun K hK => ?_) | refine rgB_some ?_); (try simp (maxSteps := 1000000) (disch := omega) only [go_sem]); (repeat' (refine And.intro ?_ ?_)); (all_goals first | (refine hK _ ?_; clear hK K) | exact auto_cl | skip)) | ((first | apply cw_ite | apply cw_iteN); (case hf => rfl); (case hc => simp (maxSteps := 1000000) (disch := omega) only [go_sem]; rfl); (all_goals first | (intro hb; (try simp only [decide_eq_true_eq, decide_eq_false_iff_not, beq_iff_eq, beq_eq_false_iff_ne, bne_iff_ne, bne_eq_false_iff_eq, ne_eq, Bool.not_eq_true, Bool.not_eq_false, Bool.not_true, Bool.not_false, Bool.not_eq_eq_eq_not, Int.not_lt, Int.not_le, gt_iff_lt, ge_iff_le, Bool.cond_eq_ite, Bool.if_false_right, Bool.if_true_left, Bool.and_eq_true, Bool.or_eq_true, Bool.and_eq_false_imp, Bool.or_eq_false_iff, Decidable.not_not, beq_true, beq_false, iteT, iteF, cond_true, cond_false] at hb)) | skip)) | exact atN_intro | ((first | apply cw_if | apply cw_cond); (case hc => simp (maxSteps := 1000000) (disch := omega) only [go_sem]; rfl); (all_goals (intro hb; (try simp only [decide_eq_true_eq, decide_eq_false_iff_not, beq_iff_eq, beq_eq_false_iff_ne, bne_iff_ne, bne_eq_false_iff_eq, ne_eq, Bool.not_eq_true, Bool.not_eq_false, Bool.not_true, Bool.not_false, Bool.not_eq_eq_eq_not, Int.not_lt, Int.not_le, gt_iff_lt, ge_iff_le, Bool.cond_eq_ite, Bool.if_false_right, Bool.if_true_left, Bool.and_eq_true, Bool.or_eq_true, Bool.and_eq_false_imp, Bool.or_eq_false_iff, Decidable.not_not, beq_true, beq_false, iteT, iteF, cond_true, cond_false] at hb); try (exfalso; omega)))) | (refine cw_blocks (fun KB hB => ?_)) | (refine cw_block ?_) | ((first | refine cw_exits ?_ | refine cw_exit ?_ | refine cw_skip ?_); simp (maxSteps := 1000000) (disch := omega) only [go_sem]) | (refine hB _ ?_; clear hB KB) | (refine exit_by (S := Sg) (by assumption) ?_) | ((first | refine cw_rets ?_ | refine cw_ret ?_); simp (maxSteps := 1000000) (disch := omega) only [go_sem]; (try clear hB KB); (try clear hK K)))
    refine cw_loop (X := Nat) (fun i => mkSt [(0, .b (I w)), (1, .b (I h)), (2, .b (.c (.p (pixL l)))), (6, .b (.c (.ptr 0 0))), (8, .b (.c (.ptr 1 0))), (10, .b (I i))] [(0, .fix ((imageE noImage).map CV.p)), (1, .fix ([.p (PI w), .p (PI h), .p (PB false), .p (PU 0), .p (PU 0), .p (PU 0), .p (PU 0), .p (PU 0), .p (PI w), .p (PI h), .p (PI w), .own 2 l.length, .p (PI w), .p (PI h), .p (PI w), .own 3 l.length, .p (PI w), .p (PI h), .p (PI w), .own 4 l.length, .p (PI w), .p (PI h), .p (PI w), .own 5 l.length, .p (PI w), .p (PI h), .p (PI w), .own 6 l.length])), (2, .arr 36 1 l.length (planeF l 0 i 0)), (3, .arr 36 1 l.length (planeF l 1 i 0)), (4, .arr 36 1 l.length (planeF l 2 i 0)), (5, .arr 36 1 l.length (planeF l 3 i 0)), (6, .arr 36 1 l.length (planeF l 4 i 0))] 7) (fun i => i ≤ l.length) (fun i => l.length - i) 0 ?_ ?_ ?_
    · omega
    · refine le_of [(1, some 1), (2, some 2), (3, some 3), (4, some 4), (5, some 5), (6, some 6)] rfl (by decide) rfl ?_ ?_
      all_goals simp (maxSteps := 1000000) (disch := omega) only [go_sem]
      repeat' (refine And.intro ?_ ?_)
      all_goals first | rfl | omega | exact .inl rfl | trivial | skip
    · intro i hi
      repeat' (first | refine cw_assoc ?_ | refine cw_skips ?_ | refine cw_labels ?_ | ((first | refine cw_step (fun K hK => ?_) | refine cw_last (fun K hK => ?_) | refine cw_stepD (by decide +kernel) (by decide +kernel) (fun K hK => ?_) | refine cw_lastD (by decide +kernel) (by decide +kernel) (fun K hK => ?_) | refine rgB_some ?_); (try simp (maxSteps := 1000000) (disch := omega) only [go_sem]); (repeat' (refine And.intro ?_ ?_)); (all_goals first | (refine hK _ ?_; clear hK K) | exact auto_cl | skip)) | ((first | apply cw_ite | apply cw_iteN); (case hf => rfl); (case hc => simp (maxSteps := 1000000) (disch := omega) only [go_sem]; rfl); (all_goals first | (intro hb; (try simp only [decide_eq_true_eq, decide_eq_false_iff_not, beq_iff_eq, beq_eq_false_iff_ne, bne_iff_ne, bne_eq_false_iff_eq, ne_eq, Bool.not_eq_true, Bool.not_eq_false, Bool.not_true, Bool.not_false, Bool.not_eq_eq_eq_not, Int.not_lt, Int.not_le, gt_iff_lt, ge_iff_le, Bool.cond_eq_ite, Bool.if_false_right, Bool.if_true_left, Bool.and_eq_true, Bool.or_eq_true, Bool.and_eq_false_imp, Bool.or_eq_false_iff, Decidable.not_not, beq_true, beq_false, iteT, iteF, cond_true, cond_false] at hb)) | skip)) | exact atN_intro | ((first | apply cw_if | apply cw_cond); (case hc => simp (maxSteps := 1000000) (disch := omega) only [go_sem]; rfl); (all_goals (intro hb; (try simp only [decide_eq_true_eq, decide_eq_false_iff_not, beq_iff_eq, beq_eq_false_iff_ne, bne_iff_ne, bne_eq_false_iff_eq, ne_eq, Bool.not_eq_true, Bool.not_eq_false, Bool.not_true, Bool.not_false, Bool.not_eq_eq_eq_not, Int.not_lt, Int.not_le, gt_iff_lt, ge_iff_le, Bool.cond_eq_ite, Bool.if_false_right, Bool.if_true_left, Bool.and_eq_true, Bool.or_eq_true, Bool.and_eq_false_imp, Bool.or_eq_false_iff, Decidable.not_not, beq_true, beq_false, iteT, iteF, cond_true, cond_false] at hb); try (exfalso; omega)))) | (refine cw_blocks (fun KB hB => ?_)) | (refine cw_block ?_) | ((first | refine cw_exits ?_ | refine cw_exit ?_ | refine cw_skip ?_); simp (maxSteps := 1000000) (disch := omega) only [go_sem]) | (refine hB _ ?_; clear hB KB) | (refine exit_by (S := Sg) (by assumption) ?_) | ((first | refine cw_rets ?_ | refine cw_ret ?_); simp (maxSteps := 1000000) (disch := omega) only [go_sem]; (try clear hB KB); (try clear hK K)))
      · refine cw_loop (X := Nat) (fun k => mkSt [(0, .b (I w)), (1, .b (I h)), (2, .b (.c (.p (pixL l)))), (6, .b (.c (.ptr 0 0))), (8, .b (.c (.ptr 1 0))), (10, .b (I i)), (11, .b (I k))] [(0, .fix ((imageE noImage).map CV.p)), (1, .fix ([.p (PI w), .p (PI h), .p (PB false), .p (PU 0), .p (PU 0), .p (PU 0), .p (PU 0), .p (PU 0), .p (PI w), .p (PI h), .p (PI w), .own 2 l.length, .p (PI w), .p (PI h), .p (PI w), .own 3 l.length, .p (PI w), .p (PI h), .p (PI w), .own 4 l.length, .p (PI w), .p (PI h), .p (PI w), .own 5 l.length, .p (PI w), .p (PI h), .p (PI w), .own 6 l.length])), (2, .arr 36 1 l.length (planeF l 0 i k)), (3, .arr 36 1 l.length (planeF l 1 i k)), (4, .arr 36 1 l.length (planeF l 2 i k)), (5, .arr 36 1 l.length (planeF l 3 i k)), (6, .arr 36 1 l.length (planeF l 4 i k))] 7) (fun k => k ≤ 3) (fun k => 3 - k) 0 ?_ ?_ ?_
        · omega
        · refine le_of [(1, some 1), (2, some 2), (3, some 3), (4, some 4), (5, some 5), (6, some 6)] rfl (by decide) rfl ?_ ?_
          all_goals simp (maxSteps := 1000000) (disch := omega) only [go_sem]
          repeat' (refine And.intro ?_ ?_)
          all_goals first | rfl | omega | exact .inl rfl | trivial | skip
        · intro k hk
          have hk' : k = 0 ∨ k = 1 ∨ k = 2 ∨ k = 3 := by omega
          rcases hk' with rfl | rfl | rfl | rfl
          · repeat' (first | refine cw_assoc ?_ | refine cw_skips ?_ | refine cw_labels ?_ | ((first | refine cw_step (fun K hK => ?_) | refine cw_last (fun K hK => ?_) | refine cw_stepD (by decide +kernel) (by decide +kernel) (fun K hK => ?_) | refine cw_lastD (by decide +kernel) (by decide +kernel) (fun K hK => ?_) | refine rgB_some ?_); (try simp (maxSteps := 1000000) (disch := omega) only [go_sem]); (repeat' (refine And.intro ?_ ?_)); (all_goals first | (refine hK _ ?_; clear hK K) | exact auto_cl | skip)) | ((first | apply cw_ite | apply cw_iteN); (case hf => rfl); (case hc => simp (maxSteps := 1000000) (disch := omega) only [go_sem]; rfl); (all_goals first | (intro hb; (try simp only [decide_eq_true_eq, decide_eq_false_iff_not, beq_iff_eq, beq_eq_false_iff_ne, bne_iff_ne, bne_eq_false_iff_eq, ne_eq, Bool.not_eq_true, Bool.not_eq_false, Bool.not_true, Bool.not_false, Bool.not_eq_eq_eq_not, Int.not_lt, Int.not_le, gt_iff_lt, ge_iff_le, Bool.cond_eq_ite, Bool.if_false_right, Bool.if_true_left, Bool.and_eq_true, Bool.or_eq_true, Bool.and_eq_false_imp, Bool.or_eq_false_iff, Decidable.not_not, beq_true, beq_false, iteT, iteF, cond_true, cond_false] at hb)) | skip)) | exact atN_intro | ((first | apply cw_if | apply cw_cond); (case hc => simp (maxSteps := 1000000) (disch := omega) only [go_sem]; rfl); (all_goals (intro hb; (try simp only [decide_eq_true_eq, decide_eq_false_iff_not, beq_iff_eq, beq_eq_false_iff_ne, bne_iff_ne, bne_eq_false_iff_eq, ne_eq, Bool.not_eq_true, Bool.not_eq_false, Bool.not_true, Bool.not_false, Bool.not_eq_eq_eq_not, Int.not_lt, Int.not_le, gt_iff_lt, ge_iff_le, Bool.cond_eq_ite, Bool.if_false_right, Bool.if_true_left, Bool.and_eq_true, Bool.or_eq_true, Bool.and_eq_false_imp, Bool.or_eq_false_iff, Decidable.not_not, beq_true, beq_false, iteT, iteF, cond_true, cond_false] at hb); try (exfalso; omega)))) | (refine cw_blocks (fun KB hB => ?_)) | (refine cw_block ?_) | ((first | refine cw_exits ?_ | refine cw_exit ?_ | refine cw_skip ?_); simp (maxSteps := 1000000) (disch := omega) only [go_sem]) | (refine hB _ ?_; clear hB KB) | (refine exit_by (S := Sg) (by assumption) ?_) | ((first | refine cw_rets ?_ | refine cw_ret ?_); simp (maxSteps := 1000000) (disch := omega) only [go_sem]; (try clear hB KB); (try clear hK K)))
            rw [thenQ_normal]
            refine wk_loop 1 ?_ (by omega) (by omega)
            refine le_of [(1, some 1), (2, some 2), (3, some 3), (4, some 4), (5, some 5), (6, some 6)] rfl (by decide) rfl ?_ ?_
            all_goals simp (maxSteps := 1000000) (disch := omega) only [go_sem]
            repeat' (refine And.intro ?_ ?_)
            all_goals first | rfl | omega | exact .inl rfl | trivial | skip
            · refine .inr fun a ha j hj => ?_
              have : j = 0 := by omega
              subst this
              rw [← planeF_set]
              simp only [Int.toNat_natCast]
              by_cases h : a = i
              · rw [if_pos h, if_pos h]
                split
                · exact PV.le_refl _
                · rename_i hn
                  exact absurd ⟨Nat.le_refl _, by decide +kernel⟩ hn
              · rw [if_neg h, if_neg h]; exact PV.le_refl _
            · exact .inl (planeF_same (by decide))
            · exact .inl (planeF_same (by decide))
            · exact .inl (planeF_same (by decide))
            · exact .inl (planeF_same (by decide))
          · repeat' (first | refine cw_assoc ?_ | refine cw_skips ?_ | refine cw_labels ?_ | ((first | refine cw_step (fun K hK => ?_) | refine cw_last (fun K hK => ?_) | refine cw_stepD (by decide +kernel) (by decide +kernel) (fun K hK => ?_) | refine cw_lastD (by decide +kernel) (by decide +kernel) (fun K hK => ?_) | refine rgB_some ?_); (try simp (maxSteps := 1000000) (disch := omega) only [go_sem]); (repeat' (refine And.intro ?_ ?_)); (all_goals first | (refine hK _ ?_; clear hK K) | exact auto_cl | skip)) | ((first | apply cw_ite | apply cw_iteN); (case hf => rfl); (case hc => simp (maxSteps := 1000000) (disch := omega) only [go_sem]; rfl); (all_goals first | (intro hb; (try simp only [decide_eq_true_eq, decide_eq_false_iff_not, beq_iff_eq, beq_eq_false_iff_ne, bne_iff_ne, bne_eq_false_iff_eq, ne_eq, Bool.not_eq_true, Bool.not_eq_false, Bool.not_true, Bool.not_false, Bool.not_eq_eq_eq_not, Int.not_lt, Int.not_le, gt_iff_lt, ge_iff_le, Bool.cond_eq_ite, Bool.if_false_right, Bool.if_true_left, Bool.and_eq_true, Bool.or_eq_true, Bool.and_eq_false_imp, Bool.or_eq_false_iff, Decidable.not_not, beq_true, beq_false, iteT, iteF, cond_true, cond_false] at hb)) | skip)) | exact atN_intro | ((first | apply cw_if | apply cw_cond); (case hc => simp (maxSteps := 1000000) (disch := omega) only [go_sem]; rfl); (all_goals (intro hb; (try simp only [decide_eq_true_eq, decide_eq_false_iff_not, beq_iff_eq, beq_eq_false_iff_ne, bne_iff_ne, bne_eq_false_iff_eq, ne_eq, Bool.not_eq_true, Bool.not_eq_false, Bool.not_true, Bool.not_false, Bool.not_eq_eq_eq_not, Int.not_lt, Int.not_le, gt_iff_lt, ge_iff_le, Bool.cond_eq_ite, Bool.if_false_right, Bool.if_true_left, Bool.and_eq_true, Bool.or_eq_true, Bool.and_eq_false_imp, Bool.or_eq_false_iff, Decidable.not_not, beq_true, beq_false, iteT, iteF, cond_true, cond_false] at hb); try (exfalso; omega)))) | (refine cw_blocks (fun KB hB => ?_)) | (refine cw_block ?_) | ((first | refine cw_exits ?_ | refine cw_exit ?_ | refine cw_skip ?_); simp (maxSteps := 1000000) (disch := omega) only [go_sem]) | (refine hB _ ?_; clear hB KB) | (refine exit_by (S := Sg) (by assumption) ?_) | ((first | refine cw_rets ?_ | refine cw_ret ?_); simp (maxSteps := 1000000) (disch := omega) only [go_sem]; (try clear hB KB); (try clear hK K)))
            rw [thenQ_normal]
            refine wk_loop 2 ?_ (by omega) (by omega)
            refine le_of [(1, some 1), (2, some 2), (3, some 3), (4, some 4), (5, some 5), (6, some 6)] rfl (by decide) rfl ?_ ?_
            all_goals simp (maxSteps := 1000000) (disch := omega) only [go_sem]
            repeat' (refine And.intro ?_ ?_)
            all_goals first | rfl | omega | exact .inl rfl | trivial | skip
            · exact .inl (planeF_same (by decide))
            · refine .inr fun a ha j hj => ?_
              have : j = 0 := by omega
              subst this
              rw [← planeF_set]
              simp only [Int.toNat_natCast]
              by_cases h : a = i
              · rw [if_pos h, if_pos h]
                split
                · exact PV.le_refl _
                · rename_i hn
                  exact absurd ⟨Nat.le_refl _, by decide +kernel⟩ hn
              · rw [if_neg h, if_neg h]; exact PV.le_refl _
            · exact .inl (planeF_same (by decide))
            · exact .inl (planeF_same (by decide))
            · exact .inl (planeF_same (by decide))
          · repeat' (first | refine cw_assoc ?_ | refine cw_skips ?_ | refine cw_labels ?_ | ((first | refine cw_step (fun K hK => ?_) | refine cw_last (fun K hK => ?_) | refine cw_stepD (by decide +kernel) (by decide +kernel) (fun K hK => ?_) | refine cw_lastD (by decide +kernel) (by decide +kernel) (fun K hK => ?_) | refine rgB_some ?_); (try simp (maxSteps := 1000000) (disch := omega) only [go_sem]); (repeat' (refine And.intro ?_ ?_)); (all_goals first | (refine hK _ ?_; clear hK K) | exact auto_cl | skip)) | ((first | apply cw_ite | apply cw_iteN); (case hf => rfl); (case hc => simp (maxSteps := 1000000) (disch := omega) only [go_sem]; rfl); (all_goals first | (intro hb; (try simp only [decide_eq_true_eq, decide_eq_false_iff_not, beq_iff_eq, beq_eq_false_iff_ne, bne_iff_ne, bne_eq_false_iff_eq, ne_eq, Bool.not_eq_true, Bool.not_eq_false, Bool.not_true, Bool.not_false, Bool.not_eq_eq_eq_not, Int.not_lt, Int.not_le, gt_iff_lt, ge_iff_le, Bool.cond_eq_ite, Bool.if_false_right, Bool.if_true_left, Bool.and_eq_true, Bool.or_eq_true, Bool.and_eq_false_imp, Bool.or_eq_false_iff, Decidable.not_not, beq_true, beq_false, iteT, iteF, cond_true, cond_false] at hb)) | skip)) | exact atN_intro | ((first | apply cw_if | apply cw_cond); (case hc => simp (maxSteps := 1000000) (disch := omega) only [go_sem]; rfl); (all_goals (intro hb; (try simp only [decide_eq_true_eq, decide_eq_false_iff_not, beq_iff_eq, beq_eq_false_iff_ne, bne_iff_ne, bne_eq_false_iff_eq, ne_eq, Bool.not_eq_true, Bool.not_eq_false, Bool.not_true, Bool.not_false, Bool.not_eq_eq_eq_not, Int.not_lt, Int.not_le, gt_iff_lt, ge_iff_le, Bool.cond_eq_ite, Bool.if_false_right, Bool.if_true_left, Bool.and_eq_true, Bool.or_eq_true, Bool.and_eq_false_imp, Bool.or_eq_false_iff, Decidable.not_not, beq_true, beq_false, iteT, iteF, cond_true, cond_false] at hb); try (exfalso; omega)))) | (refine cw_blocks (fun KB hB => ?_)) | (refine cw_block ?_) | ((first | refine cw_exits ?_ | refine cw_exit ?_ | refine cw_skip ?_); simp (maxSteps := 1000000) (disch := omega) only [go_sem]) | (refine hB _ ?_; clear hB KB) | (refine exit_by (S := Sg) (by assumption) ?_) | ((first | refine cw_rets ?_ | refine cw_ret ?_); simp (maxSteps := 1000000) (disch := omega) only [go_sem]; (try clear hB KB); (try clear hK K)))
            rw [thenQ_normal]
            refine wk_loop 3 ?_ (by omega) (by omega)
            refine le_of [(1, some 1), (2, some 2), (3, some 3), (4, some 4), (5, some 5), (6, some 6)] rfl (by decide) rfl ?_ ?_
            all_goals simp (maxSteps := 1000000) (disch := omega) only [go_sem]
            repeat' (refine And.intro ?_ ?_)
            all_goals first | rfl | omega | exact .inl rfl | trivial | skip
            · exact .inl (planeF_same (by decide))
            · exact .inl (planeF_same (by decide))
            · refine .inr fun a ha j hj => ?_
              have : j = 0 := by omega
              subst this
              rw [← planeF_set]
              simp only [Int.toNat_natCast]
              by_cases h : a = i
              · rw [if_pos h, if_pos h]
                split
                · exact PV.le_refl _
                · rename_i hn
                  exact absurd ⟨Nat.le_refl _, by decide +kernel⟩ hn
              · rw [if_neg h, if_neg h]; exact PV.le_refl _
            · exact .inl (planeF_same (by decide))
            · exact .inl (planeF_same (by decide))
          · repeat' (first | ((first | ((with_reducible refine cw_stepDK (id := 15) [(87, 2), (74, 1), (85, 3)] (by decide +kernel) (by decide +kernel) ?_ (fun K hK => ?_)); (focus (refine And.intro (fun iw hiw => by ((try simp (maxSteps := 1000000) (disch := omega) only [go_sem] at hiw ⊢); (repeat (first | rfl | exact if_neg (by omega) | rw [if_neg (by omega)])); done)) (by first | exact Nat.zero_le _ | (simp (maxSteps := 1000000) (disch := omega) only [go_sem]; done) | (simp (maxSteps := 1000000) (disch := omega) only [go_sem]; omega) | decide)))) | ((with_reducible refine cw_lastDK (id := 15) [(87, 2), (74, 1), (85, 3)] (by decide +kernel) (by decide +kernel) ?_ (fun K hK => ?_)); (focus (refine And.intro (fun iw hiw => by ((try simp (maxSteps := 1000000) (disch := omega) only [go_sem] at hiw ⊢); (repeat (first | rfl | exact if_neg (by omega) | rw [if_neg (by omega)])); done)) (by first | exact Nat.zero_le _ | (simp (maxSteps := 1000000) (disch := omega) only [go_sem]; done) | (simp (maxSteps := 1000000) (disch := omega) only [go_sem]; omega) | decide))))); (try simp (maxSteps := 1000000) (disch := omega) only [go_sem]); (repeat' (refine And.intro ?_ ?_)); (all_goals first | (refine hK _ (by simp (maxSteps := 1000000) (disch := omega) only [go_sem]) ?_; clear hK K) | exact auto_cl | skip)) | refine cw_assoc ?_ | refine cw_skips ?_ | refine cw_labels ?_ | ((first | refine cw_step (fun K hK => ?_) | refine cw_last (fun K hK => ?_) | refine cw_stepD (by decide +kernel) (by decide +kernel) (fun K hK => ?_) | refine cw_lastD (by decide +kernel) (by decide +kernel) (fun K hK => ?_) | refine rgB_some ?_); (try simp (maxSteps := 1000000) (disch := omega) only [go_sem]); (repeat' (refine And.intro ?_ ?_)); (all_goals first | (refine hK _ ?_; clear hK K) | exact auto_cl | skip)) | ((first | apply cw_ite | apply cw_iteN); (case hf => rfl); (case hc => simp (maxSteps := 1000000) (disch := omega) only [go_sem]; rfl); (all_goals first | (intro hb; (try simp only [decide_eq_true_eq, decide_eq_false_iff_not, beq_iff_eq, beq_eq_false_iff_ne, bne_iff_ne, bne_eq_false_iff_eq, ne_eq, Bool.not_eq_true, Bool.not_eq_false, Bool.not_true, Bool.not_false, Bool.not_eq_eq_eq_not, Int.not_lt, Int.not_le, gt_iff_lt, ge_iff_le, Bool.cond_eq_ite, Bool.if_false_right, Bool.if_true_left, Bool.and_eq_true, Bool.or_eq_true, Bool.and_eq_false_imp, Bool.or_eq_false_iff, Decidable.not_not, beq_true, beq_false, iteT, iteF, cond_true, cond_false] at hb)) | skip)) | exact atN_intro | ((first | apply cw_if | apply cw_cond); (case hc => simp (maxSteps := 1000000) (disch := omega) only [go_sem]; rfl); (all_goals (intro hb; (try simp only [decide_eq_true_eq, decide_eq_false_iff_not, beq_iff_eq, beq_eq_false_iff_ne, bne_iff_ne, bne_eq_false_iff_eq, ne_eq, Bool.not_eq_true, Bool.not_eq_false, Bool.not_true, Bool.not_false, Bool.not_eq_eq_eq_not, Int.not_lt, Int.not_le, gt_iff_lt, ge_iff_le, Bool.cond_eq_ite, Bool.if_false_right, Bool.if_true_left, Bool.and_eq_true, Bool.or_eq_true, Bool.and_eq_false_imp, Bool.or_eq_false_iff, Decidable.not_not, beq_true, beq_false, iteT, iteF, cond_true, cond_false] at hb); try (exfalso; omega)))) | (refine cw_blocks (fun KB hB => ?_)) | (refine cw_block ?_) | ((first | refine cw_exits ?_ | refine cw_exit ?_ | refine cw_skip ?_); simp (maxSteps := 1000000) (disch := omega) only [go_sem]) | (refine hB _ ?_; clear hB KB) | (refine exit_by (S := Sg) (by assumption) ?_) | ((first | refine cw_rets ?_ | refine cw_ret ?_); simp (maxSteps := 1000000) (disch := omega) only [go_sem]; (try clear hB KB); (try clear hK K)))
            rw [thenQ_normal]
            refine wk_loop (i + 1) ?_ (by omega) (by omega)
            refine le_of [(1, some 1), (2, some 2), (3, some 3), (4, some 4), (5, some 5), (6, some 6)] rfl (by decide) rfl ?_ ?_
            all_goals simp (maxSteps := 1000000) (disch := omega) only [go_sem]
            repeat' (refine And.intro ?_ ?_)
            all_goals first | rfl | omega | exact .inl rfl | trivial | skip
            · exact .inl (planeF_next (by decide))
            · exact .inl (planeF_next (by decide))
            · exact .inl (planeF_next (by decide))
            · refine .inr fun a ha j hj => ?_
              have : j = 0 := by omega
              subst this
              rw [← planeF_last (by decide)]
              simp only [Int.toNat_natCast]
              by_cases h : a = i
              · rw [if_pos h, if_pos h]; exact PV.le_refl _
              · rw [if_neg h, if_neg h]; exact PV.le_refl _
            · refine .inr fun a ha j hj => ?_
              have : j = 0 := by omega
              subst this
              rw [← planeF_last (by decide)]
              simp only [Int.toNat_natCast]
              by_cases h : a = i
              · rw [if_pos h, if_pos h]; exact PV.le_refl _
              · rw [if_neg h, if_neg h]; exact PV.le_refl _
      · have hok : imageOk w h l.length = true := by
          rw [imageOk, (by assumption : fitsM w h = true ∧ _).1, decide_eq_true (by omega)]; rfl
        rw [hok, imageOfM, if_pos hok]
        have hi2 : i = l.length := by omega
        rw [hi2]
        refine sle_tup ⟨ble_agg ?_, ble_rfl trivial, trivial⟩
        simp only [List.map_cons, List.map_nil, cleL_cons, cleL_nil]
        repeat' (refine And.intro ?_ ?_)
        all_goals first | exact .inl rfl | exact .inl trivial | exact .inr nil_le | trivial | skip
        all_goals exact .inr plane_le
end Go.Proofs.YtkjdljcbpbeehaaDoor

set_option linter.unusedSimpArgs false
set_option linter.unusedVariables false
set_option maxRecDepth 8000
set_option maxHeartbeats 8000000
namespace Go.Proofs.YtkjdljcbpbeehaaDoor
open Go Go.SL
open Go.RowKit (wrap64)

def gW (p : Pic) (c : Rect) : Int := if p.w.tdiv 5 % 3 = 0 then c.x1 - c.x0 else 1 + p.w % 5
def gH (p : Pic) (c : Rect) : Int := if p.w.tdiv 5 % 3 = 0 then c.y1 - c.y0 else 1 + p.h % 4
def solidOf (w h : Int) (p : Pixel) : Image := ⟨w, h, true, p, noPlane, noPlane, noPlane, noPlane, noPlane⟩
def gImage (p : Pic) (c : Rect) (m : Int) : Image :=
  if p.solid % 2 = 0 then solidOf (gW p c) (gH p c) (gPix p.row m 0) else imageOf (gW p c) (gH p c) (gPixels p.row (gW p c * gH p c).toNat m)
structure PicOk (p : Pic) : Prop where
  w : i64 p.w
  h : i64 p.h
  solid : i64 p.solid
  row : RowOk p.row
/-- A small canvas. -/
structure Small (c : Rect) : Prop where
  x0 : -10 ≤ c.x0
  x1 : c.x1 ≤ 20
  y0 : -10 ≤ c.y0
  y1 : c.y1 ≤ 20
  w : 1 ≤ c.x1 - c.x0 ∧ c.x1 - c.x0 ≤ 5
  h : 1 ≤ c.y1 - c.y0 ∧ c.y1 - c.y0 ≤ 4

theorem gW_le {p : Pic} {c : Rect} (hc : Small c) : 1 ≤ gW p c ∧ gW p c ≤ 5 ∧ 1 ≤ gH p c ∧ gH p c ≤ 4 ∧ 1 ≤ gW p c * gH p c ∧ gW p c * gH p c ≤ 20 := by
  have hw := hc.w
  have hh := hc.h
  have h1 : 1 ≤ gW p c ∧ gW p c ≤ 5 ∧ 1 ≤ gH p c ∧ gH p c ≤ 4 := by
    unfold gW gH; split <;> omega
  have h2 : gW p c * gH p c ≤ 5 * 4 := Int.mul_le_mul h1.2.1 h1.2.2.2 (by omega) (by omega)
  have h3 : 1 * 1 ≤ gW p c * gH p c := Int.mul_le_mul h1.1 h1.2.2.1 (by omega) (by omega)
  omega
theorem gImage_ok {w h : Int} {n : Nat} (hw : 1 ≤ w ∧ w ≤ 5) (hh : 1 ≤ h ∧ h ≤ 4) (hn : n = (w * h).toNat) : imageOk w h n = true := by
  have hp : 0 ≤ w * h := Int.mul_nonneg (by omega) (by omega)
  have hf : fitsM w h = true := by
    rw [fitsM, decide_eq_true_eq]
    have : w = 1 ∨ w = 2 ∨ w = 3 ∨ w = 4 ∨ w = 5 := by omega
    rcases this with rfl | rfl | rfl | rfl | rfl <;> omega
  rw [imageOk, hf, decide_eq_true (by omega)]; rfl

theorem image_spec (p : Pic) (c : Rect) (m : Int) (hp : PicOk p) (hc : Small c) (hm : u16 m) : Pure Sg 27 [ag (picE p), ag (rectE c), U m] (fun r => r = .b (ag (imageE (gImage p c m)))) := by
  obtain ⟨⟨a1, a2⟩, ⟨b1, b2⟩, ⟨c1, c2⟩, hr⟩ := hp
  have hl := gW_le (p := p) hc
  obtain ⟨x0, x1, y0, y1, hw, hh⟩ := hc
  have hd := i64_wrap (p.w.tdiv 5)
  rw [wtdiv a1 a2 (by omega)] at hd
  refine pure_of Tryd.func27 rfl (rs := [.cell 6 45]) rfl rfl mixed (by decide +kernel) (Nat.le_of_ble_eq_true rfl) (argsLt_mem (by simp (maxSteps := 1000000) (disch := omega) only [go_sem])) ?_
  repeat' (first | refine cw_assoc ?_ | refine cw_skips ?_ | refine cw_labels ?_ | ((first | (with_reducible refine cw_stepV (id := 4) (fun K hW => ?_)) | refine cw_step (fun K hK => ?_) | refine cw_last (fun K hK => ?_) | refine cw_stepD (by decide +kernel) (by decide +kernel) (fun K hK => ?_) | refine cw_lastD (by decide +kernel) (by decide +kernel) (fun K hK => ?_) | refine rgB_some ?_ | refine call_a (modp_spec _ _ (by omega) (by omega)) ?_ | refine gcall_a (fun hg => modp_spec _ _ (by omega) (by omega)) ?_); (try simp (maxSteps := 1000000) (disch := omega) only [go_sem]); (repeat' (refine And.intro ?_ ?_)); (all_goals first | (refine hK _ ?_; clear hK K) | exact auto_cl | skip)) | ((first | apply cw_ite | apply cw_iteN); (case hf => rfl); (case hc => simp (maxSteps := 1000000) (disch := omega) only [go_sem]; rfl); (all_goals first | (intro hb; (try simp only [decide_eq_true_eq, decide_eq_false_iff_not, beq_iff_eq, beq_eq_false_iff_ne, bne_iff_ne, bne_eq_false_iff_eq, ne_eq, Bool.not_eq_true, Bool.not_eq_false, Bool.not_true, Bool.not_false, Bool.not_eq_eq_eq_not, Int.not_lt, Int.not_le, gt_iff_lt, ge_iff_le, Bool.cond_eq_ite, Bool.if_false_right, Bool.if_true_left, Bool.and_eq_true, Bool.or_eq_true, Bool.and_eq_false_imp, Bool.or_eq_false_iff, Decidable.not_not, beq_true, beq_false, iteT, iteF, cond_true, cond_false] at hb)) | skip)) | exact atN_intro | ((first | apply cw_if | apply cw_cond); (case hc => simp (maxSteps := 1000000) (disch := omega) only [go_sem]; rfl); (all_goals (intro hb; (try simp only [decide_eq_true_eq, decide_eq_false_iff_not, beq_iff_eq, beq_eq_false_iff_ne, bne_iff_ne, bne_eq_false_iff_eq, ne_eq, Bool.not_eq_true, Bool.not_eq_false, Bool.not_true, Bool.not_false, Bool.not_eq_eq_eq_not, Int.not_lt, Int.not_le, gt_iff_lt, ge_iff_le, Bool.cond_eq_ite, Bool.if_false_right, Bool.if_true_left, Bool.and_eq_true, Bool.or_eq_true, Bool.and_eq_false_imp, Bool.or_eq_false_iff, Decidable.not_not, beq_true, beq_false, iteT, iteF, cond_true, cond_false] at hb); try (exfalso; omega)))) | (refine cw_blocks (fun KB hB => ?_)) | (refine cw_block ?_) | ((first | refine cw_exits ?_ | refine cw_exit ?_ | refine cw_skip ?_); simp (maxSteps := 1000000) (disch := omega) only [go_sem]) | (refine hB _ ?_; clear hB KB) | (refine exit_by (S := Sg) (by assumption) ?_) | ((first | refine cw_rets ?_ | refine cw_ret ?_); simp (maxSteps := 1000000) (disch := omega) only [go_sem]; (try clear hB KB); (try clear hK K)))
  have hlen : (gPixels p.row (gW p c * gH p c).toNat m).length = (gW p c * gH p c).toNat := by simp [gPixels]
  refine call_as ?_ ?_ (by simp (maxSteps := 1000000) (disch := omega) only [go_sem]) (pixels_spec p.row (gW p c * gH p c) m hr (by omega) (by omega) hm)
  try simp (maxSteps := 1000000) (disch := omega) only [go_sem]
  try (refine hK _ ?_; clear hK K)
  · refine hW _ (mkSt [(2, .b (U m)), (3, .b (.c (.ptr 0 0))), (4, .b (.c (.ptr 1 0))), (6, .b (.c (.ptr 2 0))), (7, .b (I (gW p c))), (8, .b (I (gH p c))), (9, .b (.c (.p (pixL (gPixels p.row (gW p c * gH p c).toNat m)))))]
      [(0, .fix ((picE p).map CV.p)), (1, .fix ((rectE c).map CV.p)), (2, .fix ((List.range 28).map fun _ => CV.p .any))] 3) ?_ ?_
    · clear hW
      refine le_of [(1, some 1), (2, some 2)] rfl (by decide) rfl ?_ ?_
      all_goals simp (maxSteps := 1000000) (disch := omega) only [go_sem]
      repeat' (refine And.intro ?_ ?_)
      all_goals first | rfl | omega | exact .inl rfl | trivial | skip
    · clear hW
      have hpl : 0 < (gPixels p.row (gW p c * gH p c).toNat m).length := by omega
      repeat' (first | refine cw_assoc ?_ | refine cw_skips ?_ | refine cw_labels ?_ | ((first | refine cw_step (fun K hK => ?_) | refine cw_last (fun K hK => ?_) | refine cw_stepD (by decide +kernel) (by decide +kernel) (fun K hK => ?_) | refine cw_lastD (by decide +kernel) (by decide +kernel) (fun K hK => ?_) | refine rgB_some ?_ | refine call_a (modp_spec _ _ (by omega) (by omega)) ?_ | refine gcall_a (fun hg => modp_spec _ _ (by omega) (by omega)) ?_ | refine call_a (solid_spec _ _ _) ?_ | refine gcall_a (fun hg => solid_spec _ _ _) ?_ | refine call_a (imageOf_spec _ _ _ (by omega)) ?_ | refine gcall_a (fun hg => imageOf_spec _ _ _ (by omega)) ?_); (try simp (maxSteps := 1000000) (disch := omega) only [go_sem]); (repeat' (refine And.intro ?_ ?_)); (all_goals first | (refine hK _ ?_; clear hK K) | exact auto_cl | skip)) | ((first | apply cw_ite | apply cw_iteN); (case hf => rfl); (case hc => simp (maxSteps := 1000000) (disch := omega) only [go_sem]; rfl); (all_goals first | (intro hb; (try simp only [decide_eq_true_eq, decide_eq_false_iff_not, beq_iff_eq, beq_eq_false_iff_ne, bne_iff_ne, bne_eq_false_iff_eq, ne_eq, Bool.not_eq_true, Bool.not_eq_false, Bool.not_true, Bool.not_false, Bool.not_eq_eq_eq_not, Int.not_lt, Int.not_le, gt_iff_lt, ge_iff_le, Bool.cond_eq_ite, Bool.if_false_right, Bool.if_true_left, Bool.and_eq_true, Bool.or_eq_true, Bool.and_eq_false_imp, Bool.or_eq_false_iff, Decidable.not_not, beq_true, beq_false, iteT, iteF, cond_true, cond_false] at hb)) | skip)) | exact atN_intro | ((first | apply cw_if | apply cw_cond); (case hc => simp (maxSteps := 1000000) (disch := omega) only [go_sem]; rfl); (all_goals (intro hb; (try simp only [decide_eq_true_eq, decide_eq_false_iff_not, beq_iff_eq, beq_eq_false_iff_ne, bne_iff_ne, bne_eq_false_iff_eq, ne_eq, Bool.not_eq_true, Bool.not_eq_false, Bool.not_true, Bool.not_false, Bool.not_eq_eq_eq_not, Int.not_lt, Int.not_le, gt_iff_lt, ge_iff_le, Bool.cond_eq_ite, Bool.if_false_right, Bool.if_true_left, Bool.and_eq_true, Bool.or_eq_true, Bool.and_eq_false_imp, Bool.or_eq_false_iff, Decidable.not_not, beq_true, beq_false, iteT, iteF, cond_true, cond_false] at hb); try (exfalso; omega)))) | (refine cw_blocks (fun KB hB => ?_)) | (refine cw_block ?_) | ((first | refine cw_exits ?_ | refine cw_exit ?_ | refine cw_skip ?_); simp (maxSteps := 1000000) (disch := omega) only [go_sem]) | (refine hB _ ?_; clear hB KB) | (refine exit_by (S := Sg) (by assumption) ?_) | ((first | refine cw_rets ?_ | refine cw_ret ?_); simp (maxSteps := 1000000) (disch := omega) only [go_sem]; (try clear hB KB); (try clear hK K)))
      · have e2 : gImage p c m = solidOf (gW p c) (gH p c) (gPix p.row m 0) := by rw [gImage, if_pos hb]
        have e : (gPixels p.row (gW p c * gH p c).toNat m).getD 0 default = gPix p.row m 0 := by
          have : 0 < (gW p c * gH p c).toNat := by omega
          simp [gPixels, this]
        rw [e2, e]; rfl
      · have e2 : gImage p c m = imageOf (gW p c) (gH p c) (gPixels p.row (gW p c * gH p c).toNat m) := by rw [gImage, if_neg hb]
        rw [e2, imageOfM, if_pos (gImage_ok (by omega) (by omega) hlen)]; rfl
  · have e : IntKind.i64.wrap (gW p c * gH p c) = gW p c * gH p c := w64' (by omega) (by omega)
    show [_, I (IntKind.i64.wrap (gW p c * gH p c)), _] = _
    rw [e]; rfl
end Go.Proofs.YtkjdljcbpbeehaaDoor

set_option linter.unusedSimpArgs false
set_option linter.unusedVariables false
set_option maxRecDepth 8000
namespace Go.Proofs.YtkjdljcbpbeehaaDoor
open Go Go.SL
open Go.RowKit (wrap64)

def popOp : Op := ⟨3, 0, 0, 0, 0, 0, 0, 0, 0, 0, false, false⟩
def gCanvas (s : Scene) : Rect := ⟨s.x % 13 - 6, s.y % 13 - 6, s.x % 13 - 6 + (1 + s.w % 5), s.y % 13 - 6 + (1 + s.h % 4)⟩
def gTileW (s : Scene) : Int := 1 + s.tileW % (1 + s.w % 5)
def gTileH (s : Scene) : Int := 1 + s.tileH % (1 + s.h % 4)
def gImages0 (s : Scene) : List Image := (s.pics.take 4).map fun p => gImage p (gCanvas s) (gMax s.bits)
def gImages (s : Scene) : List Image := if (gImages0 s).length = 0 then [solidOf (1 + s.w % 5) (1 + s.h % 4) ⟨gMax s.bits, 0, 0, gMax s.bits, gMax s.bits⟩] else gImages0 s
def gStep (n : Int) (c : Rect) (m : Int) (st : List Op × List Op) (r : Raw) : List Op × List Op :=
  if r.kind % 8 = 0 ∧ 0 < st.2.length then (st.1 ++ [popOp], st.2.dropLast)
  else (st.1 ++ [gOp r (decide (r.kind % 8 < 3)) n c.x0 c.y0 (ctxOk st.2) m], if r.kind % 8 < 3 then st.2 ++ [gOp r (decide (r.kind % 8 < 3)) n c.x0 c.y0 (ctxOk st.2) m] else st.2)
def gOps (s : Scene) : List Op × List Op := (s.ops.take 9).foldl (gStep (gImages s).length (gCanvas s) (gMax s.bits)) ([], [])
def gScript (s : Scene) : Script :=
  { bits := if gMax s.bits > 255 then 16 else 8
    canvas := gCanvas s
    tileW := gTileW s
    tileH := gTileH s
    order := gPerm s.order (tilesX (gCanvas s) (gTileW s) (gTileH s) * tilesY (gCanvas s) (gTileW s) (gTileH s))
    images := gImages s
    ops := (gOps s).1 ++ List.replicate (gOps s).2.length popOp }
structure SceneOk (s : Scene) : Prop where
  bits : i64 s.bits
  x : i64 s.x
  y : i64 s.y
  w : i64 s.w
  h : i64 s.h
  tileW : i64 s.tileW
  tileH : i64 s.tileH
  order : s.order.length ≤ 4611686018427387904
  pics : s.pics.length ≤ 4611686018427387904
  ops : s.ops.length ≤ 4611686018427387904
  pic : ∀ i, i < s.pics.length → PicOk (s.pics.getD i default)
  op : ∀ i, i < s.ops.length → RawOk (s.ops.getD i default)
theorem gCanvas_small (s : Scene) : Small (gCanvas s) := by
  unfold gCanvas
  exact ⟨by dsimp only; omega, by dsimp only; omega, by dsimp only; omega, by dsimp only; omega, ⟨by dsimp only; omega, by dsimp only; omega⟩, ⟨by dsimp only; omega, by dsimp only; omega⟩⟩
theorem gMax_u (n : Int) : gMax n = 255 ∨ gMax n = 65535 := by unfold gMax; split <;> omega

end Go.Proofs.YtkjdljcbpbeehaaDoor

set_option linter.unusedSimpArgs false
set_option linter.unusedVariables false
set_option maxRecDepth 8000
namespace Go.Proofs.YtkjdljcbpbeehaaDoor
open Go Go.SL

/-! Every script of the generator is valid. -/
theorem nodup_inj {l : List Int} {i j : Nat} {hi : i < l.length} {hj : j < l.length} (h : l.Nodup) : l[i] = l[j] ↔ i = j := by
  refine ⟨fun e => ?_, fun e => by subst e; rfl⟩
  have hp := List.pairwise_iff_getElem.1 h
  rcases Nat.lt_trichotomy i j with q | q | q
  · exact absurd e (hp i j hi hj q)
  · exact q
  · exact absurd e.symm (hp j i hj hi q)
theorem permGo_ok {l : List Int} : ∀ (k i : Nat) (rest : List Int), rest.length = k → rest.Nodup → (permGo l k i rest).length = k ∧ (permGo l k i rest).Nodup ∧ ∀ v ∈ permGo l k i rest, v ∈ rest
  | 0, i, rest, _, _ => ⟨rfl, List.nodup_nil, fun v hv => by simp [permGo] at hv⟩
  | k + 1, i, rest, hl, hn => by
    have h1 := Int.emod_nonneg (gAt l i) (show (rest.length : Int) ≠ 0 by omega)
    have h2 := Int.emod_lt_of_pos (gAt l i) (show (0 : Int) < rest.length by omega)
    have h3 : (gAt l i % rest.length).toNat < rest.length := by omega
    obtain ⟨a, b, c⟩ := permGo_ok (l := l) k (i + 1) (rest.eraseIdx (gAt l i % rest.length).toNat) (by rw [List.length_eraseIdx, if_pos h3]; omega) (List.Pairwise.sublist (List.eraseIdx_sublist ..) hn)
    have hg : rest.getD (gAt l i % rest.length).toNat 0 = rest[(gAt l i % rest.length).toNat] := by
      rw [List.getD_eq_getElem?_getD, List.getElem?_eq_getElem h3]; rfl
    refine ⟨by simp only [permGo, List.length_cons, a], ?_, fun v hv => ?_⟩
    · simp only [permGo]
      refine List.nodup_cons.2 ⟨fun hm => ?_, b⟩
      have := c _ hm
      rw [List.mem_eraseIdx_iff_getElem] at this
      obtain ⟨j, hj, hne, he⟩ := this
      rw [hg] at he
      exact hne ((nodup_inj hn).1 he)
    · simp only [permGo] at hv
      rcases List.mem_cons.1 hv with rfl | hv
      · rw [hg]; exact List.getElem_mem _
      · exact List.mem_of_mem_eraseIdx (c v hv)
theorem iota_nodup (n : Nat) : (iota n).Nodup := by
  unfold iota
  refine List.Pairwise.map _ (fun a b h => ?_) List.nodup_range
  intro e
  exact h (by omega)
theorem ordAt_ok {x : List Int} {n : Int} {i : Nat} (hi : i < x.length) (hn : x.Nodup) (hm : ∀ v ∈ x, 0 ≤ v ∧ v < n) : ordAt x n i = true := by
  have hg : x.getD i 0 = x[i] := by rw [List.getD_eq_getElem?_getD, List.getElem?_eq_getElem hi]; rfl
  rw [ordAt, hg, decide_eq_true (hm _ (List.getElem_mem hi)), Bool.true_and, Bool.not_eq_true', List.contains_eq_mem, decide_eq_false_iff_not]
  intro h
  obtain ⟨j, hj, he⟩ := List.getElem_of_mem h
  rw [List.getElem_take] at he
  rw [List.length_take] at hj
  have := (nodup_inj hn).1 he
  omega
theorem gPerm_ok {l : List Int} {n : Int} (h0 : 0 ≤ n) (h1 : n ≤ 64) : ordOk (gPerm l n) n = true := by
  have hk : ∀ x : List Int, x.length = n.toNat → x.Nodup → (∀ v ∈ x, v ∈ iota n.toNat) → (List.range n.toNat).all (ordAt x n) = true := fun x hl hn hm => by
    rw [List.all_eq_true]
    intro i hi
    refine ordAt_ok (by rw [hl]; exact List.mem_range.1 hi) hn fun v hv => ?_
    have := hm v hv
    simp only [iota, List.mem_map, List.mem_range] at this
    obtain ⟨a, ha, rfl⟩ := this
    omega
  unfold gPerm
  split
  · rw [ordOk, decide_eq_true ⟨h0, by omega, .inl rfl⟩, Bool.true_and]
    exact hk _ (iota_len _) (iota_nodup _) fun v hv => hv
  · rename_i hc
    obtain ⟨a, b, c⟩ := permGo_ok (l := l) n.toNat 0 (iota n.toNat) (iota_len _) (iota_nodup _)
    rw [ordOk, decide_eq_true ⟨h0, by omega, .inr (by omega)⟩, Bool.true_and]
    by_cases hz : (permGo l n.toNat 0 (iota n.toNat)).length = 0
    · rw [ordL, if_pos hz]
      exact hk _ (iota_len _) (iota_nodup _) fun v hv => hv
    · rw [ordL, if_neg hz]
      exact hk _ a b c

theorem small_empty {c : Rect} (h : Small c) : emptyR c = false := by
  obtain ⟨h1, h2, h3, h4, h5, h6⟩ := h
  unfold emptyR validR
  simp
  omega
theorem gTile_ok (s : Scene) : tilesOk (gCanvas s) (gTileW s) (gTileH s) = true := by
  rw [tilesOk, small_empty (gCanvas_small s)]
  unfold gTileW gTileH gCanvas
  simp only [Bool.not_false, Bool.true_and, decide_eq_true_eq]
  have hw0 : 1 ≤ 1 + s.w % 5 ∧ 1 + s.w % 5 ≤ 5 := by omega
  have hh0 : 1 ≤ 1 + s.h % 4 ∧ 1 + s.h % 4 ≤ 4 := by omega
  have bw := Int.emod_nonneg s.tileW (show 1 + s.w % 5 ≠ 0 by omega)
  have bw2 := Int.emod_lt_of_pos s.tileW (show 0 < 1 + s.w % 5 by omega)
  have bh := Int.emod_nonneg s.tileH (show 1 + s.h % 4 ≠ 0 by omega)
  have bh2 := Int.emod_lt_of_pos s.tileH (show 0 < 1 + s.h % 4 by omega)
  omega
theorem tiles_le (s : Scene) : 0 ≤ tilesX (gCanvas s) (gTileW s) (gTileH s) * tilesY (gCanvas s) (gTileW s) (gTileH s) ∧ tilesX (gCanvas s) (gTileW s) (gTileH s) * tilesY (gCanvas s) (gTileW s) (gTileH s) ≤ 64 := by
  refine ⟨(tiles_wrap _ _ _).2, ?_⟩
  have ht := gTile_ok s
  rw [tilesX, tilesY, if_pos ht, if_pos ht]
  obtain ⟨h1, h2, h3, h4, h5, h6⟩ := gCanvas_small s
  simp only [tilesOk, Bool.and_eq_true, decide_eq_true_eq] at ht
  obtain ⟨_, t1, t2, t3, t4⟩ := ht
  have b1 : 0 ≤ ((gCanvas s).x1 - (gCanvas s).x0 - 1) / gTileW s := Int.ediv_nonneg (by omega) (by omega)
  have b2 : ((gCanvas s).x1 - (gCanvas s).x0 - 1) / gTileW s ≤ (gCanvas s).x1 - (gCanvas s).x0 - 1 := Int.ediv_le_self _ (by omega)
  have c1 : 0 ≤ ((gCanvas s).y1 - (gCanvas s).y0 - 1) / gTileH s := Int.ediv_nonneg (by omega) (by omega)
  have c2 : ((gCanvas s).y1 - (gCanvas s).y0 - 1) / gTileH s ≤ (gCanvas s).y1 - (gCanvas s).y0 - 1 := Int.ediv_le_self _ (by omega)
  have : (((gCanvas s).x1 - (gCanvas s).x0 - 1) / gTileW s + 1) * (((gCanvas s).y1 - (gCanvas s).y0 - 1) / gTileH s + 1) ≤ 5 * 4 := Int.mul_le_mul (by omega) (by omega) (by omega) (by omega)
  omega
theorem gImages_le (s : Scene) : 1 ≤ (gImages s).length ∧ (gImages s).length ≤ 4 := by
  unfold gImages
  split
  · simp
  · have : (gImages0 s).length ≤ 4 := by simp [gImages0]; omega
    omega
/-- The frame of a generated script is fine, whatever its operations, images and order of the same shape. -/
theorem gframe {s : Scene} {t : Script} (hb : t.bits = (gScript s).bits) (hc : t.canvas = gCanvas s) (hw : t.tileW = gTileW s) (hh : t.tileH = gTileH s) (ho : t.order = (gScript s).order) (hi : t.images.length ≤ 64) (hp : t.ops.length ≤ 4096) : frameM t = 0 := by
  have hm := gMax_u s.bits
  have hsm := gCanvas_small s
  have he := small_empty hsm
  have ht := gTile_ok s
  have hl := tiles_le s
  obtain ⟨h1, h2, h3, h4, h5, h6⟩ := hsm
  have ha : ((gCanvas s).x1 - (gCanvas s).x0) * ((gCanvas s).y1 - (gCanvas s).y0) ≤ 5 * 4 := Int.mul_le_mul (by omega) (by omega) (by omega) (by omega)
  have hw2 : withinM 1048576 [(gCanvas s).x0, (gCanvas s).y0] = true := by
    simp [withinM]; omega
  rw [frameM, hb, hc, hw, hh, ho, ht, hw2, he, areaR, he]
  rw [if_neg (by unfold gScript; dsimp only; split <;> omega), if_neg (by simp; omega), if_neg (by simp), if_neg ?_, if_neg (by omega)]
  rw [show (gScript s).order = gPerm s.order _ from rfl, gPerm_ok hl.1 hl.2]
  simp
theorem maxOf_g (s : Scene) : maxOf (gScript s).bits = gMax s.bits := by
  have hm := gMax_u s.bits
  unfold gScript maxOf
  dsimp only
  rcases hm with h | h <;> rw [h] <;> rfl

/-- Every operation is fine in its context. -/
def okAll (b : Int) (n : Nat) : List Op → List Op → Prop
  | [], _ => True
  | o :: r, l => opErr b n o l = 0 ∧ okAll b n r (nextOpen l o)
def openAfter (ops l : List Op) : List Op := ops.foldl nextOpen l
theorem okAll_append {b : Int} {n : Nat} : ∀ {a c l : List Op}, okAll b n (a ++ c) l ↔ okAll b n a l ∧ okAll b n c (openAfter a l)
  | [], c, l => by simp [okAll, openAfter]
  | o :: r, c, l => by
    simp only [List.cons_append, okAll, okAll_append (a := r), and_assoc]
    rfl
theorem openAfter_append {a c l : List Op} : openAfter (a ++ c) l = openAfter c (openAfter a l) := List.foldl_append
theorem opsGo_ok {b : Int} {n : Nat} : ∀ {ops l : List Op} {i : Nat}, okAll b n ops l → openAfter ops l = [] → opsGo b n i ops l = (0, 0)
  | [], l, i, _, h2 => by
    have : l = [] := h2
    subst this
    rfl
  | o :: r, l, i, h1, h2 => by
    rw [opsGo, if_pos h1.1]
    exact opsGo_ok h1.2 h2
theorem pops_ok {b : Int} {n : Nat} : ∀ (k : Nat) (l : List Op), l.length = k → okAll b n (List.replicate k popOp) l ∧ openAfter (List.replicate k popOp) l = []
  | 0, l, hl => ⟨trivial, List.eq_nil_of_length_eq_zero hl⟩
  | k + 1, l, hl => by
    rw [List.replicate_succ]
    have hp := pops_ok (b := b) (n := n) k l.dropLast (by rw [List.length_dropLast]; omega)
    have hn : nextOpen l popOp = l.dropLast := rfl
    refine ⟨⟨?_, by rw [hn]; exact hp.1⟩, ?_⟩
    · rw [opErr, if_neg (by decide), if_neg (by decide), if_neg (fun q => by omega)]; rfl
    · show openAfter _ (nextOpen l popOp) = []
      rw [hn]; exact hp.2
/-- What every generated operation keeps to. -/
structure OpTame (m : Int) (o : Op) : Prop where
  x : -30 ≤ o.x ∧ o.x ≤ 30
  y : -30 ≤ o.y ∧ o.y ≤ 30
  op : 0 ≤ o.opacity ∧ o.opacity ≤ m
  mx : -30 ≤ o.maskX ∧ o.maskX ≤ 30
  my : -30 ≤ o.maskY ∧ o.maskY ≤ 30
theorem gOp_ok {s : Scene} {r : Raw} {l : List Op} (hl : l.length ≤ 9) :
    opErr (gScript s).bits (gImages s).length (gOp r (decide (r.kind % 8 < 3)) (gImages s).length (gCanvas s).x0 (gCanvas s).y0 (ctxOk l) (gMax s.bits)) l = 0 ∧
    OpTame (gMax s.bits) (gOp r (decide (r.kind % 8 < 3)) (gImages s).length (gCanvas s).x0 (gCanvas s).y0 (ctxOk l) (gMax s.bits)) := by
  have hi := gImages_le s
  have hm := gMax_u s.bits
  obtain ⟨h1, h2, h3, h4, h5, h6⟩ := gCanvas_small s
  have q1 := gOffset_le r.x (gCanvas s).x0
  have q2 := gOffset_le r.y (gCanvas s).y0
  have q3 := gOffset_le r.maskX (gCanvas s).x0
  have q4 := gOffset_le r.maskY (gCanvas s).y0
  have q5 := gSample_le (r.opacity.tdiv 2) (gMax s.bits) (by omega)
  have q6 := Int.emod_nonneg (r.mask.tdiv 4) (show ((gImages s).length : Int) ≠ 0 by omega)
  have q7 := Int.emod_lt_of_pos (r.mask.tdiv 4) (show (0 : Int) < (gImages s).length by omega)
  have q8 := Int.emod_nonneg r.image (show ((gImages s).length : Int) ≠ 0 by omega)
  have q9 := Int.emod_lt_of_pos r.image (show (0 : Int) < (gImages s).length by omega)
  generalize hc : ctxOk l = free
  have hmx := maxOf_g s
  constructor
  · rw [opErr, hmx]
    by_cases hp : r.kind % 8 < 3
    · rw [decide_eq_true hp]
      rw [if_neg (by simp [gOp]), if_neg ?qa, if_neg (by simp [gOp]), if_neg (by simp [gOp]), if_neg ?qb, if_neg ?qc, if_neg ?qd, if_neg ?qe, if_neg ?qf, if_neg ?qg, if_neg (by omega)]
      case qa =>
        simp only [gOp, fieldsM]
        by_cases hk : r.mask % 4 = 0
        · simp [hk]; omega
        · simp [hk]
      case qb =>
        simp only [gOp]
        by_cases hk : r.mask % 4 = 0
        · simp [hk]; omega
        · simp [hk]
      case qc =>
        simp only [gOp, withinM]
        by_cases hk : r.mask % 4 = 0
        · simp [hk]; omega
        · simp [hk]
      case qd =>
        simp only [gOp]
        split <;> omega
      case qe =>
        simp only [gOp, isOp]
        split <;> simp <;> omega
      case qf =>
        simp only [gOp, isOp]
        split <;> simp <;> omega
      case qg =>
        simp only [gOp, hc]
        intro q
        rw [q.2] at q
        simp at q
    · rw [decide_eq_false hp]
      rw [if_neg (by simp [gOp]), if_neg ?qa, if_neg (by simp [gOp]), if_neg (by simp [gOp]), if_neg ?qb, if_neg ?qc, if_neg ?qd, if_neg ?qe, if_neg ?qf, if_neg ?qg, if_neg (by simp [gOp])]
      case qa =>
        simp only [gOp, fieldsM]
        by_cases hk : r.mask % 4 = 0
        · simp [hk]; omega
        · simp [hk]
      case qb =>
        simp only [gOp]
        by_cases hk : r.mask % 4 = 0
        · simp [hk]; omega
        · simp [hk]; omega
      case qc =>
        simp only [gOp, withinM]
        by_cases hk : r.mask % 4 = 0
        · simp [hk]; omega
        · simp [hk]; omega
      case qd =>
        simp only [gOp]
        split <;> omega
      case qe =>
        simp only [gOp, isOp]
        split <;> simp <;> omega
      case qf =>
        simp only [gOp, isOp]
        split <;> simp <;> omega
      case qg =>
        simp only [gOp, hc]
        intro q
        rw [q.2] at q
        simp at q
  · refine ⟨?_, ?_, ?_, ?_, ?_⟩ <;> simp only [gOp] <;> (repeat' split) <;> omega
/-- Along the generator's loop. -/
structure GInv (s : Scene) (k : Nat) (st : List Op × List Op) : Prop where
  ok : okAll (gScript s).bits (gImages s).length st.1 []
  op : openAfter st.1 [] = st.2
  l1 : st.1.length ≤ k
  l2 : st.2.length ≤ k
  tame : ∀ o ∈ st.1, OpTame (gMax s.bits) o
theorem popTame {m : Int} (h : 0 ≤ m) : OpTame m popOp := ⟨by decide, by decide, ⟨by decide, h⟩, by decide, by decide⟩
theorem gInv_step {s : Scene} {k : Nat} {st : List Op × List Op} {r : Raw} (h : GInv s k st) (hk : k ≤ 9) : GInv s (k + 1) (gStep (gImages s).length (gCanvas s) (gMax s.bits) st r) := by
  obtain ⟨h1, h2, h3, h4, h5⟩ := h
  have hm := gMax_u s.bits
  unfold gStep
  split
  · rename_i hc
    refine ⟨okAll_append.2 ⟨h1, ?_, trivial⟩, ?_, by simp; omega, by rw [List.length_dropLast]; omega, fun o ho => ?_⟩
    · rw [h2, opErr, if_neg (by decide), if_neg (by decide), if_neg (fun q => by omega)]; rfl
    · rw [openAfter_append, h2]; rfl
    · rcases List.mem_append.1 ho with ho | ho
      · exact h5 o ho
      · rw [List.mem_singleton.1 ho]; exact popTame (by omega)
  · have hg := gOp_ok (s := s) (r := r) (l := st.2) (by omega)
    refine ⟨okAll_append.2 ⟨h1, by rw [h2]; exact hg.1, trivial⟩, ?_, by simp; omega, ?_, fun o ho => ?_⟩
    · rw [openAfter_append, h2]
      show nextOpen st.2 _ = _
      by_cases hp : r.kind % 8 < 3
      · rw [if_pos hp, nextOpen, if_pos (by simp [gOp, hp])]
      · rw [if_neg hp, nextOpen, if_neg (by simp [gOp, hp]), if_neg (by simp [gOp, hp])]
    · dsimp only
      split
      · simp; omega
      · omega
    · rcases List.mem_append.1 ho with ho | ho
      · exact h5 o ho
      · rw [List.mem_singleton.1 ho]; exact hg.2
theorem gInv_fold {s : Scene} : ∀ (l : List Raw) (k : Nat) (st : List Op × List Op), GInv s k st → k + l.length ≤ 9 → GInv s (k + l.length) (l.foldl (gStep (gImages s).length (gCanvas s) (gMax s.bits)) st)
  | [], k, st, h, _ => h
  | r :: l, k, st, h, hk => by
    rw [List.length_cons] at hk ⊢
    have := gInv_fold l (k + 1) _ (gInv_step (r := r) h (by omega)) (by omega)
    rw [show k + (l.length + 1) = k + 1 + l.length by omega]
    exact this
theorem gInv_ops (s : Scene) : GInv s 9 (gOps s) := by
  have h := gInv_fold (s := s) (s.ops.take 9) 0 ([], []) ⟨trivial, rfl, Nat.le_refl _, Nat.le_refl _, fun o ho => by simp at ho⟩ (by rw [List.length_take]; omega)
  have hl : 0 + (s.ops.take 9).length ≤ 9 := by rw [List.length_take]; omega
  exact ⟨h.1, h.2, Nat.le_trans h.3 hl, Nat.le_trans h.4 hl, h.5⟩
structure GGood (s : Scene) (ops : List Op) : Prop where
  ok : okAll (gScript s).bits (gImages s).length ops []
  op : openAfter ops [] = []
  len : ops.length ≤ 18
  tame : ∀ o ∈ ops, OpTame (gMax s.bits) o
theorem gScript_good (s : Scene) : GGood s (gScript s).ops := by
  obtain ⟨h1, h2, h3, h4, h5⟩ := gInv_ops s
  have hm := gMax_u s.bits
  have hp := pops_ok (b := (gScript s).bits) (n := (gImages s).length) (gOps s).2.length (gOps s).2 rfl
  refine ⟨okAll_append.2 ⟨h1, by rw [h2]; exact hp.1⟩, ?_, ?_, fun o ho => ?_⟩
  · show openAfter ((gOps s).1 ++ _) [] = []
    rw [openAfter_append, h2]; exact hp.2
  · show ((gOps s).1 ++ _).length ≤ 18
    rw [List.length_append, List.length_replicate]; omega
  · rcases List.mem_append.1 ho with ho | ho
    · exact h5 o ho
    · rw [(List.mem_replicate.1 ho).2]; exact popTame (by omega)
end Go.Proofs.YtkjdljcbpbeehaaDoor

/- When an operation is fine in its context; the lengths of a generated script. -/
set_option linter.unusedSimpArgs false
set_option linter.unusedVariables false
set_option maxRecDepth 8000
namespace Go.Proofs.YtkjdljcbpbeehaaDoor
open Go Go.SL

theorem opErr_zero {b : Int} {n : Nat} {o : Op} {l : List Op} : opErr b n o l = 0 ↔ (1 ≤ o.kind ∧ o.kind ≤ 3) ∧ fieldsM o = true ∧ (o.kind = 3 → 0 < l.length) ∧
    (o.kind ≠ 3 → ¬ (o.kind = 1 ∧ (o.image < 0 ∨ n ≤ o.image) ∨ o.mask < 0 ∨ n < o.mask) ∧ withinM 1048576 [o.x, o.y, o.maskX, o.maskY] = true ∧ o.opacity ≤ maxOf b ∧ isOp o.operator = true ∧ isOp o.mode = true ∧ (o.operator ≠ 4 → ctxOk l = true) ∧ (o.kind = 2 → l.length < 64)) := by
  unfold opErr
  by_cases h1 : ¬ (1 ≤ o.kind ∧ o.kind ≤ 3)
  · rw [if_pos h1]; exact ⟨fun h => by omega, fun h => absurd h.1 h1⟩
  rw [if_neg h1]
  rw [Decidable.not_not] at h1
  by_cases h2 : fieldsM o = false
  · rw [if_pos h2]; exact ⟨fun h => by omega, fun h => by rw [h2] at h; simp at h⟩
  rw [if_neg h2]
  rw [Bool.not_eq_false] at h2
  by_cases h3 : o.kind = 3
  · by_cases h4 : l.length = 0
    · rw [if_pos ⟨h3, h4⟩]; exact ⟨fun h => by omega, fun h => by have := h.2.2.1 h3; omega⟩
    · rw [if_neg (fun q => h4 q.2), if_pos h3]; exact ⟨fun _ => ⟨h1, h2, fun _ => by omega, fun q => absurd h3 q⟩, fun _ => rfl⟩
  rw [if_neg (fun q => h3 q.1), if_neg h3]
  by_cases h5 : o.kind = 1 ∧ (o.image < 0 ∨ n ≤ o.image) ∨ o.mask < 0 ∨ n < o.mask
  · rw [if_pos h5]; exact ⟨fun h => by omega, fun h => absurd h5 (h.2.2.2 h3).1⟩
  rw [if_neg h5]
  by_cases h6 : withinM 1048576 [o.x, o.y, o.maskX, o.maskY] = false
  · rw [if_pos h6]; exact ⟨fun h => by omega, fun h => by have := (h.2.2.2 h3).2.1; rw [h6] at this; cases this⟩
  rw [if_neg h6]
  rw [Bool.not_eq_false] at h6
  by_cases h7 : maxOf b < o.opacity
  · rw [if_pos h7]; exact ⟨fun h => by omega, fun h => by have := (h.2.2.2 h3).2.2.1; omega⟩
  rw [if_neg h7]
  by_cases h8 : isOp o.operator = false
  · rw [if_pos h8]; exact ⟨fun h => by omega, fun h => by have := (h.2.2.2 h3).2.2.2.1; rw [h8] at this; cases this⟩
  rw [if_neg h8]
  rw [Bool.not_eq_false] at h8
  by_cases h9 : isOp o.mode = false
  · rw [if_pos h9]; exact ⟨fun h => by omega, fun h => by have := (h.2.2.2 h3).2.2.2.2.1; rw [h9] at this; cases this⟩
  rw [if_neg h9]
  rw [Bool.not_eq_false] at h9
  by_cases h10 : o.operator ≠ 4 ∧ ctxOk l = false
  · rw [if_pos h10]; exact ⟨fun h => by omega, fun h => by have := (h.2.2.2 h3).2.2.2.2.2.1 h10.1; rw [h10.2] at this; cases this⟩
  rw [if_neg h10]
  by_cases h11 : o.kind = 2 ∧ 64 ≤ l.length
  · rw [if_pos h11]; exact ⟨fun h => by omega, fun h => by have := (h.2.2.2 h3).2.2.2.2.2.2 h11.1; omega⟩
  rw [if_neg h11]
  exact ⟨fun _ => ⟨h1, h2, fun q => absurd q h3, fun _ => ⟨h5, h6, by omega, h8, h9, fun q => by
    cases hc : ctxOk l with
    | true => rfl
    | false => exact absurd ⟨q, hc⟩ h10, fun q => by
      rcases Nat.lt_or_ge l.length 64 with h | h
      · exact h
      · exact absurd ⟨q, h⟩ h11⟩⟩, fun _ => rfl⟩

theorem gorder_len (s : Scene) : (gScript s).order.length ≤ 64 := by
  have ht := tiles_le s
  show (gPerm s.order _).length ≤ 64
  unfold gPerm
  split
  · exact Nat.zero_le _
  · rw [(permGo_ok (l := s.order) _ 0 _ (iota_len _) (iota_nodup _)).1]
    omega
theorem g_len (s : Scene) {t : Script} (ho : t.order = (gScript s).order) (hi : t.images.length ≤ 64) (hp : t.ops.length ≤ 4096) : ScriptLen t :=
  ⟨by rw [ho]; exact Nat.le_trans (gorder_len s) (by decide), by omega, by omega⟩
theorem gimages_len (s : Scene) : (gScript s).images.length ≤ 64 := by
  have := gImages_le s
  show (gImages s).length ≤ 64
  omega
theorem gops_len (s : Scene) : (gScript s).ops.length ≤ 18 := (gScript_good s).len
theorem gScript_len (s : Scene) : ScriptLen (gScript s) := g_len s rfl (gimages_len s) (Nat.le_trans (gops_len s) (by decide))
end Go.Proofs.YtkjdljcbpbeehaaDoor

/- What the answer OK of the check of the operations says; two lists of operations, their common ends; what lies between two scripts. -/
set_option linter.unusedSimpArgs false
set_option linter.unusedVariables false
set_option maxRecDepth 8000
namespace Go.Proofs.YtkjdljcbpbeehaaDoor
open Go Go.SL

theorem opsGo_zero {b : Int} {n : Nat} : ∀ {ops l : List Op} {i : Nat}, (opsGo b n i ops l).1 = 0 → okAll b n ops l ∧ openAfter ops l = []
  | [], l, i, h => by
    refine ⟨trivial, ?_⟩
    rw [opsGo] at h
    split at h
    · cases h
    · exact (List.eq_nil_of_length_eq_zero (by omega) : l = [])
  | o :: r, l, i, h => by
    rw [opsGo] at h
    split at h
    · rename_i h0
      obtain ⟨h1, h2⟩ := opsGo_zero h
      exact ⟨⟨h0, h1⟩, h2⟩
    · rename_i h0; exact absurd h h0
theorem okAll_at {b : Int} {n : Nat} {ops : List Op} (h : okAll b n ops []) {i : Nat} (hi : i < ops.length) : opErr b n (opAt ops i) (openAfter (ops.take i) []) = 0 := by
  have e : ops = ops.take i ++ ops.drop i := (List.take_append_drop i ops).symm
  rw [e, okAll_append, List.drop_eq_getElem_cons hi] at h
  have : opAt ops i = ops[i] := by rw [opAt, List.getD_eq_getElem?_getD, List.getElem?_eq_getElem hi]; rfl
  rw [this]
  exact h.2.1
theorem open_take {ops : List Op} : ∀ (i : Nat), i ≤ ops.length → openAfter (ops.take i) [] = (stk ops i).reverse.map (opAt ops)
  | 0, _ => rfl
  | i + 1, hi => by
    have ih := open_take (ops := ops) i (by omega)
    have e : opAt ops i = ops[i] := by rw [opAt, List.getD_eq_getElem?_getD, List.getElem?_eq_getElem (by omega)]; rfl
    rw [List.take_add_one, List.getElem?_eq_getElem (by omega), openAfter_append, ih]
    show nextOpen _ ops[i] = _
    rw [← e, nextOpen, stk]
    split
    · rw [List.reverse_cons, List.map_append]; rfl
    split
    · rw [← List.map_dropLast, List.dropLast_reverse]
    · rfl

structure VOps (s : Script) : Prop where
  wf : Wf s.ops
  ok : ∀ i, i < s.ops.length → opErr s.bits s.images.length (opAt s.ops i) ((stk s.ops i).reverse.map (opAt s.ops)) = 0
  imgs : s.images.length ≤ 64
  cnt : s.ops.length ≤ 4096
  frame : frameM s = 0
theorem vops_of {s : Script} (h : (opsM s).1 = 0) : VOps s := by
  rw [opsM] at h
  split at h
  · rename_i hf
    obtain ⟨h1, h2⟩ := opsGo_zero h
    have hl := frameM_ok hf
    have ok : ∀ i, i < s.ops.length → opErr s.bits s.images.length (opAt s.ops i) ((stk s.ops i).reverse.map (opAt s.ops)) = 0 := fun i hi => by
      rw [← open_take i (by omega)]; exact okAll_at h1 hi
    refine ⟨⟨fun i hi => ?_, fun i hi hk he => ?_, ?_⟩, ok, hl.1, hl.2, hf⟩
    · have := (opErr_zero.1 (ok i hi)).1; omega
    · have := (opErr_zero.1 (ok i hi)).2.2.1 hk
      rw [he] at this; simp at this
    · have := open_take (ops := s.ops) s.ops.length (Nat.le_refl _)
      rw [List.take_length, h2] at this
      have := congrArg List.length this
      simp at this
      exact List.eq_nil_of_length_eq_zero this.symm
  · rename_i hf; exact absurd h hf

/-! Two lists -/
def upTo (P : Nat → Bool) : Nat → Nat → Nat
  | 0, k => k
  | f + 1, k => if P k = true then upTo P f (k + 1) else k
theorem upTo_step {P : Nat → Bool} {n k : Nat} (hk : k < n) : upTo P (n - k) k = if P k = true then upTo P (n - (k + 1)) (k + 1) else k := by
  rw [show n - k = (n - (k + 1)) + 1 by omega]; rfl
theorem upTo_ge {P : Nat → Bool} : ∀ (f k : Nat), k ≤ upTo P f k ∧ upTo P f k ≤ k + f ∧ ∀ j, k ≤ j → j < upTo P f k → P j = true
  | 0, k => ⟨Nat.le_refl _, Nat.le_refl _, fun j h1 h2 => absurd h2 (by rw [upTo]; omega)⟩
  | f + 1, k => by
    rw [upTo]
    split
    · rename_i h
      obtain ⟨a, b, c⟩ := upTo_ge (P := P) f (k + 1)
      refine ⟨by omega, by omega, fun j h1 h2 => ?_⟩
      by_cases e : j = k
      · rw [e]; exact h
      · exact c j (by omega) h2
    · exact ⟨Nat.le_refl _, by omega, fun j h1 h2 => by omega⟩
def preM (a b : List Op) : Nat := upTo (fun k => decide (k < a.length ∧ k < b.length ∧ opAt a k = opAt b k)) a.length 0
def sufM (a b : List Op) (p : Nat) : Nat := upTo (fun k => decide (p + k < a.length ∧ p + k < b.length ∧ opAt a (a.length - 1 - k) = opAt b (b.length - 1 - k))) a.length 0
theorem pre_le (a b : List Op) : preM a b ≤ a.length ∧ preM a b ≤ b.length := by
  obtain ⟨h1, h2, h3⟩ := upTo_ge (P := fun k => decide (k < a.length ∧ k < b.length ∧ opAt a k = opAt b k)) a.length 0
  refine ⟨by unfold preM; omega, ?_⟩
  unfold preM
  by_cases h : upTo (fun k => decide (k < a.length ∧ k < b.length ∧ opAt a k = opAt b k)) a.length 0 = 0
  · omega
  · have := h3 (upTo (fun k => decide (k < a.length ∧ k < b.length ∧ opAt a k = opAt b k)) a.length 0 - 1) (by omega) (by omega)
    simp only [decide_eq_true_eq] at this
    omega
theorem suf_le (a b : List Op) {p : Nat} (h1 : p ≤ a.length) (h2 : p ≤ b.length) : p + sufM a b p ≤ a.length ∧ p + sufM a b p ≤ b.length := by
  obtain ⟨q1, q2, h3⟩ := upTo_ge (P := fun k => decide (p + k < a.length ∧ p + k < b.length ∧ opAt a (a.length - 1 - k) = opAt b (b.length - 1 - k))) a.length 0
  unfold sufM
  by_cases h : upTo (fun k => decide (p + k < a.length ∧ p + k < b.length ∧ opAt a (a.length - 1 - k) = opAt b (b.length - 1 - k))) a.length 0 = 0
  · rw [h]; omega
  · have := h3 (upTo (fun k => decide (p + k < a.length ∧ p + k < b.length ∧ opAt a (a.length - 1 - k) = opAt b (b.length - 1 - k))) a.length 0 - 1) (by omega) (by omega)
    simp only [decide_eq_true_eq] at this
    omega
theorem opAt_ext {a b : List Op} (hl : a.length = b.length) (h : ∀ k, k < a.length → opAt a k = opAt b k) : a = b := by
  refine List.ext_getElem hl fun i h1 h2 => ?_
  have := h i h1
  rw [opAt, opAt, List.getD_eq_getElem?_getD, List.getD_eq_getElem?_getD, List.getElem?_eq_getElem h1, List.getElem?_eq_getElem h2] at this
  exact this
theorem upTo_all {P : Nat → Bool} : ∀ (f k : Nat), (∀ j, k ≤ j → j < k + f → P j = true) → upTo P f k = k + f
  | 0, k, h => rfl
  | f + 1, k, h => by
    rw [upTo, if_pos (h k (Nat.le_refl _) (by omega)), upTo_all f (k + 1) fun j h1 h2 => h j (by omega) (by omega)]
    omega
theorem pre_all {a b : List Op} : (preM a b = a.length ∧ preM a b = b.length) ↔ a = b := by
  refine ⟨fun ⟨h1, h2⟩ => opAt_ext (by omega) fun k hk => ?_, fun h => ?_⟩
  · obtain ⟨_, _, h3⟩ := upTo_ge (P := fun k => decide (k < a.length ∧ k < b.length ∧ opAt a k = opAt b k)) a.length 0
    have := h3 k (by omega) (by unfold preM at h1; omega)
    simp only [decide_eq_true_eq] at this
    exact this.2.2
  · subst h
    have : preM a a = a.length := by
      unfold preM
      rw [upTo_all _ _ fun j _ hj => by simp only [decide_eq_true_eq]; exact ⟨by omega, by omega, trivial⟩]
      omega
    exact ⟨this, this⟩

def sizesM (s t : Script) : Bool := decide (s.bits = t.bits ∧ s.canvas = t.canvas ∧ s.images.length = t.images.length) &&
  (List.range s.images.length).all fun i => decide ((s.images.getD i default).w = (t.images.getD i default).w ∧ (s.images.getD i default).h = (t.images.getD i default).h)
def touchedM (s : Script) (p q : Nat) : List Rect := (List.range' p (s.ops.length - q - p)).map (boxesM s) ++ (stk s.ops p).reverse.map (boxesM s)
def changedM (s : Script) (p q : Nat) : List Rect :=
  ((List.range s.ops.length).filter fun i => decide (p ≤ i ∧ i < s.ops.length - q ∨ i < p ∧ (opAt s.ops i).kind = 2 ∧ p ≤ endsM s.ops i)).map (boxesM s)
def betweenM (s t : Script) : Rect × Int :=
  if (opsM s).1 ≠ 0 then (zeroR, (opsM s).1) else if (opsM t).1 ≠ 0 then (zeroR, (opsM t).1) else if sizesM s t = false then (zeroR, 20) else if s.ops = t.ops then (zeroR, 0)
  else (hullM (touchedM s (preM s.ops t.ops) (sufM s.ops t.ops (preM s.ops t.ops)) ++ touchedM t (preM s.ops t.ops) (sufM s.ops t.ops (preM s.ops t.ops))), 0)

theorem mem_changed {s : Script} (W : Wf s.ops) {p q : Nat} (h : p + q ≤ s.ops.length) (r : Rect) : r ∈ changedM s p q ↔ r ∈ touchedM s p q := by
  unfold changedM touchedM
  simp only [List.mem_append, List.mem_map, List.mem_filter, List.mem_range, List.mem_range'_1, List.mem_reverse, decide_eq_true_eq]
  refine ⟨fun ⟨i, ⟨h1, h2⟩, h3⟩ => ?_, fun h => ?_⟩
  · rcases h2 with h2 | ⟨h2, h4, h5⟩
    · exact .inl ⟨i, by omega, h3⟩
    · exact .inr ⟨i, (open_iff W (by omega) h2).2 ⟨h4, h5⟩, h3⟩
  · rcases h with ⟨i, h1, h3⟩ | ⟨i, h1, h3⟩
    · exact ⟨i, ⟨by omega, .inl (by omega)⟩, h3⟩
    · have hlt := stk_lt h1
      obtain ⟨h4, h5⟩ := (open_iff W (by omega) hlt).1 h1
      exact ⟨i, ⟨by omega, .inr ⟨hlt, h4, h5⟩⟩, h3⟩
theorem hull_changed {s t : Script} (W : Wf s.ops) (V : Wf t.ops) {p q : Nat} (h : p + q ≤ s.ops.length) (h2 : p + q ≤ t.ops.length) :
    hullM (changedM s p q ++ changedM t p q) = hullM (touchedM s p q ++ touchedM t p q) := by
  refine hull_ext fun r => ?_
  unfold InL
  rw [List.mem_append, List.mem_append, mem_changed W h, mem_changed V h2]
end Go.Proofs.YtkjdljcbpbeehaaDoor

/- The ends of the groups, as the reference computes them. -/
set_option linter.unusedSimpArgs false
set_option linter.unusedVariables false
set_option maxRecDepth 8000
set_option maxHeartbeats 1000000
namespace Go.Proofs.YtkjdljcbpbeehaaDoor
open Go Go.SL
open Go.RowKit (wrap64)

/-- A list of numbers that are given by a function. -/
def natsF (n : Nat) (f : Nat → Nat) : PV := .lst 1 n (fun a _ => PI (f a))
attribute [go_sem] natsF
theorem pred_cast2 {n : Nat} : (((n + 1 : Nat) : Int) - 1) = (n : Int) := by omega
attribute [local go_sem] pred_cast2 Int.toNat_natCast
/-- A stack in a slice, the top last, with what is left behind it. -/
def stF (l junk : List Nat) (a : Nat) : Nat := (l.reverse ++ junk).getD a 0
theorem stF_top {p : Nat} {t junk : List Nat} : stF (p :: t) junk t.length = p := by
  rw [stF, List.reverse_cons, List.append_assoc, List.getD_eq_getElem?_getD, List.getElem?_append_right (by simp)]
  simp
theorem stF_pop {p : Nat} {t junk : List Nat} : stF (p :: t) junk = stF t (p :: junk) := by
  funext a; rw [stF, stF, List.reverse_cons, List.append_assoc]; rfl
theorem stF_old {l : List Nat} {i a : Nat} {junk : List Nat} (h : a < l.length) : stF (i :: l) [] a = stF l junk a := by
  rw [stF, stF, List.reverse_cons, List.append_nil, List.getD_eq_getElem?_getD, List.getD_eq_getElem?_getD, List.getElem?_append_left (by simpa using h), List.getElem?_append_left (by simpa using h)]
theorem stk_len (ops : List Op) : ∀ i, (stk ops i).length ≤ i
  | 0 => Nat.le_refl _
  | i + 1 => by
    have := stk_len ops i
    rw [stk]
    split
    · simp; omega
    split
    · rw [List.length_tail]; omega
    · omega
attribute [local go_sem] stF_top
theorem ends_spec (s : Script) (V : VOps s) : Pure Sg 63 [.c (.p (opL s.ops))] (fun x => x = .tup [.c (.p (natsF s.ops.length (endsM s.ops))), I 0]) := by
  have hn := V.cnt
  have W := V.wf
  refine pure_of Tryd.func63 rfl (rs := [.tmp 2, .tmp 3]) rfl rfl mixed (by decide +kernel) (Nat.le_of_ble_eq_true rfl) (argsLt_mem (by simp (maxSteps := 1000000) (disch := omega) only [go_sem])) ?_
  repeat' (first | refine cw_assoc ?_ | refine cw_skips ?_ | refine cw_labels ?_ | ((first | refine cw_step (fun K hK => ?_) | refine cw_last (fun K hK => ?_) | refine cw_stepD (by decide +kernel) (by decide +kernel) (fun K hK => ?_) | refine cw_lastD (by decide +kernel) (by decide +kernel) (fun K hK => ?_) | refine rgB_some ?_); (try simp (maxSteps := 1000000) (disch := omega) only [go_sem]); (repeat' (refine And.intro ?_ ?_)); (all_goals first | (refine hK _ ?_; clear hK K) | exact auto_cl | skip)) | ((first | apply cw_ite | apply cw_iteN); (case hf => rfl); (case hc => simp (maxSteps := 1000000) (disch := omega) only [go_sem]; rfl); (all_goals first | (intro hb; (try simp only [decide_eq_true_eq, decide_eq_false_iff_not, beq_iff_eq, beq_eq_false_iff_ne, bne_iff_ne, bne_eq_false_iff_eq, ne_eq, Bool.not_eq_true, Bool.not_eq_false, Bool.not_true, Bool.not_false, Bool.not_eq_eq_eq_not, Int.not_lt, Int.not_le, gt_iff_lt, ge_iff_le, Bool.cond_eq_ite, Bool.if_false_right, Bool.if_true_left, Bool.and_eq_true, Bool.or_eq_true, Bool.and_eq_false_imp, Bool.or_eq_false_iff, Decidable.not_not, beq_true, beq_false, iteT, iteF, cond_true, cond_false] at hb)) | skip)) | exact atN_intro | ((first | apply cw_if | apply cw_cond); (case hc => simp (maxSteps := 1000000) (disch := omega) only [go_sem]; rfl); (all_goals (intro hb; (try simp only [decide_eq_true_eq, decide_eq_false_iff_not, beq_iff_eq, beq_eq_false_iff_ne, bne_iff_ne, bne_eq_false_iff_eq, ne_eq, Bool.not_eq_true, Bool.not_eq_false, Bool.not_true, Bool.not_false, Bool.not_eq_eq_eq_not, Int.not_lt, Int.not_le, gt_iff_lt, ge_iff_le, Bool.cond_eq_ite, Bool.if_false_right, Bool.if_true_left, Bool.and_eq_true, Bool.or_eq_true, Bool.and_eq_false_imp, Bool.or_eq_false_iff, Decidable.not_not, beq_true, beq_false, iteT, iteF, cond_true, cond_false] at hb); try (exfalso; omega)))) | (refine cw_blocks (fun KB hB => ?_)) | (refine cw_block ?_) | ((first | refine cw_exits ?_ | refine cw_exit ?_ | refine cw_skip ?_); simp (maxSteps := 1000000) (disch := omega) only [go_sem]) | (refine hB _ ?_; clear hB KB) | (refine exit_by (S := Sg) (by assumption) ?_) | ((first | refine cw_rets ?_ | refine cw_ret ?_); simp (maxSteps := 1000000) (disch := omega) only [go_sem]; (try clear hB KB); (try clear hK K)))
  refine cw_loop (X := Nat × List Nat) (fun x => mkSt [(0, .b (.c (.p (opL s.ops)))), (2, .b (.c (.p (.val (.slice none 0 0))))), (3, .b (I 0)), (4, .b (.c (.own 0 s.ops.length))), (5, .b (.c (.own 1 (stk s.ops x.1).length))), (6, .b (I x.1))]
    [(0, .arr 3 1 s.ops.length (fun a _ => PI (eAt s.ops x.1 a))), (1, .arr 3 1 ((stk s.ops x.1).length + x.2.length) (fun a _ => PI (stF (stk s.ops x.1) x.2 a)))] 2)
    (fun x => x.1 ≤ s.ops.length) (fun x => s.ops.length - x.1) (0, []) ?_ ?_ ?_
  · exact Nat.zero_le _
  · refine le_of [(1, none)] rfl (by decide) rfl ?_ ?_
    all_goals simp (maxSteps := 1000000) (disch := omega) only [go_sem]
    repeat' (refine And.intro ?_ ?_)
    all_goals first | rfl | omega | exact .inl rfl | trivial | skip
    refine .inr fun a ha j hj => ?_
    have h2 : j = 0 := by omega
    subst h2
    exact fun _ _ _ h => h
  · rintro ⟨i, junk⟩ hi
    dsimp only at hi ⊢
    have hsl := stk_len s.ops i
    rcases Nat.lt_or_ge i s.ops.length with hlt | hge
    · rcases W.kinds i hlt with hk | hk | hk
      · have hk2 : (s.ops.getD i default).kind = 1 := hk
        repeat' (first | refine cw_assoc ?_ | refine cw_skips ?_ | refine cw_labels ?_ | ((first | refine cw_step (fun K hK => ?_) | refine cw_last (fun K hK => ?_) | refine cw_stepD (by decide +kernel) (by decide +kernel) (fun K hK => ?_) | refine cw_lastD (by decide +kernel) (by decide +kernel) (fun K hK => ?_) | refine rgB_some ?_); (try simp (maxSteps := 1000000) (disch := omega) only [go_sem]); (repeat' (refine And.intro ?_ ?_)); (all_goals first | (refine hK _ ?_; clear hK K) | exact auto_cl | skip)) | ((first | apply cw_ite | apply cw_iteN); (case hf => rfl); (case hc => simp (maxSteps := 1000000) (disch := omega) only [go_sem]; rfl); (all_goals first | (intro hb; (try simp only [decide_eq_true_eq, decide_eq_false_iff_not, beq_iff_eq, beq_eq_false_iff_ne, bne_iff_ne, bne_eq_false_iff_eq, ne_eq, Bool.not_eq_true, Bool.not_eq_false, Bool.not_true, Bool.not_false, Bool.not_eq_eq_eq_not, Int.not_lt, Int.not_le, gt_iff_lt, ge_iff_le, Bool.cond_eq_ite, Bool.if_false_right, Bool.if_true_left, Bool.and_eq_true, Bool.or_eq_true, Bool.and_eq_false_imp, Bool.or_eq_false_iff, Decidable.not_not, beq_true, beq_false, iteT, iteF, cond_true, cond_false] at hb)) | skip)) | exact atN_intro | ((first | apply cw_if | apply cw_cond); (case hc => simp (maxSteps := 1000000) (disch := omega) only [go_sem]; rfl); (all_goals (intro hb; (try simp only [decide_eq_true_eq, decide_eq_false_iff_not, beq_iff_eq, beq_eq_false_iff_ne, bne_iff_ne, bne_eq_false_iff_eq, ne_eq, Bool.not_eq_true, Bool.not_eq_false, Bool.not_true, Bool.not_false, Bool.not_eq_eq_eq_not, Int.not_lt, Int.not_le, gt_iff_lt, ge_iff_le, Bool.cond_eq_ite, Bool.if_false_right, Bool.if_true_left, Bool.and_eq_true, Bool.or_eq_true, Bool.and_eq_false_imp, Bool.or_eq_false_iff, Decidable.not_not, beq_true, beq_false, iteT, iteF, cond_true, cond_false] at hb); try (exfalso; omega)))) | (refine cw_blocks (fun KB hB => ?_)) | (refine cw_block ?_) | ((first | refine cw_exits ?_ | refine cw_exit ?_ | refine cw_skip ?_); simp (maxSteps := 1000000) (disch := omega) only [go_sem]) | (refine hB _ ?_; clear hB KB) | (refine exit_by (S := Sg) (by assumption) ?_) | ((first | refine cw_rets ?_ | refine cw_ret ?_); simp (maxSteps := 1000000) (disch := omega) only [go_sem]; (try clear hB KB); (try clear hK K)))
        rw [thenQ_normal]
        refine wk_loop (i + 1, junk) ?_ (by dsimp only; omega) (by dsimp only; omega)
        dsimp only
        rw [stk_draw hk]
        refine le_of [(1, some 1)] rfl (by decide) rfl ?_ ?_
        all_goals simp (maxSteps := 1000000) (disch := omega) only [go_sem]
        repeat' (refine And.intro ?_ ?_)
        all_goals first | rfl | omega | exact .inl rfl | trivial | skip
        refine .inr fun a ha j hj => ?_
        have h2 : j = 0 := by omega
        subst h2
        by_cases e : a = i
        · rw [if_pos e, if_pos (by omega), e, eAt, if_neg (by omega), upd_self]; exact fun _ _ _ h => h
        · rw [if_neg e, eAt, if_neg (by omega), upd_ne _ _ e]; exact fun _ _ _ h => h
      · have hk2 : (s.ops.getD i default).kind = 2 := hk
        repeat' (first | refine cw_assoc ?_ | refine cw_skips ?_ | refine cw_labels ?_ | ((first | refine cw_step (fun K hK => ?_) | refine cw_last (fun K hK => ?_) | refine cw_stepD (by decide +kernel) (by decide +kernel) (fun K hK => ?_) | refine cw_lastD (by decide +kernel) (by decide +kernel) (fun K hK => ?_) | refine rgB_some ?_); (try simp (maxSteps := 1000000) (disch := omega) only [go_sem]); (repeat' (refine And.intro ?_ ?_)); (all_goals first | (refine hK _ ?_; clear hK K) | exact auto_cl | skip)) | ((first | apply cw_ite | apply cw_iteN); (case hf => rfl); (case hc => simp (maxSteps := 1000000) (disch := omega) only [go_sem]; rfl); (all_goals first | (intro hb; (try simp only [decide_eq_true_eq, decide_eq_false_iff_not, beq_iff_eq, beq_eq_false_iff_ne, bne_iff_ne, bne_eq_false_iff_eq, ne_eq, Bool.not_eq_true, Bool.not_eq_false, Bool.not_true, Bool.not_false, Bool.not_eq_eq_eq_not, Int.not_lt, Int.not_le, gt_iff_lt, ge_iff_le, Bool.cond_eq_ite, Bool.if_false_right, Bool.if_true_left, Bool.and_eq_true, Bool.or_eq_true, Bool.and_eq_false_imp, Bool.or_eq_false_iff, Decidable.not_not, beq_true, beq_false, iteT, iteF, cond_true, cond_false] at hb)) | skip)) | exact atN_intro | ((first | apply cw_if | apply cw_cond); (case hc => simp (maxSteps := 1000000) (disch := omega) only [go_sem]; rfl); (all_goals (intro hb; (try simp only [decide_eq_true_eq, decide_eq_false_iff_not, beq_iff_eq, beq_eq_false_iff_ne, bne_iff_ne, bne_eq_false_iff_eq, ne_eq, Bool.not_eq_true, Bool.not_eq_false, Bool.not_true, Bool.not_false, Bool.not_eq_eq_eq_not, Int.not_lt, Int.not_le, gt_iff_lt, ge_iff_le, Bool.cond_eq_ite, Bool.if_false_right, Bool.if_true_left, Bool.and_eq_true, Bool.or_eq_true, Bool.and_eq_false_imp, Bool.or_eq_false_iff, Decidable.not_not, beq_true, beq_false, iteT, iteF, cond_true, cond_false] at hb); try (exfalso; omega)))) | (refine cw_blocks (fun KB hB => ?_)) | (refine cw_block ?_) | ((first | refine cw_exits ?_ | refine cw_exit ?_ | refine cw_skip ?_); simp (maxSteps := 1000000) (disch := omega) only [go_sem]) | (refine hB _ ?_; clear hB KB) | (refine exit_by (S := Sg) (by assumption) ?_) | ((first | refine cw_rets ?_ | refine cw_ret ?_); simp (maxSteps := 1000000) (disch := omega) only [go_sem]; (try clear hB KB); (try clear hK K)))
        rw [thenQ_normal]
        refine wk_loop (i + 1, []) ?_ (by dsimp only; omega) (by dsimp only; omega)
        dsimp only
        rw [stk_push hk]
        refine le_of [(1, some 3)] rfl (by decide) rfl ?_ ?_
        all_goals simp (maxSteps := 1000000) (disch := omega) only [go_sem]
        repeat' (refine And.intro ?_ ?_)
        all_goals first | rfl | omega | exact .inl rfl | trivial | skip
        · refine .inr fun a ha j hj => ?_
          have h2 : j = 0 := by omega
          subst h2
          by_cases e : a = i
          · rw [if_pos e, if_pos (by omega), e, eAt, if_neg (by omega), upd_self]; exact fun _ _ _ h => h
          · rw [if_neg e, eAt, if_neg (by omega), upd_ne _ _ e]; exact fun _ _ _ h => h
        refine .inr fun a ha j hj => ?_
        have h2 : j = 0 := by omega
        subst h2
        unfold appF
        by_cases h : a < (stk s.ops i).length
        · rw [if_pos h, stF_old h]; exact fun _ _ _ h => h
        · have ea : a = (stk s.ops i).length := by omega
          rw [if_neg h, ea, stF_top, Nat.sub_self]; exact fun _ _ _ h => h
      · have hk2 : (s.ops.getD i default).kind = 3 := hk
        cases hs : stk s.ops i with
        | nil => exact absurd hs (W.pops i hlt hk)
        | cons p t =>
          have hp : p < i := stk_lt (ops := s.ops) (by rw [hs]; exact List.mem_cons_self ..)
          have htl : t.length ≤ 4096 := by rw [hs] at hsl; simp at hsl; omega
          repeat' (first | refine cw_assoc ?_ | refine cw_skips ?_ | refine cw_labels ?_ | ((first | refine cw_step (fun K hK => ?_) | refine cw_last (fun K hK => ?_) | refine cw_stepD (by decide +kernel) (by decide +kernel) (fun K hK => ?_) | refine cw_lastD (by decide +kernel) (by decide +kernel) (fun K hK => ?_) | refine rgB_some ?_); (try simp (maxSteps := 1000000) (disch := omega) only [go_sem]); (repeat' (refine And.intro ?_ ?_)); (all_goals first | (refine hK _ ?_; clear hK K) | exact auto_cl | skip)) | ((first | apply cw_ite | apply cw_iteN); (case hf => rfl); (case hc => simp (maxSteps := 1000000) (disch := omega) only [go_sem]; rfl); (all_goals first | (intro hb; (try simp only [decide_eq_true_eq, decide_eq_false_iff_not, beq_iff_eq, beq_eq_false_iff_ne, bne_iff_ne, bne_eq_false_iff_eq, ne_eq, Bool.not_eq_true, Bool.not_eq_false, Bool.not_true, Bool.not_false, Bool.not_eq_eq_eq_not, Int.not_lt, Int.not_le, gt_iff_lt, ge_iff_le, Bool.cond_eq_ite, Bool.if_false_right, Bool.if_true_left, Bool.and_eq_true, Bool.or_eq_true, Bool.and_eq_false_imp, Bool.or_eq_false_iff, Decidable.not_not, beq_true, beq_false, iteT, iteF, cond_true, cond_false] at hb)) | skip)) | exact atN_intro | ((first | apply cw_if | apply cw_cond); (case hc => simp (maxSteps := 1000000) (disch := omega) only [go_sem]; rfl); (all_goals (intro hb; (try simp only [decide_eq_true_eq, decide_eq_false_iff_not, beq_iff_eq, beq_eq_false_iff_ne, bne_iff_ne, bne_eq_false_iff_eq, ne_eq, Bool.not_eq_true, Bool.not_eq_false, Bool.not_true, Bool.not_false, Bool.not_eq_eq_eq_not, Int.not_lt, Int.not_le, gt_iff_lt, ge_iff_le, Bool.cond_eq_ite, Bool.if_false_right, Bool.if_true_left, Bool.and_eq_true, Bool.or_eq_true, Bool.and_eq_false_imp, Bool.or_eq_false_iff, Decidable.not_not, beq_true, beq_false, iteT, iteF, cond_true, cond_false] at hb); try (exfalso; omega)))) | (refine cw_blocks (fun KB hB => ?_)) | (refine cw_block ?_) | ((first | refine cw_exits ?_ | refine cw_exit ?_ | refine cw_skip ?_); simp (maxSteps := 1000000) (disch := omega) only [go_sem]) | (refine hB _ ?_; clear hB KB) | (refine exit_by (S := Sg) (by assumption) ?_) | ((first | refine cw_rets ?_ | refine cw_ret ?_); simp (maxSteps := 1000000) (disch := omega) only [go_sem]; (try clear hB KB); (try clear hK K)))
          rw [thenQ_normal]
          refine wk_loop (i + 1, p :: junk) ?_ (by dsimp only; omega) (by dsimp only; omega)
          dsimp only
          rw [stk_pop hk, hs]
          refine le_of [(1, some 1)] rfl (by decide) rfl ?_ ?_
          all_goals simp (maxSteps := 1000000) (disch := omega) only [go_sem]
          repeat' (refine And.intro ?_ ?_)
          all_goals first | rfl | omega | exact .inl rfl | trivial | skip
          · refine .inr fun a ha j hj => ?_
            have h2 : j = 0 := by omega
            subst h2
            rw [eAt, if_pos hk, hs]
            dsimp only [List.headD]
            by_cases e : a = p
            · rw [if_pos e, e, upd_self]; exact fun _ _ _ h => h
            · rw [if_neg e, upd_ne _ _ e]
              by_cases e2 : a = i
              · rw [if_pos e2, e2, upd_self]; exact fun _ _ _ h => h
              · rw [if_neg e2, upd_ne _ _ e2]; exact fun _ _ _ h => h
          · show _ = t.length + (junk.length + 1); omega
          · exact .inl (by rw [stF_pop]; rfl)
    · have hi2 : i = s.ops.length := by omega
      subst hi2
      rw [W.fin]
      repeat' (first | refine cw_assoc ?_ | refine cw_skips ?_ | refine cw_labels ?_ | ((first | refine cw_step (fun K hK => ?_) | refine cw_last (fun K hK => ?_) | refine cw_stepD (by decide +kernel) (by decide +kernel) (fun K hK => ?_) | refine cw_lastD (by decide +kernel) (by decide +kernel) (fun K hK => ?_) | refine rgB_some ?_); (try simp (maxSteps := 1000000) (disch := omega) only [go_sem]); (repeat' (refine And.intro ?_ ?_)); (all_goals first | (refine hK _ ?_; clear hK K) | exact auto_cl | skip)) | ((first | apply cw_ite | apply cw_iteN); (case hf => rfl); (case hc => simp (maxSteps := 1000000) (disch := omega) only [go_sem]; rfl); (all_goals first | (intro hb; (try simp only [decide_eq_true_eq, decide_eq_false_iff_not, beq_iff_eq, beq_eq_false_iff_ne, bne_iff_ne, bne_eq_false_iff_eq, ne_eq, Bool.not_eq_true, Bool.not_eq_false, Bool.not_true, Bool.not_false, Bool.not_eq_eq_eq_not, Int.not_lt, Int.not_le, gt_iff_lt, ge_iff_le, Bool.cond_eq_ite, Bool.if_false_right, Bool.if_true_left, Bool.and_eq_true, Bool.or_eq_true, Bool.and_eq_false_imp, Bool.or_eq_false_iff, Decidable.not_not, beq_true, beq_false, iteT, iteF, cond_true, cond_false] at hb)) | skip)) | exact atN_intro | ((first | apply cw_if | apply cw_cond); (case hc => simp (maxSteps := 1000000) (disch := omega) only [go_sem]; rfl); (all_goals (intro hb; (try simp only [decide_eq_true_eq, decide_eq_false_iff_not, beq_iff_eq, beq_eq_false_iff_ne, bne_iff_ne, bne_eq_false_iff_eq, ne_eq, Bool.not_eq_true, Bool.not_eq_false, Bool.not_true, Bool.not_false, Bool.not_eq_eq_eq_not, Int.not_lt, Int.not_le, gt_iff_lt, ge_iff_le, Bool.cond_eq_ite, Bool.if_false_right, Bool.if_true_left, Bool.and_eq_true, Bool.or_eq_true, Bool.and_eq_false_imp, Bool.or_eq_false_iff, Decidable.not_not, beq_true, beq_false, iteT, iteF, cond_true, cond_false] at hb); try (exfalso; omega)))) | (refine cw_blocks (fun KB hB => ?_)) | (refine cw_block ?_) | ((first | refine cw_exits ?_ | refine cw_exit ?_ | refine cw_skip ?_); simp (maxSteps := 1000000) (disch := omega) only [go_sem]) | (refine hB _ ?_; clear hB KB) | (refine exit_by (S := Sg) (by assumption) ?_) | ((first | refine cw_rets ?_ | refine cw_ret ?_); simp (maxSteps := 1000000) (disch := omega) only [go_sem]; (try clear hB KB); (try clear hK K)))
      rfl
end Go.Proofs.YtkjdljcbpbeehaaDoor
