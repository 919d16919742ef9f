/- Part 4 of the proof: E3, E4, E5, E6. -/
import Derived.Test.YtkjdljcbpbeehaaDoorM0
import Derived.Test.YtkjdljcbpbeehaaDoorM1
import Derived.Test.YtkjdljcbpbeehaaDoorM2
import Derived.Test.YtkjdljcbpbeehaaDoorM3
/- The walks of the questions that the rules ask of a view. -/
set_option linter.unusedSimpArgs false
set_option linter.unusedVariables false
set_option maxRecDepth 8000
set_option maxHeartbeats 2000000
namespace Go.Proofs.YtkjdljcbpbeehaaDoor
open Go Go.SL
open Go.RowKit (wrap64)

theorem op_rng {s : Script} (V : VOps s) {i : Nat} (hi : i < s.ops.length) : (0 ≤ (opAt s.ops i).mask ∧ (opAt s.ops i).mask ≤ s.images.length) ∧ ((opAt s.ops i).kind = 1 → 0 ≤ (opAt s.ops i).image ∧ (opAt s.ops i).image < s.images.length) := by
  have h := opErr_zero.1 (V.ok i hi)
  by_cases h3 : (opAt s.ops i).kind = 3
  · have hf := h.2.1
    rw [fieldsM, if_pos h3, decide_eq_true_eq] at hf
    refine ⟨by omega, fun h => by omega⟩
  · have := (h.2.2.2 h3).1
    refine ⟨by omega, fun h => by omega⟩
theorem grp_lt (ops : List Op) {i : Nat} (h : i < ops.length) : -1 ≤ grpM ops i ∧ grpM ops i < ops.length := by
  unfold grpM
  split
  · rename_i hk
    have e : topAt ops (i + 1) < i := by
      cases hs : stk ops i with
      | nil => rw [topAt_nil (by rw [stk_pop hk, hs]; rfl)]; omega
      | cons p t =>
        have h1 : stk ops (i + 1) = t := by rw [stk_pop hk, hs]; rfl
        cases ht : t with
        | nil => rw [topAt_nil (by rw [h1, ht])]; omega
        | cons q r =>
          have hq : q < i := stk_lt (ops := ops) (by rw [hs, ht]; exact List.mem_cons_of_mem _ (List.mem_cons_self ..))
          rw [topAt_cons (by rw [h1, ht])]; omega
    have := topAt_lt ops (i + 1)
    omega
  · have := topAt_lt ops i
    omega
theorem vb {x y : Bool} (h : x = y) : SV.b (BV.c (CV.p (PV.val (Value.bool x)))) = .b (B y) := by rw [h]
theorem kbeq (n m : Nat) : ((n : Int) == (m : Int)) = decide (n = m) := by
  by_cases h : n = m
  · rw [h, decide_eq_true rfl]; exact beq_self_eq_true _
  · rw [decide_eq_false h]; exact beq_eq_false_iff_ne.2 (by omega)
attribute [local go_sem] Int.toNat_natCast vP vf0 vf1 vf2 vf3 vf4 vf5 vf6 vf7 vf8 vf9 vf10 vf11 vf12 vf13 vf14
theorem frame_sp (s : Script) (V : VOps s) (i : Nat) (hi : i < s.ops.length) : Pure Sg 120 [vP s, I i] (fun x => x = .tup [B (isoM s i), B (koM s i)]) := by
  have hn := V.cnt
  have hg := grp_lt s.ops hi
  refine pure_of Tryd.func120 rfl (rs := [.tmp 4, .tmp 5]) rfl rfl mixed (by decide +kernel) (Nat.le_of_ble_eq_true rfl) (argsLt_mem (by simp (maxSteps := 1000000) (disch := omega) only [go_sem])) ?_
  repeat' (first | refine cw_assoc ?_ | refine cw_skips ?_ | refine cw_labels ?_ | ((first | refine cw_step (fun K hK => ?_) | refine cw_last (fun K hK => ?_) | refine cw_stepD (by decide +kernel) (by decide +kernel) (fun K hK => ?_) | refine cw_lastD (by decide +kernel) (by decide +kernel) (fun K hK => ?_) | refine rgB_some ?_); (try simp (maxSteps := 1000000) (disch := omega) only [go_sem]); (repeat' (refine And.intro ?_ ?_)); (all_goals first | (refine hK _ ?_; clear hK K) | exact auto_cl | skip)) | ((first | apply cw_ite | apply cw_iteN); (case hf => rfl); (case hc => simp (maxSteps := 1000000) (disch := omega) only [go_sem]; rfl); (all_goals first | (intro hb; (try simp only [hbs] at hb)) | skip)) | exact atN_intro | ((first | apply cw_if | apply cw_cond); (case hc => simp (maxSteps := 1000000) (disch := omega) only [go_sem]; rfl); (all_goals (intro hb; (try simp only [hbs] at hb); try (exfalso; omega)))) | (refine cw_blocks (fun KB hB => ?_)) | (refine cw_block ?_) | ((first | refine cw_exits ?_ | refine cw_exit ?_ | refine cw_skip ?_); simp (maxSteps := 1000000) (disch := omega) only [go_sem]) | (refine hB _ ?_; clear hB KB) | (refine exit_by (S := Sg) (by assumption) ?_) | ((first | refine cw_rets ?_ | refine cw_ret ?_); simp (maxSteps := 1000000) (disch := omega) only [go_sem]; (try clear hB KB); (try clear hK K)))
  · rw [isoM, koM, decide_eq_false (by omega)]; rfl
  · rw [isoM, koM, decide_eq_true hb]; rfl
theorem plain_sp (s : Script) (V : VOps s) (i : Nat) (hi : i < s.ops.length) : Pure Sg 116 [vP s, I i] (fun x => x = .b (B (plnM s i))) := by
  have h1 := frame_sp s V i hi
  refine pure_of Tryd.func116 rfl (rs := [.tmp 4]) rfl rfl mixed (by decide +kernel) (Nat.le_of_ble_eq_true rfl) (argsLt_mem (by simp (maxSteps := 1000000) (disch := omega) only [go_sem])) ?_
  repeat' (first | refine cw_assoc ?_ | refine cw_skips ?_ | refine cw_labels ?_ | ((first | refine cw_step (fun K hK => ?_) | refine cw_last (fun K hK => ?_) | refine cw_stepD (by decide +kernel) (by decide +kernel) (fun K hK => ?_) | refine cw_lastD (by decide +kernel) (by decide +kernel) (fun K hK => ?_) | refine rgB_some ?_ | refine call_a (h1) ?_ | refine gcall_a (fun hg => h1) ?_); (try simp (maxSteps := 1000000) (disch := omega) only [go_sem]); (repeat' (refine And.intro ?_ ?_)); (all_goals first | (refine hK _ ?_; clear hK K) | exact auto_cl | skip)) | ((first | apply cw_ite | apply cw_iteN); (case hf => rfl); (case hc => simp (maxSteps := 1000000) (disch := omega) only [go_sem]; rfl); (all_goals first | (intro hb; (try simp only [hbs] at hb)) | skip)) | exact atN_intro | ((first | apply cw_if | apply cw_cond); (case hc => simp (maxSteps := 1000000) (disch := omega) only [go_sem]; rfl); (all_goals (intro hb; (try simp only [hbs] at hb); try (exfalso; omega)))) | (refine cw_blocks (fun KB hB => ?_)) | (refine cw_block ?_) | ((first | refine cw_exits ?_ | refine cw_exit ?_ | refine cw_skip ?_); simp (maxSteps := 1000000) (disch := omega) only [go_sem]) | (refine hB _ ?_; clear hB KB) | (refine exit_by (S := Sg) (by assumption) ?_) | ((first | refine cw_rets ?_ | refine cw_ret ?_); simp (maxSteps := 1000000) (disch := omega) only [go_sem]; (try clear hB KB); (try clear hK K)))
  rfl
theorem unscaled_sp (s : Script) (o : Op) : Pure Sg 122 [vP s, ag (opE o)] (fun x => x = .b (B (unscM s o))) := by
  refine pure_of Tryd.func122 rfl (rs := [.tmp 4]) rfl rfl mixed (by decide +kernel) (Nat.le_of_ble_eq_true rfl) (argsLt_mem (by simp (maxSteps := 1000000) (disch := omega) only [go_sem])) ?_
  repeat' (first | refine cw_assoc ?_ | refine cw_skips ?_ | refine cw_labels ?_ | ((first | refine cw_step (fun K hK => ?_) | refine cw_last (fun K hK => ?_) | refine cw_stepD (by decide +kernel) (by decide +kernel) (fun K hK => ?_) | refine cw_lastD (by decide +kernel) (by decide +kernel) (fun K hK => ?_) | refine rgB_some ?_); (try simp (maxSteps := 1000000) (disch := omega) only [go_sem]); (repeat' (refine And.intro ?_ ?_)); (all_goals first | (refine hK _ ?_; clear hK K) | exact auto_cl | skip)) | ((first | apply cw_ite | apply cw_iteN); (case hf => rfl); (case hc => simp (maxSteps := 1000000) (disch := omega) only [go_sem]; rfl); (all_goals first | (intro hb; (try simp only [hbs] at hb)) | skip)) | exact atN_intro | ((first | apply cw_if | apply cw_cond); (case hc => simp (maxSteps := 1000000) (disch := omega) only [go_sem]; rfl); (all_goals (intro hb; (try simp only [hbs] at hb); try (exfalso; omega)))) | (refine cw_blocks (fun KB hB => ?_)) | (refine cw_block ?_) | ((first | refine cw_exits ?_ | refine cw_exit ?_ | refine cw_skip ?_); simp (maxSteps := 1000000) (disch := omega) only [go_sem]) | (refine hB _ ?_; clear hB KB) | (refine exit_by (S := Sg) (by assumption) ?_) | ((first | refine cw_rets ?_ | refine cw_ret ?_); simp (maxSteps := 1000000) (disch := omega) only [go_sem]; (try clear hB KB); (try clear hK K)))
  rfl
theorem solidMask_sp (s : Script) (V : VOps s) (o : Op) (ho : 0 ≤ o.mask ∧ o.mask ≤ s.images.length) : Pure Sg 134 [vP s, ag (opE o)] (fun x => x = .tup [U (smA s o), B (smB s o)]) := by
  have hn := V.imgs
  refine pure_of Tryd.func134 rfl (rs := [.tmp 4, .tmp 5]) rfl rfl mixed (by decide +kernel) (Nat.le_of_ble_eq_true rfl) (argsLt_mem (by simp (maxSteps := 1000000) (disch := omega) only [go_sem])) ?_
  repeat' (first | ((first | ((with_reducible refine cw_stepDK (id := 3) [(13, 3), (15, 1), (18, 3)] (by decide +kernel) (by decide +kernel) ?_ (fun K hK => ?_)); (focus (refine And.intro (fun iw hiw => by ((try simp (maxSteps := 1000000) (disch := omega) only [go_sem] at hiw ⊢); (repeat (first | rfl | exact if_neg (by omega) | rw [if_neg (by omega)])); done)) (by first | exact Nat.zero_le _ | (simp (maxSteps := 1000000) (disch := omega) only [go_sem]; done) | (simp (maxSteps := 1000000) (disch := omega) only [go_sem]; omega) | decide)))) | ((with_reducible refine cw_lastDK (id := 3) [(13, 3), (15, 1), (18, 3)] (by decide +kernel) (by decide +kernel) ?_ (fun K hK => ?_)); (focus (refine And.intro (fun iw hiw => by ((try simp (maxSteps := 1000000) (disch := omega) only [go_sem] at hiw ⊢); (repeat (first | rfl | exact if_neg (by omega) | rw [if_neg (by omega)])); done)) (by first | exact Nat.zero_le _ | (simp (maxSteps := 1000000) (disch := omega) only [go_sem]; done) | (simp (maxSteps := 1000000) (disch := omega) only [go_sem]; omega) | decide))))); (try simp (maxSteps := 1000000) (disch := omega) only [go_sem]); (repeat' (refine And.intro ?_ ?_)); (all_goals first | (refine hK _ (by simp (maxSteps := 1000000) (disch := omega) only [go_sem]) ?_; clear hK K) | exact auto_cl | skip)) | refine cw_assoc ?_ | refine cw_skips ?_ | refine cw_labels ?_ | ((first | refine cw_step (fun K hK => ?_) | refine cw_last (fun K hK => ?_) | refine cw_stepD (by decide +kernel) (by decide +kernel) (fun K hK => ?_) | refine cw_lastD (by decide +kernel) (by decide +kernel) (fun K hK => ?_) | refine rgB_some ?_); (try simp (maxSteps := 1000000) (disch := omega) only [go_sem]); (repeat' (refine And.intro ?_ ?_)); (all_goals first | (refine hK _ ?_; clear hK K) | exact auto_cl | skip)) | ((first | apply cw_ite | apply cw_iteN); (case hf => rfl); (case hc => simp (maxSteps := 1000000) (disch := omega) only [go_sem]; rfl); (all_goals first | (intro hb; (try simp only [hbs] at hb)) | skip)) | exact atN_intro | ((first | apply cw_if | apply cw_cond); (case hc => simp (maxSteps := 1000000) (disch := omega) only [go_sem]; rfl); (all_goals (intro hb; (try simp only [hbs] at hb); try (exfalso; omega)))) | (refine cw_blocks (fun KB hB => ?_)) | (refine cw_block ?_) | ((first | refine cw_exits ?_ | refine cw_exit ?_ | refine cw_skip ?_); simp (maxSteps := 1000000) (disch := omega) only [go_sem]) | (refine hB _ ?_; clear hB KB) | (refine exit_by (S := Sg) (by assumption) ?_) | ((first | refine cw_rets ?_ | refine cw_ret ?_); simp (maxSteps := 1000000) (disch := omega) only [go_sem]; (try clear hB KB); (try clear hK K)))
  · rw [smA, smB, if_pos hb, decide_eq_true hb]; rfl
  · rw [smA, smB, if_neg hb, decide_eq_false hb]; rfl
theorem full_sp (s : Script) (V : VOps s) (hs : ScriptLen s) (o : Op) (ho : 0 ≤ o.mask ∧ o.mask ≤ s.images.length) : Pure Sg 118 [vP s, ag (opE o)] (fun x => x = .b (B (fullM s o))) := by
  have hn := V.imgs
  have h1 := solidMask_sp s V o ho
  have h2 := maskRect_spec s o hs ⟨ho.1, by omega⟩
  have h3 := covers_spec (maskRectM s o) s.canvas
  refine pure_of Tryd.func118 rfl (rs := [.tmp 4]) rfl rfl mixed (by decide +kernel) (Nat.le_of_ble_eq_true rfl) (argsLt_mem (by simp (maxSteps := 1000000) (disch := omega) only [go_sem])) ?_
  repeat' (first | refine cw_assoc ?_ | refine cw_skips ?_ | refine cw_labels ?_ | ((first | refine cw_step (fun K hK => ?_) | refine cw_last (fun K hK => ?_) | refine cw_stepD (by decide +kernel) (by decide +kernel) (fun K hK => ?_) | refine cw_lastD (by decide +kernel) (by decide +kernel) (fun K hK => ?_) | refine rgB_some ?_ | refine call_a (h1) ?_ | refine gcall_a (fun hg => h1) ?_ | refine call_a (h2) ?_ | refine gcall_a (fun hg => h2) ?_ | refine call_a (h3) ?_ | refine gcall_a (fun hg => h3) ?_); (try simp (maxSteps := 1000000) (disch := omega) only [go_sem]); (repeat' (refine And.intro ?_ ?_)); (all_goals first | (refine hK _ ?_; clear hK K) | exact auto_cl | skip)) | ((first | apply cw_ite | apply cw_iteN); (case hf => rfl); (case hc => simp (maxSteps := 1000000) (disch := omega) only [go_sem]; rfl); (all_goals first | (intro hb; (try simp only [hbs] at hb)) | skip)) | exact atN_intro | ((first | apply cw_if | apply cw_cond); (case hc => simp (maxSteps := 1000000) (disch := omega) only [go_sem]; rfl); (all_goals (intro hb; (try simp only [hbs] at hb); try (exfalso; omega)))) | (refine cw_blocks (fun KB hB => ?_)) | (refine cw_block ?_) | ((first | refine cw_exits ?_ | refine cw_exit ?_ | refine cw_skip ?_); simp (maxSteps := 1000000) (disch := omega) only [go_sem]) | (refine hB _ ?_; clear hB KB) | (refine exit_by (S := Sg) (by assumption) ?_) | ((first | refine cw_rets ?_ | refine cw_ret ?_); simp (maxSteps := 1000000) (disch := omega) only [go_sem]; (try clear hB KB); (try clear hK K)))
  rfl
theorem void_sp (s : Script) (V : VOps s) (hs : ScriptLen s) (o : Op) (ho : 0 ≤ o.mask ∧ o.mask ≤ s.images.length) : Pure Sg 114 [vP s, ag (opE o)] (fun x => x = .b (B (voidM s o))) := by
  have hn := V.imgs
  have h1 := solidMask_sp s V o ho
  have h2 := maskRect_spec s o hs ⟨ho.1, by omega⟩
  have h3 := rempty_spec (maskRectM s o)
  refine pure_of Tryd.func114 rfl (rs := [.tmp 4]) rfl rfl mixed (by decide +kernel) (Nat.le_of_ble_eq_true rfl) (argsLt_mem (by simp (maxSteps := 1000000) (disch := omega) only [go_sem])) ?_
  repeat' (first | refine cw_assoc ?_ | refine cw_skips ?_ | refine cw_labels ?_ | ((first | refine cw_step (fun K hK => ?_) | refine cw_last (fun K hK => ?_) | refine cw_stepD (by decide +kernel) (by decide +kernel) (fun K hK => ?_) | refine cw_lastD (by decide +kernel) (by decide +kernel) (fun K hK => ?_) | refine rgB_some ?_ | refine call_a (h1) ?_ | refine gcall_a (fun hg => h1) ?_ | refine call_a (h2) ?_ | refine gcall_a (fun hg => h2) ?_ | refine call_a (h3) ?_ | refine gcall_a (fun hg => h3) ?_); (try simp (maxSteps := 1000000) (disch := omega) only [go_sem]); (repeat' (refine And.intro ?_ ?_)); (all_goals first | (refine hK _ ?_; clear hK K) | exact auto_cl | skip)) | ((first | apply cw_ite | apply cw_iteN); (case hf => rfl); (case hc => simp (maxSteps := 1000000) (disch := omega) only [go_sem]; rfl); (all_goals first | (intro hb; (try simp only [hbs] at hb)) | skip)) | exact atN_intro | ((first | apply cw_if | apply cw_cond); (case hc => simp (maxSteps := 1000000) (disch := omega) only [go_sem]; rfl); (all_goals (intro hb; (try simp only [hbs] at hb); try (exfalso; omega)))) | (refine cw_blocks (fun KB hB => ?_)) | (refine cw_block ?_) | ((first | refine cw_exits ?_ | refine cw_exit ?_ | refine cw_skip ?_); simp (maxSteps := 1000000) (disch := omega) only [go_sem]) | (refine hB _ ?_; clear hB KB) | (refine exit_by (S := Sg) (by assumption) ?_) | ((first | refine cw_rets ?_ | refine cw_ret ?_); simp (maxSteps := 1000000) (disch := omega) only [go_sem]; (try clear hB KB); (try clear hK K)))
  rfl
theorem invisible_sp (s : Script) (V : VOps s) (hs : ScriptLen s) (i : Nat) (hi : i < s.ops.length) (h3 : (opAt s.ops i).kind ≠ 3) : Pure Sg 69 [vP s, I i] (fun x => x = .b (B (invM s i))) := by
  have hn := V.cnt
  have hm := V.imgs
  obtain ⟨ho, hm2⟩ := op_rng V hi
  have h1 := neutral_spec (opAt s.ops i).operator
  have h2 := void_sp s V hs (opAt s.ops i) ho
  have h4 := imageRect_spec s (opAt s.ops i) hs
  have h5 := rempty_spec (imageRectM s (opAt s.ops i))
  have h6 := transparent_spec (imgM s (opAt s.ops i).image).color
  unfold opAt at h1 h2 h4 h5 h6 hm2 h3
  refine pure_of Tryd.func69 rfl (rs := [.tmp 4]) rfl rfl mixed (by decide +kernel) (Nat.le_of_ble_eq_true rfl) (argsLt_mem (by simp (maxSteps := 1000000) (disch := omega) only [go_sem])) ?_
  repeat' (first | ((first | ((with_reducible refine cw_stepDK (id := 8) [(41, 3), (43, 1), (45, 3)] (by decide +kernel) (by decide +kernel) ?_ (fun K hK => ?_)); (focus (refine And.intro (fun iw hiw => by ((try simp (maxSteps := 1000000) (disch := omega) only [go_sem] at hiw ⊢); (repeat (first | rfl | exact if_neg (by omega) | rw [if_neg (by omega)])); done)) (by first | exact Nat.zero_le _ | (simp (maxSteps := 1000000) (disch := omega) only [go_sem]; done) | (simp (maxSteps := 1000000) (disch := omega) only [go_sem]; omega) | decide)))) | ((with_reducible refine cw_lastDK (id := 8) [(41, 3), (43, 1), (45, 3)] (by decide +kernel) (by decide +kernel) ?_ (fun K hK => ?_)); (focus (refine And.intro (fun iw hiw => by ((try simp (maxSteps := 1000000) (disch := omega) only [go_sem] at hiw ⊢); (repeat (first | rfl | exact if_neg (by omega) | rw [if_neg (by omega)])); done)) (by first | exact Nat.zero_le _ | (simp (maxSteps := 1000000) (disch := omega) only [go_sem]; done) | (simp (maxSteps := 1000000) (disch := omega) only [go_sem]; omega) | decide))))); (try simp (maxSteps := 1000000) (disch := omega) only [go_sem]); (repeat' (refine And.intro ?_ ?_)); (all_goals first | (refine hK _ (by simp (maxSteps := 1000000) (disch := omega) only [go_sem]) ?_; clear hK K) | exact auto_cl | skip)) | refine cw_assoc ?_ | refine cw_skips ?_ | refine cw_labels ?_ | ((first | refine cw_step (fun K hK => ?_) | refine cw_last (fun K hK => ?_) | refine cw_stepD (by decide +kernel) (by decide +kernel) (fun K hK => ?_) | refine cw_lastD (by decide +kernel) (by decide +kernel) (fun K hK => ?_) | refine rgB_some ?_ | refine call_a (h1) ?_ | refine gcall_a (fun hg => h1) ?_ | refine call_a (h2) ?_ | refine gcall_a (fun hg => h2) ?_ | refine call_a (h4) ?_ | refine gcall_a (fun hg => h4) ?_ | refine call_a (h5) ?_ | refine gcall_a (fun hg => h5) ?_ | refine call_a (h6) ?_ | refine gcall_a (fun hg => h6) ?_); (try simp (maxSteps := 1000000) (disch := omega) only [go_sem]); (repeat' (refine And.intro ?_ ?_)); (all_goals first | (refine hK _ ?_; clear hK K) | exact auto_cl | skip)) | ((first | apply cw_ite | apply cw_iteN); (case hf => rfl); (case hc => simp (maxSteps := 1000000) (disch := omega) only [go_sem]; rfl); (all_goals first | (intro hb; (try simp only [hbs] at hb)) | skip)) | exact atN_intro | ((first | apply cw_if | apply cw_cond); (case hc => simp (maxSteps := 1000000) (disch := omega) only [go_sem]; rfl); (all_goals (intro hb; (try simp only [hbs] at hb); try (exfalso; omega)))) | (refine cw_blocks (fun KB hB => ?_)) | (refine cw_block ?_) | ((first | refine cw_exits ?_ | refine cw_exit ?_ | refine cw_skip ?_); simp (maxSteps := 1000000) (disch := omega) only [go_sem]) | (refine hB _ ?_; clear hB KB) | (refine exit_by (S := Sg) (by assumption) ?_) | ((first | refine cw_rets ?_ | refine cw_ret ?_); simp (maxSteps := 1000000) (disch := omega) only [go_sem]; (try clear hB KB); (try clear hK K)))
  · refine vb ?_
    rw [invM, opAt, hb]; rfl
  · refine vb ?_
    rw [invM, opAt, ‹neutralM _ = true›]
    rcases hb with hb | hb
    · rw [decide_eq_true hb]; rfl
    · rw [hb, Bool.or_true]; rfl
  · refine vb ?_
    obtain ⟨q1, q2⟩ := ‹_ ∧ voidM _ _ = false›
    rw [invM, opAt, ‹neutralM _ = true›, decide_eq_false q1, q2, if_pos hb]
    exact kbeq _ 0
  · have := V.wf.kinds i hi
    unfold opAt at this
    exact (hm2 (by omega)).1
  · have := V.wf.kinds i hi
    unfold opAt at this
    exact (hm2 (by omega)).2
  · refine vb ?_
    obtain ⟨q1, q2⟩ := ‹_ ∧ voidM _ _ = false›
    rw [invM, opAt, ‹neutralM _ = true›, decide_eq_false q1, q2, if_neg hb]
    rfl
theorem dst_sp (s : Script) (V : VOps s) (i : Nat) (hi : i < s.ops.length) : Pure Sg 71 [vP s, I i] (fun x => x = .b (B (dstM s i))) := by
  have hn := V.cnt
  refine pure_of Tryd.func71 rfl (rs := [.tmp 4]) rfl rfl mixed (by decide +kernel) (Nat.le_of_ble_eq_true rfl) (argsLt_mem (by simp (maxSteps := 1000000) (disch := omega) only [go_sem])) ?_
  repeat' (first | refine cw_assoc ?_ | refine cw_skips ?_ | refine cw_labels ?_ | ((first | refine cw_step (fun K hK => ?_) | refine cw_last (fun K hK => ?_) | refine cw_stepD (by decide +kernel) (by decide +kernel) (fun K hK => ?_) | refine cw_lastD (by decide +kernel) (by decide +kernel) (fun K hK => ?_) | refine rgB_some ?_); (try simp (maxSteps := 1000000) (disch := omega) only [go_sem]); (repeat' (refine And.intro ?_ ?_)); (all_goals first | (refine hK _ ?_; clear hK K) | exact auto_cl | skip)) | ((first | apply cw_ite | apply cw_iteN); (case hf => rfl); (case hc => simp (maxSteps := 1000000) (disch := omega) only [go_sem]; rfl); (all_goals first | (intro hb; (try simp only [hbs] at hb)) | skip)) | exact atN_intro | ((first | apply cw_if | apply cw_cond); (case hc => simp (maxSteps := 1000000) (disch := omega) only [go_sem]; rfl); (all_goals (intro hb; (try simp only [hbs] at hb); try (exfalso; omega)))) | (refine cw_blocks (fun KB hB => ?_)) | (refine cw_block ?_) | ((first | refine cw_exits ?_ | refine cw_exit ?_ | refine cw_skip ?_); simp (maxSteps := 1000000) (disch := omega) only [go_sem]) | (refine hB _ ?_; clear hB KB) | (refine exit_by (S := Sg) (by assumption) ?_) | ((first | refine cw_rets ?_ | refine cw_ret ?_); simp (maxSteps := 1000000) (disch := omega) only [go_sem]; (try clear hB KB); (try clear hK K)))
  rfl
theorem nothing_sp (s : Script) (V : VOps s) (i : Nat) (hi : i < s.ops.length) : Pure Sg 72 [vP s, I i] (fun x => x = .b (B (nthM s i))) := by
  have hn := V.cnt
  have h1 := plain_sp s V i hi
  refine pure_of Tryd.func72 rfl (rs := [.tmp 4]) rfl rfl mixed (by decide +kernel) (Nat.le_of_ble_eq_true rfl) (argsLt_mem (by simp (maxSteps := 1000000) (disch := omega) only [go_sem])) ?_
  repeat' (first | refine cw_assoc ?_ | refine cw_skips ?_ | refine cw_labels ?_ | ((first | refine cw_step (fun K hK => ?_) | refine cw_last (fun K hK => ?_) | refine cw_stepD (by decide +kernel) (by decide +kernel) (fun K hK => ?_) | refine cw_lastD (by decide +kernel) (by decide +kernel) (fun K hK => ?_) | refine rgB_some ?_ | refine call_a (h1) ?_ | refine gcall_a (fun hg => h1) ?_); (try simp (maxSteps := 1000000) (disch := omega) only [go_sem]); (repeat' (refine And.intro ?_ ?_)); (all_goals first | (refine hK _ ?_; clear hK K) | exact auto_cl | skip)) | ((first | apply cw_ite | apply cw_iteN); (case hf => rfl); (case hc => simp (maxSteps := 1000000) (disch := omega) only [go_sem]; rfl); (all_goals first | (intro hb; (try simp only [hbs] at hb)) | skip)) | exact atN_intro | ((first | apply cw_if | apply cw_cond); (case hc => simp (maxSteps := 1000000) (disch := omega) only [go_sem]; rfl); (all_goals (intro hb; (try simp only [hbs] at hb); try (exfalso; omega)))) | (refine cw_blocks (fun KB hB => ?_)) | (refine cw_block ?_) | ((first | refine cw_exits ?_ | refine cw_exit ?_ | refine cw_skip ?_); simp (maxSteps := 1000000) (disch := omega) only [go_sem]) | (refine hB _ ?_; clear hB KB) | (refine exit_by (S := Sg) (by assumption) ?_) | ((first | refine cw_rets ?_ | refine cw_ret ?_); simp (maxSteps := 1000000) (disch := omega) only [go_sem]; (try clear hB KB); (try clear hK K)))
  · refine vb ?_
    rw [nthM, opAt, decide_eq_true (by omega)]; rfl
  · refine vb ?_
    rw [nthM, opAt, decide_eq_false (by omega)]; rfl
theorem covers_sp (s : Script) (V : VOps s) (hs : ScriptLen s) (i : Nat) (hi : i < s.ops.length) (h3 : (opAt s.ops i).kind = 1) : Pure Sg 117 [vP s, I i] (fun x => x = .b (B (cvM s i))) := by
  have hn := V.cnt
  have hm := V.imgs
  obtain ⟨ho, hm2⟩ := op_rng V hi
  have h1 := frame_sp s V i hi
  have h2 := unscaled_sp s (opAt s.ops i)
  have h4 := imageRect_spec s (opAt s.ops i) hs
  have h5 := covers_spec (imageRectM s (opAt s.ops i)) s.canvas
  have hm3 := hm2 h3
  unfold opAt at h2 h4 h5 hm3
  refine pure_of Tryd.func117 rfl (rs := [.tmp 4]) rfl rfl mixed (by decide +kernel) (Nat.le_of_ble_eq_true rfl) (argsLt_mem (by simp (maxSteps := 1000000) (disch := omega) only [go_sem])) ?_
  repeat' (first | ((first | ((with_reducible refine cw_stepDK (id := 5) [(33, 3), (35, 1), (37, 3)] (by decide +kernel) (by decide +kernel) ?_ (fun K hK => ?_)); (focus (refine And.intro (fun iw hiw => by ((try simp (maxSteps := 1000000) (disch := omega) only [go_sem] at hiw ⊢); (repeat (first | rfl | exact if_neg (by omega) | rw [if_neg (by omega)])); done)) (by first | exact Nat.zero_le _ | (simp (maxSteps := 1000000) (disch := omega) only [go_sem]; done) | (simp (maxSteps := 1000000) (disch := omega) only [go_sem]; omega) | decide)))) | ((with_reducible refine cw_lastDK (id := 5) [(33, 3), (35, 1), (37, 3)] (by decide +kernel) (by decide +kernel) ?_ (fun K hK => ?_)); (focus (refine And.intro (fun iw hiw => by ((try simp (maxSteps := 1000000) (disch := omega) only [go_sem] at hiw ⊢); (repeat (first | rfl | exact if_neg (by omega) | rw [if_neg (by omega)])); done)) (by first | exact Nat.zero_le _ | (simp (maxSteps := 1000000) (disch := omega) only [go_sem]; done) | (simp (maxSteps := 1000000) (disch := omega) only [go_sem]; omega) | decide))))); (try simp (maxSteps := 1000000) (disch := omega) only [go_sem]); (repeat' (refine And.intro ?_ ?_)); (all_goals first | (refine hK _ (by simp (maxSteps := 1000000) (disch := omega) only [go_sem]) ?_; clear hK K) | exact auto_cl | skip)) | refine cw_assoc ?_ | refine cw_skips ?_ | refine cw_labels ?_ | ((first | refine cw_step (fun K hK => ?_) | refine cw_last (fun K hK => ?_) | refine cw_stepD (by decide +kernel) (by decide +kernel) (fun K hK => ?_) | refine cw_lastD (by decide +kernel) (by decide +kernel) (fun K hK => ?_) | refine rgB_some ?_ | refine call_a (h1) ?_ | refine gcall_a (fun hg => h1) ?_ | refine call_a (h2) ?_ | refine gcall_a (fun hg => h2) ?_ | refine call_a (h4) ?_ | refine gcall_a (fun hg => h4) ?_ | refine call_a (h5) ?_ | refine gcall_a (fun hg => h5) ?_); (try simp (maxSteps := 1000000) (disch := omega) only [go_sem]); (repeat' (refine And.intro ?_ ?_)); (all_goals first | (refine hK _ ?_; clear hK K) | exact auto_cl | skip)) | ((first | apply cw_ite | apply cw_iteN); (case hf => rfl); (case hc => simp (maxSteps := 1000000) (disch := omega) only [go_sem]; rfl); (all_goals first | (intro hb; (try simp only [hbs] at hb)) | skip)) | exact atN_intro | ((first | apply cw_if | apply cw_cond); (case hc => simp (maxSteps := 1000000) (disch := omega) only [go_sem]; rfl); (all_goals (intro hb; (try simp only [hbs] at hb); try (exfalso; omega)))) | (refine cw_blocks (fun KB hB => ?_)) | (refine cw_block ?_) | ((first | refine cw_exits ?_ | refine cw_exit ?_ | refine cw_skip ?_); simp (maxSteps := 1000000) (disch := omega) only [go_sem]) | (refine hB _ ?_; clear hB KB) | (refine exit_by (S := Sg) (by assumption) ?_) | ((first | refine cw_rets ?_ | refine cw_ret ?_); simp (maxSteps := 1000000) (disch := omega) only [go_sem]; (try clear hB KB); (try clear hK K)))
  · refine vb ?_
    rw [cvM, opAt, decide_eq_true hb.1, hb.2]; rfl
  · rename_i q1
    refine vb ?_
    have e1 : (decide ((s.ops.getD i default).operator = 1) && !koM s i) = false := by
      by_cases h : (s.ops.getD i default).operator = 1
      · rw [q1 h]; simp
      · rw [decide_eq_false h]; rfl
    rw [cvM, opAt, e1, Bool.false_or]
    have hb : (unscM s (s.ops.getD i default) = false ∨ (imgM s (s.ops.getD i default).image).solid = false) ∨ coversR (imageRectM s (s.ops.getD i default)) s.canvas = false := hb
    rcases hb with (hb | hb) | hb <;> rw [hb] <;> simp
  · rename_i q2 q1
    refine vb ?_
    have e1 : (decide ((s.ops.getD i default).operator = 1) && !koM s i) = false := by rw [hb]; simp
    have q1 : (unscM s (s.ops.getD i default) = true ∧ (imgM s (s.ops.getD i default).image).solid = true) ∧ coversR (imageRectM s (s.ops.getD i default)) s.canvas = true := q1
    rw [cvM, opAt, e1, Bool.false_or, q1.1.1, q1.1.2, q1.2, if_pos hb]
    rfl
  · rename_i q3 q2 q1
    refine vb ?_
    have e1 : (decide ((s.ops.getD i default).operator = 1) && !koM s i) = false := by
      by_cases h : (s.ops.getD i default).operator = 1
      · rw [q3 h]; simp
      · rw [decide_eq_false h]; rfl
    have q2 : (unscM s (s.ops.getD i default) = true ∧ (imgM s (s.ops.getD i default).image).solid = true) ∧ coversR (imageRectM s (s.ops.getD i default)) s.canvas = true := q2
    rw [cvM, opAt, e1, Bool.false_or, q2.1.1, q2.1.2, q2.2, if_neg (by rw [q1]; decide), decide_eq_false hb]
    rfl
  · rename_i q3 q2 q1
    refine vb ?_
    have e1 : (decide ((s.ops.getD i default).operator = 1) && !koM s i) = false := by
      by_cases h : (s.ops.getD i default).operator = 1
      · rw [q3 h]; simp
      · rw [decide_eq_false h]; rfl
    have q2 : (unscM s (s.ops.getD i default) = true ∧ (imgM s (s.ops.getD i default).image).solid = true) ∧ coversR (imageRectM s (s.ops.getD i default)) s.canvas = true := q2
    rw [cvM, opAt, e1, Bool.false_or, q2.1.1, q2.1.2, q2.2, if_neg (by rw [q1]; decide), decide_eq_true hb]
    rfl
theorem mask_sp (s : Script) (V : VOps s) (hs : ScriptLen s) (i : Nat) (hi : i < s.ops.length) : Pure Sg 74 [vP s, I i] (fun x => x = .b (B (mskM s i))) := by
  have hn := V.cnt
  obtain ⟨ho, hm2⟩ := op_rng V hi
  have h1 := full_sp s V hs (opAt s.ops i) ho
  unfold opAt at h1
  refine pure_of Tryd.func74 rfl (rs := [.tmp 4]) rfl rfl mixed (by decide +kernel) (Nat.le_of_ble_eq_true rfl) (argsLt_mem (by simp (maxSteps := 1000000) (disch := omega) only [go_sem])) ?_
  repeat' (first | refine cw_assoc ?_ | refine cw_skips ?_ | refine cw_labels ?_ | ((first | refine cw_step (fun K hK => ?_) | refine cw_last (fun K hK => ?_) | refine cw_stepD (by decide +kernel) (by decide +kernel) (fun K hK => ?_) | refine cw_lastD (by decide +kernel) (by decide +kernel) (fun K hK => ?_) | refine rgB_some ?_ | refine call_a (h1) ?_ | refine gcall_a (fun hg => h1) ?_); (try simp (maxSteps := 1000000) (disch := omega) only [go_sem]); (repeat' (refine And.intro ?_ ?_)); (all_goals first | (refine hK _ ?_; clear hK K) | exact auto_cl | skip)) | ((first | apply cw_ite | apply cw_iteN); (case hf => rfl); (case hc => simp (maxSteps := 1000000) (disch := omega) only [go_sem]; rfl); (all_goals first | (intro hb; (try simp only [hbs] at hb)) | skip)) | exact atN_intro | ((first | apply cw_if | apply cw_cond); (case hc => simp (maxSteps := 1000000) (disch := omega) only [go_sem]; rfl); (all_goals (intro hb; (try simp only [hbs] at hb); try (exfalso; omega)))) | (refine cw_blocks (fun KB hB => ?_)) | (refine cw_block ?_) | ((first | refine cw_exits ?_ | refine cw_exit ?_ | refine cw_skip ?_); simp (maxSteps := 1000000) (disch := omega) only [go_sem]) | (refine hB _ ?_; clear hB KB) | (refine exit_by (S := Sg) (by assumption) ?_) | ((first | refine cw_rets ?_ | refine cw_ret ?_); simp (maxSteps := 1000000) (disch := omega) only [go_sem]; (try clear hB KB); (try clear hK K)))
  rfl
theorem isolate_sp (s : Script) (V : VOps s) (i : Nat) (hi : i < s.ops.length) : Pure Sg 77 [vP s, I i] (fun x => x = .b (B (iseM s i))) := by
  have hn := V.cnt
  have h1 := frame_sp s V i hi
  refine pure_of Tryd.func77 rfl (rs := [.tmp 4]) rfl rfl mixed (by decide +kernel) (Nat.le_of_ble_eq_true rfl) (argsLt_mem (by simp (maxSteps := 1000000) (disch := omega) only [go_sem])) ?_
  repeat' (first | refine cw_assoc ?_ | refine cw_skips ?_ | refine cw_labels ?_ | ((first | refine cw_step (fun K hK => ?_) | refine cw_last (fun K hK => ?_) | refine cw_stepD (by decide +kernel) (by decide +kernel) (fun K hK => ?_) | refine cw_lastD (by decide +kernel) (by decide +kernel) (fun K hK => ?_) | refine rgB_some ?_ | refine call_a (h1) ?_ | refine gcall_a (fun hg => h1) ?_); (try simp (maxSteps := 1000000) (disch := omega) only [go_sem]); (repeat' (refine And.intro ?_ ?_)); (all_goals first | (refine hK _ ?_; clear hK K) | exact auto_cl | skip)) | ((first | apply cw_ite | apply cw_iteN); (case hf => rfl); (case hc => simp (maxSteps := 1000000) (disch := omega) only [go_sem]; rfl); (all_goals first | (intro hb; (try simp only [hbs] at hb)) | skip)) | exact atN_intro | ((first | apply cw_if | apply cw_cond); (case hc => simp (maxSteps := 1000000) (disch := omega) only [go_sem]; rfl); (all_goals (intro hb; (try simp only [hbs] at hb); try (exfalso; omega)))) | (refine cw_blocks (fun KB hB => ?_)) | (refine cw_block ?_) | ((first | refine cw_exits ?_ | refine cw_exit ?_ | refine cw_skip ?_); simp (maxSteps := 1000000) (disch := omega) only [go_sem]) | (refine hB _ ?_; clear hB KB) | (refine exit_by (S := Sg) (by assumption) ?_) | ((first | refine cw_rets ?_ | refine cw_ret ?_); simp (maxSteps := 1000000) (disch := omega) only [go_sem]; (try clear hB KB); (try clear hK K)))
  rfl
theorem normal_sp (s : Script) (V : VOps s) (i : Nat) (hi : i < s.ops.length) : Pure Sg 79 [vP s, I i] (fun x => x = .b (B (nrmM s i))) := by
  have hn := V.cnt
  have h1 := frame_sp s V i hi
  have h2 := fresh_spec (opAt s.ops i).operator
  unfold opAt at h2
  refine pure_of Tryd.func79 rfl (rs := [.tmp 4]) rfl rfl mixed (by decide +kernel) (Nat.le_of_ble_eq_true rfl) (argsLt_mem (by simp (maxSteps := 1000000) (disch := omega) only [go_sem])) ?_
  repeat' (first | refine cw_assoc ?_ | refine cw_skips ?_ | refine cw_labels ?_ | ((first | refine cw_step (fun K hK => ?_) | refine cw_last (fun K hK => ?_) | refine cw_stepD (by decide +kernel) (by decide +kernel) (fun K hK => ?_) | refine cw_lastD (by decide +kernel) (by decide +kernel) (fun K hK => ?_) | refine rgB_some ?_ | refine call_a (h1) ?_ | refine gcall_a (fun hg => h1) ?_ | refine call_a (h2) ?_ | refine gcall_a (fun hg => h2) ?_); (try simp (maxSteps := 1000000) (disch := omega) only [go_sem]); (repeat' (refine And.intro ?_ ?_)); (all_goals first | (refine hK _ ?_; clear hK K) | exact auto_cl | skip)) | ((first | apply cw_ite | apply cw_iteN); (case hf => rfl); (case hc => simp (maxSteps := 1000000) (disch := omega) only [go_sem]; rfl); (all_goals first | (intro hb; (try simp only [hbs] at hb)) | skip)) | exact atN_intro | ((first | apply cw_if | apply cw_cond); (case hc => simp (maxSteps := 1000000) (disch := omega) only [go_sem]; rfl); (all_goals (intro hb; (try simp only [hbs] at hb); try (exfalso; omega)))) | (refine cw_blocks (fun KB hB => ?_)) | (refine cw_block ?_) | ((first | refine cw_exits ?_ | refine cw_exit ?_ | refine cw_skip ?_); simp (maxSteps := 1000000) (disch := omega) only [go_sem]) | (refine hB _ ?_; clear hB KB) | (refine exit_by (S := Sg) (by assumption) ?_) | ((first | refine cw_rets ?_ | refine cw_ret ?_); simp (maxSteps := 1000000) (disch := omega) only [go_sem]; (try clear hB KB); (try clear hK K)))
  · rw [nrmM, hb]; rfl
  · rw [nrmM, ‹isoM s i = true›, if_pos hb]; rfl
  · rw [nrmM, ‹isoM s i = true›, if_neg (by rw [hb]; decide)]; rfl
theorem single_sp (s : Script) (V : VOps s) (i : Nat) (hi : i < s.ops.length) : Pure Sg 81 [vP s, I i] (fun x => x = .b (B (sngM s i))) := by
  have hn := V.cnt
  refine pure_of Tryd.func81 rfl (rs := [.tmp 4]) rfl rfl mixed (by decide +kernel) (Nat.le_of_ble_eq_true rfl) (argsLt_mem (by simp (maxSteps := 1000000) (disch := omega) only [go_sem])) ?_
  repeat' (first | refine cw_assoc ?_ | refine cw_skips ?_ | refine cw_labels ?_ | ((first | refine cw_step (fun K hK => ?_) | refine cw_last (fun K hK => ?_) | refine cw_stepD (by decide +kernel) (by decide +kernel) (fun K hK => ?_) | refine cw_lastD (by decide +kernel) (by decide +kernel) (fun K hK => ?_) | refine rgB_some ?_); (try simp (maxSteps := 1000000) (disch := omega) only [go_sem]); (repeat' (refine And.intro ?_ ?_)); (all_goals first | (refine hK _ ?_; clear hK K) | exact auto_cl | skip)) | ((first | apply cw_ite | apply cw_iteN); (case hf => rfl); (case hc => simp (maxSteps := 1000000) (disch := omega) only [go_sem]; rfl); (all_goals first | (intro hb; (try simp only [hbs] at hb)) | skip)) | exact atN_intro | ((first | apply cw_if | apply cw_cond); (case hc => simp (maxSteps := 1000000) (disch := omega) only [go_sem]; rfl); (all_goals (intro hb; (try simp only [hbs] at hb); try (exfalso; omega)))) | (refine cw_blocks (fun KB hB => ?_)) | (refine cw_block ?_) | ((first | refine cw_exits ?_ | refine cw_exit ?_ | refine cw_skip ?_); simp (maxSteps := 1000000) (disch := omega) only [go_sem]) | (refine hB _ ?_; clear hB KB) | (refine exit_by (S := Sg) (by assumption) ?_) | ((first | refine cw_rets ?_ | refine cw_ret ?_); simp (maxSteps := 1000000) (disch := omega) only [go_sem]; (try clear hB KB); (try clear hK K)))
  rw [sngM]
  exact vb (congrArg (fun b => _ && _ && b) (kbeq _ 1))
theorem unwrap_sp (s : Script) (V : VOps s) (i : Nat) (hi : i < s.ops.length) : Pure Sg 83 [vP s, I i] (fun x => x = .b (B (unwM s i))) := by
  have hn := V.cnt
  have W := V.wf
  have h1 := unscaled_sp s (opAt s.ops i)
  have h2 := unscaled_sp s (opAt s.ops (i + 1))
  unfold opAt at h1 h2
  refine pure_of Tryd.func83 rfl (rs := [.tmp 4]) rfl rfl mixed (by decide +kernel) (Nat.le_of_ble_eq_true rfl) (argsLt_mem (by simp (maxSteps := 1000000) (disch := omega) only [go_sem])) ?_
  repeat' (first | refine cw_assoc ?_ | refine cw_skips ?_ | refine cw_labels ?_ | ((first | refine cw_step (fun K hK => ?_) | refine cw_last (fun K hK => ?_) | refine cw_stepD (by decide +kernel) (by decide +kernel) (fun K hK => ?_) | refine cw_lastD (by decide +kernel) (by decide +kernel) (fun K hK => ?_) | refine rgB_some ?_ | refine call_a (h2) ?_ | refine gcall_a (fun hg => h2) ?_ | refine call_a (h1) ?_ | refine gcall_a (fun hg => h1) ?_); (try simp (maxSteps := 1000000) (disch := omega) only [go_sem]); (repeat' (refine And.intro ?_ ?_)); (all_goals first | (refine hK _ ?_; clear hK K) | exact auto_cl | skip)) | ((first | apply cw_ite | apply cw_iteN); (case hf => rfl); (case hc => simp (maxSteps := 1000000) (disch := omega) only [go_sem]; rfl); (all_goals first | (intro hb; (try simp only [hbs] at hb)) | skip)) | exact atN_intro | ((first | apply cw_if | apply cw_cond); (case hc => simp (maxSteps := 1000000) (disch := omega) only [go_sem]; rfl); (all_goals (intro hb; (try simp only [hbs] at hb); try (exfalso; omega)))) | (refine cw_blocks (fun KB hB => ?_)) | (refine cw_block ?_) | ((first | refine cw_exits ?_ | refine cw_exit ?_ | refine cw_skip ?_); simp (maxSteps := 1000000) (disch := omega) only [go_sem]) | (refine hB _ ?_; clear hB KB) | (refine exit_by (S := Sg) (by assumption) ?_) | ((first | refine cw_rets ?_ | refine cw_ret ?_); simp (maxSteps := 1000000) (disch := omega) only [go_sem]; (try clear hB KB); (try clear hK K)))
  · refine vb ?_
    have e : (decide ((opAt s.ops i).kind = 2) && (opAt s.ops i).isolated && decide (kidsM s.ops i = 1)) = false := by
      unfold opAt
      rcases hb with (hb | hb) | hb
      · rw [decide_eq_false hb]; rfl
      · rw [hb, Bool.and_false]; rfl
      · rw [decide_eq_false (show ¬ kidsM s.ops i = 1 by omega), Bool.and_false]
    rw [unwM, e]; rfl
  · obtain ⟨⟨b1, b2⟩, b3⟩ := hb
    have := (kid_next W hi b1 (by omega)).1
    have := ends_lt W hi
    omega
  · refine vb ?_
    obtain ⟨⟨b1, b2⟩, b3⟩ := hb
    rw [unwM, show (opAt s.ops i).isolated = true from b2, decide_eq_true (show (opAt s.ops i).kind = 2 from b1), decide_eq_true (show kidsM s.ops i = 1 by omega), show ((i : Int) + 1).toNat = i + 1 by omega]
    rfl
/-- Rule 4: a loop over the operations behind, in the same group. -/
theorem covered_sp (s : Script) (V : VOps s) (hs : ScriptLen s) (i : Nat) (hi : i < s.ops.length) : Pure Sg 73 [vP s, I i] (fun x => x = .b (B (cdM s i))) := by
  have hn := V.cnt
  have W := V.wf
  have hel := ends_lt W hi
  have hge := ends_ge W hi
  refine pure_of Tryd.func73 rfl (rs := [.tmp 4]) rfl rfl mixed (by decide +kernel) (Nat.le_of_ble_eq_true rfl) (argsLt_mem (by simp (maxSteps := 1000000) (disch := omega) only [go_sem])) ?_
  repeat' (first | refine cw_assoc ?_ | refine cw_skips ?_ | refine cw_labels ?_ | ((first | refine cw_step (fun K hK => ?_) | refine cw_last (fun K hK => ?_) | refine cw_stepD (by decide +kernel) (by decide +kernel) (fun K hK => ?_) | refine cw_lastD (by decide +kernel) (by decide +kernel) (fun K hK => ?_) | refine rgB_some ?_); (try simp (maxSteps := 1000000) (disch := omega) only [go_sem]); (repeat' (refine And.intro ?_ ?_)); (all_goals first | (refine hK _ ?_; clear hK K) | exact auto_cl | skip)) | ((first | apply cw_ite | apply cw_iteN); (case hf => rfl); (case hc => simp (maxSteps := 1000000) (disch := omega) only [go_sem]; rfl); (all_goals first | (intro hb; (try simp only [hbs] at hb)) | skip)) | exact atN_intro | ((first | apply cw_if | apply cw_cond); (case hc => simp (maxSteps := 1000000) (disch := omega) only [go_sem]; rfl); (all_goals (intro hb; (try simp only [hbs] at hb); try (exfalso; omega)))) | (refine cw_blocks (fun KB hB => ?_)) | (refine cw_block ?_) | ((first | refine cw_exits ?_ | refine cw_exit ?_ | refine cw_skip ?_); simp (maxSteps := 1000000) (disch := omega) only [go_sem]) | (refine hB _ ?_; clear hB KB) | (refine exit_by (S := Sg) (by assumption) ?_) | ((first | refine cw_rets ?_ | refine cw_ret ?_); simp (maxSteps := 1000000) (disch := omega) only [go_sem]; (try clear hB KB); (try clear hK K)))
  refine cw_loop (X := Nat × Nat) (fun x => mkSt [(0, .b (vP s)), (1, .b (I i)), (5, .b (I x.2))] [] 1)
    (fun x => s.ops.length ≤ x.1 + x.2 ∧ x.2 ≤ s.ops.length ∧ cdM s i = cdGo s x.1 x.2) (fun x => s.ops.length - x.2) (s.ops.length, endsM s.ops i + 1) ?_ ?_ ?_
  · exact ⟨by dsimp only; omega, by dsimp only; omega, rfl⟩
  · refine le_of [] rfl (by decide) rfl ?_ ?_
    all_goals simp (maxSteps := 1000000) (disch := omega) only [go_sem]
    repeat' (refine And.intro ?_ ?_)
    all_goals first | rfl | omega | exact .inl rfl | trivial | skip
  · rintro ⟨f, j⟩ ⟨hf, hj, hc⟩
    dsimp only at hf hj hc ⊢
    rcases Nat.lt_or_ge j s.ops.length with hlt | hge
    · obtain ⟨f, rfl⟩ : ∃ f', f = f' + 1 := ⟨f - 1, by omega⟩
      rw [cdGo] at hc
      have hjl := ends_lt W hlt
      have hjg := ends_ge W hlt
      repeat' (first | refine cw_assoc ?_ | refine cw_skips ?_ | refine cw_labels ?_ | ((first | refine cw_step (fun K hK => ?_) | refine cw_last (fun K hK => ?_) | refine cw_stepD (by decide +kernel) (by decide +kernel) (fun K hK => ?_) | refine cw_lastD (by decide +kernel) (by decide +kernel) (fun K hK => ?_) | refine rgB_some ?_ | refine call_a (covers_sp s V hs j hlt (by simpa [opAt] using hg)) ?_ | refine gcall_a (fun hg => covers_sp s V hs j hlt (by simpa [opAt] using hg)) ?_); (try simp (maxSteps := 1000000) (disch := omega) only [go_sem]); (repeat' (refine And.intro ?_ ?_)); (all_goals first | (refine hK _ ?_; clear hK K) | exact auto_cl | skip)) | ((first | apply cw_ite | apply cw_iteN); (case hf => rfl); (case hc => simp (maxSteps := 1000000) (disch := omega) only [go_sem]; rfl); (all_goals first | (intro hb; (try simp only [hbs] at hb)) | skip)) | exact atN_intro | ((first | apply cw_if | apply cw_cond); (case hc => simp (maxSteps := 1000000) (disch := omega) only [go_sem]; rfl); (all_goals (intro hb; (try simp only [hbs] at hb); try (exfalso; omega)))) | (refine cw_blocks (fun KB hB => ?_)) | (refine cw_block ?_) | ((first | refine cw_exits ?_ | refine cw_exit ?_ | refine cw_skip ?_); simp (maxSteps := 1000000) (disch := omega) only [go_sem]) | (refine hB _ ?_; clear hB KB) | (refine exit_by (S := Sg) (by assumption) ?_) | ((first | refine cw_rets ?_ | refine cw_ret ?_); simp (maxSteps := 1000000) (disch := omega) only [go_sem]; (try clear hB KB); (try clear hK K)))
      · refine vb ?_
        rw [hc, opAt, decide_eq_true hlt, decide_eq_false (‹_ ∧ ¬ _ = (3 : Int)›).2, decide_eq_true hb.1, hb.2]; rfl
      · rw [thenQ_normal]
        have hk3 := (‹_ ∧ ¬ _ = (3 : Int)›).2
        refine wk_loop (f, endsM s.ops j + 1) ?_ ⟨by dsimp only; omega, by dsimp only; omega, ?_⟩ (by dsimp only; omega)
        · refine le_of [] rfl (by decide) rfl ?_ ?_
          all_goals simp (maxSteps := 1000000) (disch := omega) only [go_sem]
          repeat' (refine And.intro ?_ ?_)
          all_goals first | rfl | omega | exact .inl rfl | trivial | skip
        · dsimp only
          rw [hc, opAt, decide_eq_true hlt, decide_eq_false hk3]
          have e : (decide ((s.ops.getD j default).kind = 1) && cvM s j) = false := by
            by_cases h : (s.ops.getD j default).kind = 1
            · rw [hb h, Bool.and_false]
            · rw [decide_eq_false h]; rfl
          rw [e]; rfl
      · refine vb ?_
        rw [hc, opAt, decide_eq_true (hb (by omega)), Bool.not_true, Bool.and_false]; rfl
    · have he : j = s.ops.length := by omega
      subst he
      have hc2 : cdM s i = false := by
        rw [hc]
        cases f with
        | zero => rfl
        | succ f => rw [cdGo, decide_eq_false (Nat.lt_irrefl _)]; rfl
      repeat' (first | refine cw_assoc ?_ | refine cw_skips ?_ | refine cw_labels ?_ | ((first | refine cw_step (fun K hK => ?_) | refine cw_last (fun K hK => ?_) | refine cw_stepD (by decide +kernel) (by decide +kernel) (fun K hK => ?_) | refine cw_lastD (by decide +kernel) (by decide +kernel) (fun K hK => ?_) | refine rgB_some ?_); (try simp (maxSteps := 1000000) (disch := omega) only [go_sem]); (repeat' (refine And.intro ?_ ?_)); (all_goals first | (refine hK _ ?_; clear hK K) | exact auto_cl | skip)) | ((first | apply cw_ite | apply cw_iteN); (case hf => rfl); (case hc => simp (maxSteps := 1000000) (disch := omega) only [go_sem]; rfl); (all_goals first | (intro hb; (try simp only [hbs] at hb)) | skip)) | exact atN_intro | ((first | apply cw_if | apply cw_cond); (case hc => simp (maxSteps := 1000000) (disch := omega) only [go_sem]; rfl); (all_goals (intro hb; (try simp only [hbs] at hb); try (exfalso; omega)))) | (refine cw_blocks (fun KB hB => ?_)) | (refine cw_block ?_) | ((first | refine cw_exits ?_ | refine cw_exit ?_ | refine cw_skip ?_); simp (maxSteps := 1000000) (disch := omega) only [go_sem]) | (refine hB _ ?_; clear hB KB) | (refine exit_by (S := Sg) (by assumption) ?_) | ((first | refine cw_rets ?_ | refine cw_ret ?_); simp (maxSteps := 1000000) (disch := omega) only [go_sem]; (try clear hB KB); (try clear hK K)))
      rw [hc2]
end Go.Proofs.YtkjdljcbpbeehaaDoor

/- Copies of slices. -/
set_option linter.unusedSimpArgs false
set_option linter.unusedVariables false
set_option maxRecDepth 8000
set_option maxHeartbeats 2000000
namespace Go.Proofs.YtkjdljcbpbeehaaDoor
open Go Go.SL
open Go.RowKit (wrap64)

theorem appF0 {n : Nat} {f g : Nat → Nat → PV} {sz : Nat} : PV.le (.lst sz (0 + n) (appF 0 f g)) (.lst sz n g) := by
  rw [Nat.zero_add]
  exact lst_le fun i hi j hj => by unfold appF; rw [if_neg (Nat.not_lt_zero i), Nat.sub_zero]
theorem appF0v {f g : Nat → Nat → PV} (i j : Nat) : appF 0 f g i j = g i j := by unfold appF; rw [if_neg (Nat.not_lt_zero i), Nat.sub_zero]
theorem cloneU_spec (n : Nat) (g : Nat → Nat → PV) (hn : n ≤ 1000000000) : Pure Sg 87 [.c (.p (.lst 1 n g))] (fun x => x = .b (.c (.p (.lst 1 n g)))) := by
  rcases Nat.eq_zero_or_pos n with h0 | h0
  · subst h0
    refine pure_lst0 fun a c => ?_
    cases a with
    | none =>
      refine pure_le ?_
      refine pure_of Tryd.func87 rfl (rs := [.tmp 2]) rfl rfl mixed (by decide +kernel) (Nat.le_of_ble_eq_true rfl) (argsLt_mem (by simp (maxSteps := 1000000) (disch := omega) only [go_sem])) ?_
      repeat' (first | refine cw_assoc ?_ | refine cw_skips ?_ | refine cw_labels ?_ | ((first | refine cw_step (fun K hK => ?_) | refine cw_last (fun K hK => ?_) | refine cw_stepD (by decide +kernel) (by decide +kernel) (fun K hK => ?_) | refine cw_lastD (by decide +kernel) (by decide +kernel) (fun K hK => ?_) | refine rgB_some ?_); (try simp (maxSteps := 1000000) (disch := omega) only [go_sem]); (repeat' (refine And.intro ?_ ?_)); (all_goals first | (refine hK _ ?_; clear hK K) | exact auto_cl | skip)) | ((first | apply cw_ite | apply cw_iteN); (case hf => rfl); (case hc => simp (maxSteps := 1000000) (disch := omega) only [go_sem]; rfl); (all_goals first | (intro hb; (try simp only [hbs] at hb)) | skip)) | exact atN_intro | ((first | apply cw_if | apply cw_cond); (case hc => simp (maxSteps := 1000000) (disch := omega) only [go_sem]; rfl); (all_goals (intro hb; (try simp only [hbs] at hb); try (exfalso; omega)))) | (refine cw_blocks (fun KB hB => ?_)) | (refine cw_block ?_) | ((first | refine cw_exits ?_ | refine cw_exit ?_ | refine cw_skip ?_); simp (maxSteps := 1000000) (disch := omega) only [go_sem]) | (refine hB _ ?_; clear hB KB) | (refine exit_by (S := Sg) (by assumption) ?_) | ((first | refine cw_rets ?_ | refine cw_ret ?_); simp (maxSteps := 1000000) (disch := omega) only [go_sem]; (try clear hB KB); (try clear hK K)))
      exact sle_b (ble_c nil_le)
    | some a =>
      refine pure_le ?_
      refine pure_of Tryd.func87 rfl (rs := [.tmp 2]) rfl rfl mixed (by decide +kernel) (Nat.le_of_ble_eq_true rfl) (argsLt_mem (by simp (maxSteps := 1000000) (disch := omega) only [go_sem])) ?_
      repeat' (first | refine cw_assoc ?_ | refine cw_skips ?_ | refine cw_labels ?_ | ((first | (with_reducible refine cw_stepV (id := 1) (fun K hW => ?_)) | refine cw_step (fun K hK => ?_) | refine cw_last (fun K hK => ?_) | refine cw_stepD (by decide +kernel) (by decide +kernel) (fun K hK => ?_) | refine cw_lastD (by decide +kernel) (by decide +kernel) (fun K hK => ?_) | refine rgB_some ?_); (try simp (maxSteps := 1000000) (disch := omega) only [go_sem]); (repeat' (refine And.intro ?_ ?_)); (all_goals first | (refine hK _ ?_; clear hK K) | exact auto_cl | skip)) | ((first | apply cw_ite | apply cw_iteN); (case hf => rfl); (case hc => simp (maxSteps := 1000000) (disch := omega) only [go_sem]; rfl); (all_goals first | (intro hb; (try simp only [hbs] at hb)) | skip)) | exact atN_intro | ((first | apply cw_if | apply cw_cond); (case hc => simp (maxSteps := 1000000) (disch := omega) only [go_sem]; rfl); (all_goals (intro hb; (try simp only [hbs] at hb); try (exfalso; omega)))) | (refine cw_blocks (fun KB hB => ?_)) | (refine cw_block ?_) | ((first | refine cw_exits ?_ | refine cw_exit ?_ | refine cw_skip ?_); simp (maxSteps := 1000000) (disch := omega) only [go_sem]) | (refine hB _ ?_; clear hB KB) | (refine exit_by (S := Sg) (by assumption) ?_) | ((first | refine cw_rets ?_ | refine cw_ret ?_); simp (maxSteps := 1000000) (disch := omega) only [go_sem]; (try clear hB KB); (try clear hK K)))
      refine hW _ (mkSt [(0, .b (.c (.p (.lst 1 0 g)))), (4, .b (B false))] [] 1) ?_ ?_
      · refine le_of [] rfl (by decide) rfl ?_ ?_
        all_goals simp (maxSteps := 1000000) (disch := omega) only [go_sem]
        repeat' (refine And.intro ?_ ?_)
        all_goals first | rfl | omega | exact .inl rfl | trivial | skip
        exact le_lst0
      clear hW
      repeat' (first | refine cw_assoc ?_ | refine cw_skips ?_ | refine cw_labels ?_ | ((first | refine cw_step (fun K hK => ?_) | refine cw_last (fun K hK => ?_) | refine cw_stepD (by decide +kernel) (by decide +kernel) (fun K hK => ?_) | refine cw_lastD (by decide +kernel) (by decide +kernel) (fun K hK => ?_) | refine rgB_some ?_); (try simp (maxSteps := 1000000) (disch := omega) only [go_sem]); (repeat' (refine And.intro ?_ ?_)); (all_goals first | (refine hK _ ?_; clear hK K) | exact auto_cl | skip)) | ((first | apply cw_ite | apply cw_iteN); (case hf => rfl); (case hc => simp (maxSteps := 1000000) (disch := omega) only [go_sem]; rfl); (all_goals first | (intro hb; (try simp only [hbs] at hb)) | skip)) | exact atN_intro | ((first | apply cw_if | apply cw_cond); (case hc => simp (maxSteps := 1000000) (disch := omega) only [go_sem]; rfl); (all_goals (intro hb; (try simp only [hbs] at hb); try (exfalso; omega)))) | (refine cw_blocks (fun KB hB => ?_)) | (refine cw_block ?_) | ((first | refine cw_exits ?_ | refine cw_exit ?_ | refine cw_skip ?_); simp (maxSteps := 1000000) (disch := omega) only [go_sem]) | (refine hB _ ?_; clear hB KB) | (refine exit_by (S := Sg) (by assumption) ?_) | ((first | refine cw_rets ?_ | refine cw_ret ?_); simp (maxSteps := 1000000) (disch := omega) only [go_sem]; (try clear hB KB); (try clear hK K)))
      · exact absurd hb (by decide)
      · first | exact sle_b (ble_c appF0) | exact sle_b (ble_c lst_le0)
  · refine pure_le ?_
    refine pure_of Tryd.func87 rfl (rs := [.tmp 2]) rfl rfl mixed (by decide +kernel) (Nat.le_of_ble_eq_true rfl) (argsLt_mem (by simp (maxSteps := 1000000) (disch := omega) only [go_sem])) ?_
    repeat' (first | refine cw_assoc ?_ | refine cw_skips ?_ | refine cw_labels ?_ | ((first | refine cw_step (fun K hK => ?_) | refine cw_last (fun K hK => ?_) | refine cw_stepD (by decide +kernel) (by decide +kernel) (fun K hK => ?_) | refine cw_lastD (by decide +kernel) (by decide +kernel) (fun K hK => ?_) | refine rgB_some ?_); (try simp (maxSteps := 1000000) (disch := omega) only [go_sem]); (repeat' (refine And.intro ?_ ?_)); (all_goals first | (refine hK _ ?_; clear hK K) | exact auto_cl | skip)) | ((first | apply cw_ite | apply cw_iteN); (case hf => rfl); (case hc => simp (maxSteps := 1000000) (disch := omega) only [go_sem]; rfl); (all_goals first | (intro hb; (try simp only [hbs] at hb)) | skip)) | exact atN_intro | ((first | apply cw_if | apply cw_cond); (case hc => simp (maxSteps := 1000000) (disch := omega) only [go_sem]; rfl); (all_goals (intro hb; (try simp only [hbs] at hb); try (exfalso; omega)))) | (refine cw_blocks (fun KB hB => ?_)) | (refine cw_block ?_) | ((first | refine cw_exits ?_ | refine cw_exit ?_ | refine cw_skip ?_); simp (maxSteps := 1000000) (disch := omega) only [go_sem]) | (refine hB _ ?_; clear hB KB) | (refine exit_by (S := Sg) (by assumption) ?_) | ((first | refine cw_rets ?_ | refine cw_ret ?_); simp (maxSteps := 1000000) (disch := omega) only [go_sem]; (try clear hB KB); (try clear hK K)))
    · exact absurd hb (by decide)
    · exact sle_b (ble_c appF0)
theorem cloneI_spec (n : Nat) (g : Nat → Nat → PV) (hn : n ≤ 1000000000) : Pure Sg 85 [.c (.p (.lst 1 n g))] (fun x => x = .b (.c (.p (.lst 1 n g)))) := by
  rcases Nat.eq_zero_or_pos n with h0 | h0
  · subst h0
    refine pure_lst0 fun a c => ?_
    cases a with
    | none =>
      refine pure_le ?_
      refine pure_of Tryd.func85 rfl (rs := [.tmp 2]) rfl rfl mixed (by decide +kernel) (Nat.le_of_ble_eq_true rfl) (argsLt_mem (by simp (maxSteps := 1000000) (disch := omega) only [go_sem])) ?_
      repeat' (first | refine cw_assoc ?_ | refine cw_skips ?_ | refine cw_labels ?_ | ((first | refine cw_step (fun K hK => ?_) | refine cw_last (fun K hK => ?_) | refine cw_stepD (by decide +kernel) (by decide +kernel) (fun K hK => ?_) | refine cw_lastD (by decide +kernel) (by decide +kernel) (fun K hK => ?_) | refine rgB_some ?_); (try simp (maxSteps := 1000000) (disch := omega) only [go_sem]); (repeat' (refine And.intro ?_ ?_)); (all_goals first | (refine hK _ ?_; clear hK K) | exact auto_cl | skip)) | ((first | apply cw_ite | apply cw_iteN); (case hf => rfl); (case hc => simp (maxSteps := 1000000) (disch := omega) only [go_sem]; rfl); (all_goals first | (intro hb; (try simp only [hbs] at hb)) | skip)) | exact atN_intro | ((first | apply cw_if | apply cw_cond); (case hc => simp (maxSteps := 1000000) (disch := omega) only [go_sem]; rfl); (all_goals (intro hb; (try simp only [hbs] at hb); try (exfalso; omega)))) | (refine cw_blocks (fun KB hB => ?_)) | (refine cw_block ?_) | ((first | refine cw_exits ?_ | refine cw_exit ?_ | refine cw_skip ?_); simp (maxSteps := 1000000) (disch := omega) only [go_sem]) | (refine hB _ ?_; clear hB KB) | (refine exit_by (S := Sg) (by assumption) ?_) | ((first | refine cw_rets ?_ | refine cw_ret ?_); simp (maxSteps := 1000000) (disch := omega) only [go_sem]; (try clear hB KB); (try clear hK K)))
      exact sle_b (ble_c nil_le)
    | some a =>
      refine pure_le ?_
      refine pure_of Tryd.func85 rfl (rs := [.tmp 2]) rfl rfl mixed (by decide +kernel) (Nat.le_of_ble_eq_true rfl) (argsLt_mem (by simp (maxSteps := 1000000) (disch := omega) only [go_sem])) ?_
      repeat' (first | refine cw_assoc ?_ | refine cw_skips ?_ | refine cw_labels ?_ | ((first | (with_reducible refine cw_stepV (id := 1) (fun K hW => ?_)) | refine cw_step (fun K hK => ?_) | refine cw_last (fun K hK => ?_) | refine cw_stepD (by decide +kernel) (by decide +kernel) (fun K hK => ?_) | refine cw_lastD (by decide +kernel) (by decide +kernel) (fun K hK => ?_) | refine rgB_some ?_); (try simp (maxSteps := 1000000) (disch := omega) only [go_sem]); (repeat' (refine And.intro ?_ ?_)); (all_goals first | (refine hK _ ?_; clear hK K) | exact auto_cl | skip)) | ((first | apply cw_ite | apply cw_iteN); (case hf => rfl); (case hc => simp (maxSteps := 1000000) (disch := omega) only [go_sem]; rfl); (all_goals first | (intro hb; (try simp only [hbs] at hb)) | skip)) | exact atN_intro | ((first | apply cw_if | apply cw_cond); (case hc => simp (maxSteps := 1000000) (disch := omega) only [go_sem]; rfl); (all_goals (intro hb; (try simp only [hbs] at hb); try (exfalso; omega)))) | (refine cw_blocks (fun KB hB => ?_)) | (refine cw_block ?_) | ((first | refine cw_exits ?_ | refine cw_exit ?_ | refine cw_skip ?_); simp (maxSteps := 1000000) (disch := omega) only [go_sem]) | (refine hB _ ?_; clear hB KB) | (refine exit_by (S := Sg) (by assumption) ?_) | ((first | refine cw_rets ?_ | refine cw_ret ?_); simp (maxSteps := 1000000) (disch := omega) only [go_sem]; (try clear hB KB); (try clear hK K)))
      refine hW _ (mkSt [(0, .b (.c (.p (.lst 1 0 g)))), (4, .b (B false))] [] 1) ?_ ?_
      · refine le_of [] rfl (by decide) rfl ?_ ?_
        all_goals simp (maxSteps := 1000000) (disch := omega) only [go_sem]
        repeat' (refine And.intro ?_ ?_)
        all_goals first | rfl | omega | exact .inl rfl | trivial | skip
        exact le_lst0
      clear hW
      repeat' (first | refine cw_assoc ?_ | refine cw_skips ?_ | refine cw_labels ?_ | ((first | refine cw_step (fun K hK => ?_) | refine cw_last (fun K hK => ?_) | refine cw_stepD (by decide +kernel) (by decide +kernel) (fun K hK => ?_) | refine cw_lastD (by decide +kernel) (by decide +kernel) (fun K hK => ?_) | refine rgB_some ?_); (try simp (maxSteps := 1000000) (disch := omega) only [go_sem]); (repeat' (refine And.intro ?_ ?_)); (all_goals first | (refine hK _ ?_; clear hK K) | exact auto_cl | skip)) | ((first | apply cw_ite | apply cw_iteN); (case hf => rfl); (case hc => simp (maxSteps := 1000000) (disch := omega) only [go_sem]; rfl); (all_goals first | (intro hb; (try simp only [hbs] at hb)) | skip)) | exact atN_intro | ((first | apply cw_if | apply cw_cond); (case hc => simp (maxSteps := 1000000) (disch := omega) only [go_sem]; rfl); (all_goals (intro hb; (try simp only [hbs] at hb); try (exfalso; omega)))) | (refine cw_blocks (fun KB hB => ?_)) | (refine cw_block ?_) | ((first | refine cw_exits ?_ | refine cw_exit ?_ | refine cw_skip ?_); simp (maxSteps := 1000000) (disch := omega) only [go_sem]) | (refine hB _ ?_; clear hB KB) | (refine exit_by (S := Sg) (by assumption) ?_) | ((first | refine cw_rets ?_ | refine cw_ret ?_); simp (maxSteps := 1000000) (disch := omega) only [go_sem]; (try clear hB KB); (try clear hK K)))
      · exact absurd hb (by decide)
      · first | exact sle_b (ble_c appF0) | exact sle_b (ble_c lst_le0)
  · refine pure_le ?_
    refine pure_of Tryd.func85 rfl (rs := [.tmp 2]) rfl rfl mixed (by decide +kernel) (Nat.le_of_ble_eq_true rfl) (argsLt_mem (by simp (maxSteps := 1000000) (disch := omega) only [go_sem])) ?_
    repeat' (first | refine cw_assoc ?_ | refine cw_skips ?_ | refine cw_labels ?_ | ((first | refine cw_step (fun K hK => ?_) | refine cw_last (fun K hK => ?_) | refine cw_stepD (by decide +kernel) (by decide +kernel) (fun K hK => ?_) | refine cw_lastD (by decide +kernel) (by decide +kernel) (fun K hK => ?_) | refine rgB_some ?_); (try simp (maxSteps := 1000000) (disch := omega) only [go_sem]); (repeat' (refine And.intro ?_ ?_)); (all_goals first | (refine hK _ ?_; clear hK K) | exact auto_cl | skip)) | ((first | apply cw_ite | apply cw_iteN); (case hf => rfl); (case hc => simp (maxSteps := 1000000) (disch := omega) only [go_sem]; rfl); (all_goals first | (intro hb; (try simp only [hbs] at hb)) | skip)) | exact atN_intro | ((first | apply cw_if | apply cw_cond); (case hc => simp (maxSteps := 1000000) (disch := omega) only [go_sem]; rfl); (all_goals (intro hb; (try simp only [hbs] at hb); try (exfalso; omega)))) | (refine cw_blocks (fun KB hB => ?_)) | (refine cw_block ?_) | ((first | refine cw_exits ?_ | refine cw_exit ?_ | refine cw_skip ?_); simp (maxSteps := 1000000) (disch := omega) only [go_sem]) | (refine hB _ ?_; clear hB KB) | (refine exit_by (S := Sg) (by assumption) ?_) | ((first | refine cw_rets ?_ | refine cw_ret ?_); simp (maxSteps := 1000000) (disch := omega) only [go_sem]; (try clear hB KB); (try clear hK K)))
    · exact absurd hb (by decide)
    · exact sle_b (ble_c appF0)
theorem cloneOps_spec (n : Nat) (g : Nat → Nat → PV) (hn : n ≤ 1000000000) : Pure Sg 88 [.c (.p (.lst 12 n g))] (fun x => x = .b (.c (.p (.lst 12 n g)))) := by
  rcases Nat.eq_zero_or_pos n with h0 | h0
  · subst h0
    refine pure_lst0 fun a c => ?_
    cases a with
    | none =>
      refine pure_le ?_
      refine pure_of Tryd.func88 rfl (rs := [.tmp 2]) rfl rfl mixed (by decide +kernel) (Nat.le_of_ble_eq_true rfl) (argsLt_mem (by simp (maxSteps := 1000000) (disch := omega) only [go_sem])) ?_
      repeat' (first | refine cw_assoc ?_ | refine cw_skips ?_ | refine cw_labels ?_ | ((first | refine cw_step (fun K hK => ?_) | refine cw_last (fun K hK => ?_) | refine cw_stepD (by decide +kernel) (by decide +kernel) (fun K hK => ?_) | refine cw_lastD (by decide +kernel) (by decide +kernel) (fun K hK => ?_) | refine rgB_some ?_); (try simp (maxSteps := 1000000) (disch := omega) only [go_sem]); (repeat' (refine And.intro ?_ ?_)); (all_goals first | (refine hK _ ?_; clear hK K) | exact auto_cl | skip)) | ((first | apply cw_ite | apply cw_iteN); (case hf => rfl); (case hc => simp (maxSteps := 1000000) (disch := omega) only [go_sem]; rfl); (all_goals first | (intro hb; (try simp only [hbs] at hb)) | skip)) | exact atN_intro | ((first | apply cw_if | apply cw_cond); (case hc => simp (maxSteps := 1000000) (disch := omega) only [go_sem]; rfl); (all_goals (intro hb; (try simp only [hbs] at hb); try (exfalso; omega)))) | (refine cw_blocks (fun KB hB => ?_)) | (refine cw_block ?_) | ((first | refine cw_exits ?_ | refine cw_exit ?_ | refine cw_skip ?_); simp (maxSteps := 1000000) (disch := omega) only [go_sem]) | (refine hB _ ?_; clear hB KB) | (refine exit_by (S := Sg) (by assumption) ?_) | ((first | refine cw_rets ?_ | refine cw_ret ?_); simp (maxSteps := 1000000) (disch := omega) only [go_sem]; (try clear hB KB); (try clear hK K)))
      exact sle_b (ble_c nil_le)
    | some a =>
      refine pure_le ?_
      refine pure_of Tryd.func88 rfl (rs := [.tmp 2]) rfl rfl mixed (by decide +kernel) (Nat.le_of_ble_eq_true rfl) (argsLt_mem (by simp (maxSteps := 1000000) (disch := omega) only [go_sem])) ?_
      repeat' (first | refine cw_assoc ?_ | refine cw_skips ?_ | refine cw_labels ?_ | ((first | (with_reducible refine cw_stepV (id := 1) (fun K hW => ?_)) | refine cw_step (fun K hK => ?_) | refine cw_last (fun K hK => ?_) | refine cw_stepD (by decide +kernel) (by decide +kernel) (fun K hK => ?_) | refine cw_lastD (by decide +kernel) (by decide +kernel) (fun K hK => ?_) | refine rgB_some ?_); (try simp (maxSteps := 1000000) (disch := omega) only [go_sem]); (repeat' (refine And.intro ?_ ?_)); (all_goals first | (refine hK _ ?_; clear hK K) | exact auto_cl | skip)) | ((first | apply cw_ite | apply cw_iteN); (case hf => rfl); (case hc => simp (maxSteps := 1000000) (disch := omega) only [go_sem]; rfl); (all_goals first | (intro hb; (try simp only [hbs] at hb)) | skip)) | exact atN_intro | ((first | apply cw_if | apply cw_cond); (case hc => simp (maxSteps := 1000000) (disch := omega) only [go_sem]; rfl); (all_goals (intro hb; (try simp only [hbs] at hb); try (exfalso; omega)))) | (refine cw_blocks (fun KB hB => ?_)) | (refine cw_block ?_) | ((first | refine cw_exits ?_ | refine cw_exit ?_ | refine cw_skip ?_); simp (maxSteps := 1000000) (disch := omega) only [go_sem]) | (refine hB _ ?_; clear hB KB) | (refine exit_by (S := Sg) (by assumption) ?_) | ((first | refine cw_rets ?_ | refine cw_ret ?_); simp (maxSteps := 1000000) (disch := omega) only [go_sem]; (try clear hB KB); (try clear hK K)))
      refine hW _ (mkSt [(0, .b (.c (.p (.lst 12 0 g)))), (4, .b (B false))] [] 1) ?_ ?_
      · refine le_of [] rfl (by decide) rfl ?_ ?_
        all_goals simp (maxSteps := 1000000) (disch := omega) only [go_sem]
        repeat' (refine And.intro ?_ ?_)
        all_goals first | rfl | omega | exact .inl rfl | trivial | skip
        exact le_lst0
      clear hW
      repeat' (first | refine cw_assoc ?_ | refine cw_skips ?_ | refine cw_labels ?_ | ((first | refine cw_step (fun K hK => ?_) | refine cw_last (fun K hK => ?_) | refine cw_stepD (by decide +kernel) (by decide +kernel) (fun K hK => ?_) | refine cw_lastD (by decide +kernel) (by decide +kernel) (fun K hK => ?_) | refine rgB_some ?_); (try simp (maxSteps := 1000000) (disch := omega) only [go_sem]); (repeat' (refine And.intro ?_ ?_)); (all_goals first | (refine hK _ ?_; clear hK K) | exact auto_cl | skip)) | ((first | apply cw_ite | apply cw_iteN); (case hf => rfl); (case hc => simp (maxSteps := 1000000) (disch := omega) only [go_sem]; rfl); (all_goals first | (intro hb; (try simp only [hbs] at hb)) | skip)) | exact atN_intro | ((first | apply cw_if | apply cw_cond); (case hc => simp (maxSteps := 1000000) (disch := omega) only [go_sem]; rfl); (all_goals (intro hb; (try simp only [hbs] at hb); try (exfalso; omega)))) | (refine cw_blocks (fun KB hB => ?_)) | (refine cw_block ?_) | ((first | refine cw_exits ?_ | refine cw_exit ?_ | refine cw_skip ?_); simp (maxSteps := 1000000) (disch := omega) only [go_sem]) | (refine hB _ ?_; clear hB KB) | (refine exit_by (S := Sg) (by assumption) ?_) | ((first | refine cw_rets ?_ | refine cw_ret ?_); simp (maxSteps := 1000000) (disch := omega) only [go_sem]; (try clear hB KB); (try clear hK K)))
      · exact absurd hb (by decide)
      · first | exact sle_b (ble_c appF0) | exact sle_b (ble_c lst_le0)
  · refine pure_le ?_
    refine pure_of Tryd.func88 rfl (rs := [.tmp 2]) rfl rfl mixed (by decide +kernel) (Nat.le_of_ble_eq_true rfl) (argsLt_mem (by simp (maxSteps := 1000000) (disch := omega) only [go_sem])) ?_
    repeat' (first | refine cw_assoc ?_ | refine cw_skips ?_ | refine cw_labels ?_ | ((first | refine cw_step (fun K hK => ?_) | refine cw_last (fun K hK => ?_) | refine cw_stepD (by decide +kernel) (by decide +kernel) (fun K hK => ?_) | refine cw_lastD (by decide +kernel) (by decide +kernel) (fun K hK => ?_) | refine rgB_some ?_); (try simp (maxSteps := 1000000) (disch := omega) only [go_sem]); (repeat' (refine And.intro ?_ ?_)); (all_goals first | (refine hK _ ?_; clear hK K) | exact auto_cl | skip)) | ((first | apply cw_ite | apply cw_iteN); (case hf => rfl); (case hc => simp (maxSteps := 1000000) (disch := omega) only [go_sem]; rfl); (all_goals first | (intro hb; (try simp only [hbs] at hb)) | skip)) | exact atN_intro | ((first | apply cw_if | apply cw_cond); (case hc => simp (maxSteps := 1000000) (disch := omega) only [go_sem]; rfl); (all_goals (intro hb; (try simp only [hbs] at hb); try (exfalso; omega)))) | (refine cw_blocks (fun KB hB => ?_)) | (refine cw_block ?_) | ((first | refine cw_exits ?_ | refine cw_exit ?_ | refine cw_skip ?_); simp (maxSteps := 1000000) (disch := omega) only [go_sem]) | (refine hB _ ?_; clear hB KB) | (refine exit_by (S := Sg) (by assumption) ?_) | ((first | refine cw_rets ?_ | refine cw_ret ?_); simp (maxSteps := 1000000) (disch := omega) only [go_sem]; (try clear hB KB); (try clear hK K)))
    · exact absurd hb (by decide)
    · exact sle_b (ble_c appF0)
theorem cloneOps_own (n : Nat) (g : Nat → Nat → PV) (hn : n ≤ 1000000000) (hv : ∀ i, i < n → ∀ j, j < 12 → ∃ u, g i j = .val u) :
    PureOwn Sg 88 [.c (.p (.lst 12 n g))] 62 12 n g := by
  rcases Nat.eq_zero_or_pos n with h0 | h0
  · subst h0
    refine own_lst0 fun a c => ?_
    cases a with
    | none =>
      refine own_nil (by decide) ?_
      refine pure_of Tryd.func88 rfl (rs := [.tmp 2]) rfl rfl mixed (by decide +kernel) (Nat.le_of_ble_eq_true rfl) (argsLt_mem (by simp (maxSteps := 1000000) (disch := omega) only [go_sem])) ?_
      repeat' (first | refine cw_assoc ?_ | refine cw_skips ?_ | refine cw_labels ?_ | ((first | refine cw_step (fun K hK => ?_) | refine cw_last (fun K hK => ?_) | refine cw_stepD (by decide +kernel) (by decide +kernel) (fun K hK => ?_) | refine cw_lastD (by decide +kernel) (by decide +kernel) (fun K hK => ?_) | refine rgB_some ?_); (try simp (maxSteps := 1000000) (disch := omega) only [go_sem]); (repeat' (refine And.intro ?_ ?_)); (all_goals first | (refine hK _ ?_; clear hK K) | exact auto_cl | skip)) | ((first | apply cw_ite | apply cw_iteN); (case hf => rfl); (case hc => simp (maxSteps := 1000000) (disch := omega) only [go_sem]; rfl); (all_goals first | (intro hb; (try simp only [hbs] at hb)) | skip)) | exact atN_intro | ((first | apply cw_if | apply cw_cond); (case hc => simp (maxSteps := 1000000) (disch := omega) only [go_sem]; rfl); (all_goals (intro hb; (try simp only [hbs] at hb); try (exfalso; omega)))) | (refine cw_blocks (fun KB hB => ?_)) | (refine cw_block ?_) | ((first | refine cw_exits ?_ | refine cw_exit ?_ | refine cw_skip ?_); simp (maxSteps := 1000000) (disch := omega) only [go_sem]) | (refine hB _ ?_; clear hB KB) | (refine exit_by (S := Sg) (by assumption) ?_) | ((first | refine cw_rets ?_ | refine cw_ret ?_); simp (maxSteps := 1000000) (disch := omega) only [go_sem]; (try clear hB KB); (try clear hK K)))
      all_goals rfl
    | some a =>
      refine own_of Tryd.func88 rfl (rs := [.tmp 2]) rfl rfl mixed (by decide +kernel) (Nat.le_of_ble_eq_true rfl) (argsLt_mem (by simp (maxSteps := 1000000) (disch := omega) only [go_sem])) ?_
      repeat' (first | refine cw_assoc ?_ | refine cw_skips ?_ | refine cw_labels ?_ | ((first | (with_reducible refine cw_stepV (id := 1) (fun K hW => ?_)) | refine cw_step (fun K hK => ?_) | refine cw_last (fun K hK => ?_) | refine cw_stepD (by decide +kernel) (by decide +kernel) (fun K hK => ?_) | refine cw_lastD (by decide +kernel) (by decide +kernel) (fun K hK => ?_) | refine rgB_some ?_); (try simp (maxSteps := 1000000) (disch := omega) only [go_sem]); (repeat' (refine And.intro ?_ ?_)); (all_goals first | (refine hK _ ?_; clear hK K) | exact auto_cl | skip)) | ((first | apply cw_ite | apply cw_iteN); (case hf => rfl); (case hc => simp (maxSteps := 1000000) (disch := omega) only [go_sem]; rfl); (all_goals first | (intro hb; (try simp only [hbs] at hb)) | skip)) | exact atN_intro | ((first | apply cw_if | apply cw_cond); (case hc => simp (maxSteps := 1000000) (disch := omega) only [go_sem]; rfl); (all_goals (intro hb; (try simp only [hbs] at hb); try (exfalso; omega)))) | (refine cw_blocks (fun KB hB => ?_)) | (refine cw_block ?_) | ((first | refine cw_exits ?_ | refine cw_exit ?_ | refine cw_skip ?_); simp (maxSteps := 1000000) (disch := omega) only [go_sem]) | (refine hB _ ?_; clear hB KB) | (refine exit_by (S := Sg) (by assumption) ?_) | ((first | refine cw_rets ?_ | refine cw_ret ?_); simp (maxSteps := 1000000) (disch := omega) only [go_sem]; (try clear hB KB); (try clear hK K)))
      refine hW _ (mkSt [(0, .b (.c (.p (.lst 12 0 g)))), (4, .b (B false))] [] 1) ?_ ?_
      · refine le_of [] rfl (by decide) rfl ?_ ?_
        all_goals simp (maxSteps := 1000000) (disch := omega) only [go_sem]
        repeat' (refine And.intro ?_ ?_)
        all_goals first | rfl | omega | exact .inl rfl | trivial | skip
        exact le_lst0
      clear hW
      repeat' (first | refine cw_assoc ?_ | refine cw_skips ?_ | refine cw_labels ?_ | ((first | refine cw_step (fun K hK => ?_) | refine cw_last (fun K hK => ?_) | refine cw_stepD (by decide +kernel) (by decide +kernel) (fun K hK => ?_) | refine cw_lastD (by decide +kernel) (by decide +kernel) (fun K hK => ?_) | refine rgB_some ?_); (try simp (maxSteps := 1000000) (disch := omega) only [go_sem]); (repeat' (refine And.intro ?_ ?_)); (all_goals first | (refine hK _ ?_; clear hK K) | exact auto_cl | skip)) | ((first | apply cw_ite | apply cw_iteN); (case hf => rfl); (case hc => simp (maxSteps := 1000000) (disch := omega) only [go_sem]; rfl); (all_goals first | (intro hb; (try simp only [hbs] at hb)) | skip)) | exact atN_intro | ((first | apply cw_if | apply cw_cond); (case hc => simp (maxSteps := 1000000) (disch := omega) only [go_sem]; rfl); (all_goals (intro hb; (try simp only [hbs] at hb); try (exfalso; omega)))) | (refine cw_blocks (fun KB hB => ?_)) | (refine cw_block ?_) | ((first | refine cw_exits ?_ | refine cw_exit ?_ | refine cw_skip ?_); simp (maxSteps := 1000000) (disch := omega) only [go_sem]) | (refine hB _ ?_; clear hB KB) | (refine exit_by (S := Sg) (by assumption) ?_) | ((first | refine cw_rets ?_ | refine cw_ret ?_); simp (maxSteps := 1000000) (disch := omega) only [go_sem]; (try clear hB KB); (try clear hK K)))
      · exact absurd hb (by decide)
      · exact ⟨_, rfl, fun i hi => absurd hi (Nat.not_lt_zero i)⟩
  · refine own_of Tryd.func88 rfl (rs := [.tmp 2]) rfl rfl mixed (by decide +kernel) (Nat.le_of_ble_eq_true rfl) (argsLt_mem (by simp (maxSteps := 1000000) (disch := omega) only [go_sem])) ?_
    repeat' (first | refine cw_assoc ?_ | refine cw_skips ?_ | refine cw_labels ?_ | ((first | refine cw_step (fun K hK => ?_) | refine cw_last (fun K hK => ?_) | refine cw_stepD (by decide +kernel) (by decide +kernel) (fun K hK => ?_) | refine cw_lastD (by decide +kernel) (by decide +kernel) (fun K hK => ?_) | refine rgB_some ?_); (try simp (maxSteps := 1000000) (disch := omega) only [go_sem]); (repeat' (refine And.intro ?_ ?_)); (all_goals first | (refine hK _ ?_; clear hK K) | exact auto_cl | skip)) | ((first | apply cw_ite | apply cw_iteN); (case hf => rfl); (case hc => simp (maxSteps := 1000000) (disch := omega) only [go_sem]; rfl); (all_goals first | (intro hb; (try simp only [hbs] at hb)) | skip)) | exact atN_intro | ((first | apply cw_if | apply cw_cond); (case hc => simp (maxSteps := 1000000) (disch := omega) only [go_sem]; rfl); (all_goals (intro hb; (try simp only [hbs] at hb); try (exfalso; omega)))) | (refine cw_blocks (fun KB hB => ?_)) | (refine cw_block ?_) | ((first | refine cw_exits ?_ | refine cw_exit ?_ | refine cw_skip ?_); simp (maxSteps := 1000000) (disch := omega) only [go_sem]) | (refine hB _ ?_; clear hB KB) | (refine exit_by (S := Sg) (by assumption) ?_) | ((first | refine cw_rets ?_ | refine cw_ret ?_); simp (maxSteps := 1000000) (disch := omega) only [go_sem]; (try clear hB KB); (try clear hK K)))
    · exact absurd hb (by decide)
    · simp only [Nat.zero_add]
      exact ⟨_, rfl, trivial, fun i hi j hj => by
        obtain ⟨u, hu⟩ := hv i hi j hj
        exact ⟨u, by rw [appF0v]; exact hu, hu⟩⟩
theorem cloneImg_inl (bx : Nat → Option Bx) (nx n : Nat) (g : Nat → Nat → PV) (h0 : 0 < n) (hn : n ≤ 1000000000) (hw : ∀ i, nx ≤ i → bx i = none) :
    ∃ F, (∀ i j, F i j = g i j) ∧ ∃ G, InlP Sg bx nx 86 [.c (.p (.lst 28 n g))] (.b (.c (.own (nx + 1) n)))
      (bxIns (nx + 1) (.arr 45 28 n F) (bxDel nx (bxIns nx (.arr 45 28 0 G) bx))) (nx + 2) := by
  refine ⟨?F, ?hF, ?G, ?hI⟩
  case hI =>
    refine inl_of Tryd.func86 rfl (rs := [.tmp 2]) rfl rfl mixed (by decide +kernel) (Nat.le_of_ble_eq_true rfl) ?_ (fun kf => ?_)
    · intro v hv
      simp only [List.mem_cons, List.not_mem_nil, or_false] at hv
      rcases hv with rfl
      trivial
    repeat' (first | refine cw_assoc ?_ | refine cw_skips ?_ | refine cw_labels ?_ | ((first | refine cw_step (fun K hK => ?_) | refine cw_last (fun K hK => ?_) | refine cw_stepD (by decide +kernel) (by decide +kernel) (fun K hK => ?_) | refine cw_lastD (by decide +kernel) (by decide +kernel) (fun K hK => ?_) | refine rgB_some ?_); (try simp (maxSteps := 1000000) (disch := omega) only [go_sem]); (repeat' (refine And.intro ?_ ?_)); (all_goals first | (refine hK _ ?_; clear hK K) | exact auto_cl | skip)) | ((first | apply cw_ite | apply cw_iteN); (case hf => rfl); (case hc => simp (maxSteps := 1000000) (disch := omega) only [go_sem]; rfl); (all_goals first | (intro hb; (try simp only [hbs] at hb)) | skip)) | exact atN_intro | ((first | apply cw_if | apply cw_cond); (case hc => simp (maxSteps := 1000000) (disch := omega) only [go_sem]; rfl); (all_goals (intro hb; (try simp only [hbs] at hb); try (exfalso; omega)))) | (refine cw_blocks (fun KB hB => ?_)) | (refine cw_block ?_) | ((first | refine cw_exits ?_ | refine cw_exit ?_ | refine cw_skip ?_); simp (maxSteps := 1000000) (disch := omega) only [go_sem]) | (refine hB _ ?_; clear hB KB) | (refine exit_by (S := Sg) (by assumption) ?_) | ((first | refine cw_rets ?_ | refine cw_ret ?_); simp (maxSteps := 1000000) (disch := omega) only [go_sem]; (try clear hB KB); (try clear hK K)))
    · exact absurd hb (by decide)
    · refine ⟨by rw [Nat.zero_add], ?_, ?_⟩
      · simp only [Nat.zero_add, bxf_set, bxf_setBox, bxf_newBox, bxf_delBox, nx_set, nx_newBox, nx_setBox, nx_delBox, bx_stI, nx_stI]
        rfl
      · omega
  exact fun i j => appF0v i j
end Go.Proofs.YtkjdljcbpbeehaaDoor

/- The table of the rules, and what they do. -/
set_option linter.unusedSimpArgs false
set_option linter.unusedVariables false
set_option maxRecDepth 8000
set_option maxHeartbeats 2000000
namespace Go.Proofs.YtkjdljcbpbeehaaDoor
open Go Go.SL
open Go.RowKit (wrap64)
/-- A function's name as a value. -/
def fnV (f : Nat) : PV := .val (.func (.func f) #[] #[])
theorem tn1 (e : Nat) : ((e : Int) + 1).toNat = e + 1 := by omega
theorem tn2 (e : Nat) : ((e : Int) + 2).toNat = e + 2 := by omega
theorem tiF1 : Sg.ti 136 = some (1, false) := by kernel_rfl
theorem tiF2 : Sg.ti 128 = some (1, false) := by kernel_rfl
theorem tiF3 : Sg.ti 129 = some (1, false) := by kernel_rfl
attribute [local go_sem] tn1 tn2 Nat.sub_zero tiF1 tiF2 tiF3 fnV
attribute [local go_sem] Int.toNat_natCast vP vf0 vf1 vf2 vf3 vf4 vf5 vf6 vf7 vf8 vf9 vf10 vf11 vf12 vf13 vf14

def chgV (g : Nat) : PV := .fn 119 1 (fun _ => 1) (fun _ _ => fnV g)
theorem fn_le {g n : Nat} {sz sz' : Nat → Nat} {f f' : Nat → Nat → PV} (h : ∀ i, i < n → sz i = sz' i ∧ ∀ j, j < sz i → PV.le (f i j) (f' i j)) : PV.le (.fn g n sz f) (.fn g n sz' f') := fun _ _ u ⟨vs, e, hs, hb⟩ => by
  refine ⟨vs, e, hs, fun i hi => ?_⟩
  obtain ⟨b, o, h1, h2, h3⟩ := hb i hi
  obtain ⟨q1, q2⟩ := h i hi
  refine ⟨b, o, h1, h2, fun j hj => ?_⟩
  rw [← q1] at hj
  obtain ⟨x, x1, x2, x3⟩ := h3 j hj
  exact ⟨x, x1, x2, q2 j hj _ _ _ x3⟩
theorem changed_sp (g : Nat) : Pure Sg 75 [.c (.p (.val (.func (.func g) #[] #[])))] (fun x => x = .b (.c (.p (chgV g)))) := by
  refine pure_le ?_
  refine pure_ofO Tryd.func75 rfl (rs := [.tmp 2]) rfl rfl mixed (by decide +kernel) (Nat.le_of_ble_eq_true rfl) (argsLt_mem (by simp (maxSteps := 1000000) (disch := omega) only [go_sem])) ?_
  repeat' (first | refine cw_assoc ?_ | refine cw_skips ?_ | refine cw_labels ?_ | ((first | refine cw_step (fun K hK => ?_) | refine cw_last (fun K hK => ?_) | refine cw_stepD (by decide +kernel) (by decide +kernel) (fun K hK => ?_) | refine cw_lastD (by decide +kernel) (by decide +kernel) (fun K hK => ?_) | refine rgB_some ?_); (try simp (maxSteps := 1000000) (disch := omega) only [go_sem]); (repeat' (refine And.intro ?_ ?_)); (all_goals first | (refine hK _ ?_; clear hK K) | exact auto_cl | skip)) | ((first | apply cw_ite | apply cw_iteN); (case hf => rfl); (case hc => simp (maxSteps := 1000000) (disch := omega) only [go_sem]; rfl); (all_goals first | (intro hb; (try simp only [hbs] at hb)) | skip)) | exact atN_intro | ((first | apply cw_if | apply cw_cond); (case hc => simp (maxSteps := 1000000) (disch := omega) only [go_sem]; rfl); (all_goals (intro hb; (try simp only [hbs] at hb); try (exfalso; omega)))) | (refine cw_blocks (fun KB hB => ?_)) | (refine cw_block ?_) | ((first | refine cw_exits ?_ | refine cw_exit ?_ | refine cw_skip ?_); simp (maxSteps := 1000000) (disch := omega) only [go_sem]) | (refine hB _ ?_; clear hB KB) | (refine exit_by (S := Sg) (by assumption) ?_) | ((first | refine cw_rets ?_ | refine cw_ret ?_); simp (maxSteps := 1000000) (disch := omega) only [go_sem]; (try clear hB KB); (try clear hK K)))
  simp only [Option.isSome_some, if_true, CV.lt, true_and]
  refine sle_b (ble_c (fn_le fun i hi => ?_))
  have h0 : i = 0 := by omega
  subst h0
  refine ⟨rfl, fun j hj => ?_⟩
  have h0 : j = 0 := by have : j < 1 := hj; omega
  subst h0
  exact fun _ _ _ h => h
def tblL : List (List PV) := [[.val .nilFunc, .val .nilFunc], [fnV 69, fnV 70], [fnV 71, fnV 70],
  [fnV 72, fnV 70], [fnV 73, fnV 70], [fnV 74, chgV 76],
  [fnV 77, chgV 78], [fnV 79, chgV 80], [fnV 81, chgV 82],
  [fnV 83, fnV 84]]
def tblF (i j : Nat) : PV := (tblL.getD i []).getD j .any
theorem table_sp : Pure Sg 41 [] (fun x => x = .b (.c (.p (.lst 2 10 tblF)))) := by
  have h1 := changed_sp 76
  have h2 := changed_sp 78
  have h3 := changed_sp 80
  have h4 := changed_sp 82
  refine pure_le ?_
  refine pure_of Tryd.func41 rfl (rs := [.tmp 0]) rfl rfl mixed (by decide +kernel) (Nat.le_of_ble_eq_true rfl) (argsLt_mem (by simp (maxSteps := 1000000) (disch := omega) only [go_sem])) ?_
  repeat' (first | refine cw_assoc ?_ | refine cw_skips ?_ | refine cw_labels ?_ | ((first | refine cw_step (fun K hK => ?_) | refine cw_last (fun K hK => ?_) | refine cw_stepD (by decide +kernel) (by decide +kernel) (fun K hK => ?_) | refine cw_lastD (by decide +kernel) (by decide +kernel) (fun K hK => ?_) | refine rgB_some ?_ | refine call_a (h1) ?_ | refine gcall_a (fun hg => h1) ?_ | refine call_a (h2) ?_ | refine gcall_a (fun hg => h2) ?_ | refine call_a (h3) ?_ | refine gcall_a (fun hg => h3) ?_ | refine call_a (h4) ?_ | refine gcall_a (fun hg => h4) ?_); (try simp (maxSteps := 1000000) (disch := omega) only [go_sem]); (repeat' (refine And.intro ?_ ?_)); (all_goals first | (refine hK _ ?_; clear hK K) | exact auto_cl | skip)) | ((first | apply cw_ite | apply cw_iteN); (case hf => rfl); (case hc => simp (maxSteps := 1000000) (disch := omega) only [go_sem]; rfl); (all_goals first | (intro hb; (try simp only [hbs] at hb)) | skip)) | exact atN_intro | ((first | apply cw_if | apply cw_cond); (case hc => simp (maxSteps := 1000000) (disch := omega) only [go_sem]; rfl); (all_goals (intro hb; (try simp only [hbs] at hb); try (exfalso; omega)))) | (refine cw_blocks (fun KB hB => ?_)) | (refine cw_block ?_) | ((first | refine cw_exits ?_ | refine cw_exit ?_ | refine cw_skip ?_); simp (maxSteps := 1000000) (disch := omega) only [go_sem]) | (refine hB _ ?_; clear hB KB) | (refine exit_by (S := Sg) (by assumption) ?_) | ((first | refine cw_rets ?_ | refine cw_ret ?_); simp (maxSteps := 1000000) (disch := omega) only [go_sem]; (try clear hB KB); (try clear hK K)))
  refine sle_b (ble_c (lst_leE (sz := 2) (n := 10) fun a ha j hj => ?_))
  have hj2 : j = 0 ∨ j = 1 := by omega
  rcases hj2 with rfl | rfl
  · skip
    have hivl : a = 0 ∨ a = 1 ∨ a = 2 ∨ a = 3 ∨ a = 4 ∨ a = 5 ∨ a = 6 ∨ a = 7 ∨ a = 8 ∨ a = 9 := by omega
    rcases hivl with rfl | rfl | rfl | rfl | rfl | rfl | rfl | rfl | rfl | rfl <;> exact fun _ _ _ h => h
  · skip
    have hivl : a = 0 ∨ a = 1 ∨ a = 2 ∨ a = 3 ∨ a = 4 ∨ a = 5 ∨ a = 6 ∨ a = 7 ∨ a = 8 ∨ a = 9 := by omega
    rcases hivl with rfl | rfl | rfl | rfl | rfl | rfl | rfl | rfl | rfl | rfl <;> exact fun _ _ _ h => h
theorem set_le {l : List Op} {i : Nat} {o : Op} {F : Nat → Nat → PV} (hi : i < l.length) (h1 : ∀ j, j < 12 → F i j = (opE o).getD j .any) (h2 : ∀ a, a ≠ i → ∀ j, F a j = fnOf opE l a j) : PV.le (.lst 12 l.length F) (opL (l.set i o)) := by
  show PV.le _ (PV.lst 12 (l.set i o).length (fnOf opE (l.set i o)))
  rw [List.length_set]
  refine lst_le fun a ha j hj => ?_
  show _ = (opE ((l.set i o).getD a default)).getD j .any
  have e : (l.set i o).getD a default = opAt (l.set i o) a := rfl
  rw [e, opAt_set]
  by_cases h : a = i
  · rw [if_pos ⟨h.symm, ha⟩, h]; exact h1 j hj
  · rw [if_neg (fun q => h q.1.symm)]; exact h2 a h j
theorem bxIns2 (id : Nat) (x y : Bx) (b : Nat → Option Bx) : bxIns id x (bxIns id y b) = bxIns id x b := by
  funext i
  simp only [bxIns]
  split <;> rfl
theorem tab1_inl (bx : Nat → Option Bx) (nx id n i : Nat) (f : Nat → Nat → PV) (o : Op) (hb : bx id = some (.arr 62 12 n f)) (hi : i < n) (hid : id < nx) (hf : ∀ j, j < 12 → f i j = (opE o).getD j .any) :
    ∃ F : Nat → Nat → PV, ((∀ j, j < 12 → F i j = (opE (chgOp 5 o)).getD j .any) ∧ ∀ a, a ≠ i → ∀ j, F a j = f a j) ∧ InlP Sg bx nx 76 [.c (.pel id 12 i 0)] (.tup []) (bxIns id (.arr 62 12 n F) bx) nx := by
  refine ⟨?F, ⟨?h1, ?h2⟩, ?hI⟩
  case hI =>
    refine inl_of Tryd.func76 rfl (rs := []) rfl rfl mixed (by decide +kernel) (Nat.le_of_ble_eq_true rfl) ?_ (fun kf => ?_)
    · intro v hv
      simp only [List.mem_cons, List.not_mem_nil, or_false] at hv
      rcases hv with rfl
      exact hid
    refine cw_last fun K hK => ?_
    simp (maxSteps := 1000000) (disch := omega) only [go_sem, hb]
    repeat' (refine And.intro ?_ ?_)
    all_goals first | exact hi | skip
    refine hK _ ?_
    clear hK
    simp (maxSteps := 1000000) (disch := omega) only [go_sem]
    simp only [bxf_set, bxf_setBox, bxf_newBox, bxf_delBox, nx_set, nx_newBox, nx_setBox, nx_delBox, bx_stI, nx_stI, bxIns2]
    rfl
  case h1 =>
    intro j hj
    show (if i = i then _ else _) = _
    rw [if_pos rfl]
    have hivl : j = 0 ∨ j = 1 ∨ j = 2 ∨ j = 3 ∨ j = 4 ∨ j = 5 ∨ j = 6 ∨ j = 7 ∨ j = 8 ∨ j = 9 ∨ j = 10 ∨ j = 11 := by omega
    rcases hivl with rfl | rfl | rfl | rfl | rfl | rfl | rfl | rfl | rfl | rfl | rfl | rfl <;> first | rfl | exact hf 0 (by decide) | exact hf 1 (by decide) | exact hf 2 (by decide) | exact hf 3 (by decide) | exact hf 4 (by decide) | exact hf 5 (by decide) | exact hf 6 (by decide) | exact hf 7 (by decide) | exact hf 8 (by decide) | exact hf 9 (by decide) | exact hf 10 (by decide) | exact hf 11 (by decide)
  case h2 =>
    intro a ha j
    simp only [if_neg ha]
theorem call_tab1 {st : St} {K : SV → St → Prop} (id n i : Nat) (f : Nat → Nat → PV) (o : Op) (hb : st.bx id = some (.arr 62 12 n f)) (hi : i < n) (hid : id < st.nx) (hf : ∀ j, j < 12 → f i j = (opE o).getD j .any) (hw : WfN 0 st)
    (hK : ∀ F : Nat → Nat → PV, (∀ j, j < 12 → F i j = (opE (chgOp 5 o)).getD j .any) → (∀ a, a ≠ i → ∀ j, F a j = f a j) → K (.tup []) (st.turn (bxIns id (.arr 62 12 n F) st.bx) st.nx)) :
    CallS Sg st 76 [.c (.pel id 12 i 0)] (Sl.of K) := by
  obtain ⟨F, ⟨h1, h2⟩, hI⟩ := tab1_inl st.bx st.nx id n i f o hb hi hid hf
  refine call_inl hI rfl (fun j hj => ?_) (Nat.le_refl _) (hK F h1 h2)
  simp only [bxIns]
  rw [if_neg (by omega)]
  exact hw.1 j hj
theorem chg1_sp (s : Script) (V : VOps s) (i : Nat) (hi : i < s.ops.length) :
    Pure Sg 119 [vP s, I i, .c (.ipt 1 (fun _ => fnV 76) 0)] (fun x => x = .b (.c (.p (opL (s.ops.set i (chgOp 5 (opAt s.ops i))))))) := by
  have hn := V.cnt
  have hc := cloneOps_own s.ops.length (fnOf opE s.ops) (by omega) (fun a ha j hj => by
    have hivl : j = 0 ∨ j = 1 ∨ j = 2 ∨ j = 3 ∨ j = 4 ∨ j = 5 ∨ j = 6 ∨ j = 7 ∨ j = 8 ∨ j = 9 ∨ j = 10 ∨ j = 11 := by omega
    rcases hivl with rfl | rfl | rfl | rfl | rfl | rfl | rfl | rfl | rfl | rfl | rfl | rfl <;> exact ⟨_, rfl⟩)
  refine pure_le ?_
  refine pure_of Tryd.func119 rfl (rs := [.tmp 5]) rfl rfl mixed (by decide +kernel) (Nat.le_of_ble_eq_true rfl) (argsLt_mem (by simp (maxSteps := 1000000) (disch := omega) only [go_sem])) ?_
  repeat' (first | refine cw_assoc ?_ | refine cw_skips ?_ | refine cw_labels ?_ | ((first | (with_reducible refine cw_stepV (id := 1) (fun K hW => ?_)) | refine cw_step (fun K hK => ?_) | refine cw_last (fun K hK => ?_) | refine cw_stepD (by decide +kernel) (by decide +kernel) (fun K hK => ?_) | refine cw_lastD (by decide +kernel) (by decide +kernel) (fun K hK => ?_) | refine rgB_some ?_ | refine call_ownE (hc) ?_); (try simp (maxSteps := 1000000) (disch := omega) only [go_sem]); (repeat' (refine And.intro ?_ ?_)); (all_goals first | (refine hK _ ?_; clear hK K) | exact auto_cl | skip)) | ((first | apply cw_ite | apply cw_iteN); (case hf => rfl); (case hc => simp (maxSteps := 1000000) (disch := omega) only [go_sem]; rfl); (all_goals first | (intro hb; (try simp only [hbs] at hb)) | skip)) | exact atN_intro | ((first | apply cw_if | apply cw_cond); (case hc => simp (maxSteps := 1000000) (disch := omega) only [go_sem]; rfl); (all_goals (intro hb; (try simp only [hbs] at hb); try (exfalso; omega)))) | (refine cw_blocks (fun KB hB => ?_)) | (refine cw_block ?_) | ((first | refine cw_exits ?_ | refine cw_exit ?_ | refine cw_skip ?_); simp (maxSteps := 1000000) (disch := omega) only [go_sem]) | (refine hB _ ?_; clear hB KB) | (refine exit_by (S := Sg) (by assumption) ?_) | ((first | refine cw_rets ?_ | refine cw_ret ?_); simp (maxSteps := 1000000) (disch := omega) only [go_sem]; (try clear hB KB); (try clear hK K)))
  refine hW _ (mkSt [(0, .b (vP s)), (1, .b (I i)), (2, .b (.c (.ipt 1 (fun _ => fnV 76) 0))), (6, .b (.c (.own 1 s.ops.length)))] [(1, .arr 62 12 s.ops.length (fnOf opE s.ops))] 2) ?_ ?_
  · refine le_of [(1, some 0)] rfl (by decide) rfl ?_ ?_
    all_goals simp (maxSteps := 1000000) (disch := omega) only [go_sem]
    repeat' (refine And.intro ?_ ?_)
    all_goals first | rfl | omega | exact .inl rfl | trivial | skip
  clear hW
  refine cw_stepD (by decide +kernel) (by decide +kernel) (fun K hK => ?_)
  simp (maxSteps := 1000000) (disch := omega) only [go_sem]
  refine ⟨⟨by omega, by omega⟩, ?_⟩
  refine call_tab1 1 s.ops.length i (fnOf opE s.ops) (opAt s.ops i) (by simp (maxSteps := 1000000) (disch := omega) only [go_sem]) hi (by simp (maxSteps := 1000000) (disch := omega) only [go_sem]) (fun j hj => rfl) ?_ ?_
  · (focus (refine And.intro (fun iw hiw => by ((try simp (maxSteps := 1000000) (disch := omega) only [go_sem] at hiw ⊢); (repeat (first | rfl | exact if_neg (by omega) | rw [if_neg (by omega)])); done)) (by first | exact Nat.zero_le _ | (simp (maxSteps := 1000000) (disch := omega) only [go_sem]; done) | (simp (maxSteps := 1000000) (disch := omega) only [go_sem]; omega) | decide)))
  intro F hF1 hF2
  refine hK _ ?_
  clear hK
  repeat' (first | refine cw_assoc ?_ | refine cw_skips ?_ | refine cw_labels ?_ | ((first | refine cw_step (fun K hK => ?_) | refine cw_last (fun K hK => ?_) | refine cw_stepD (by decide +kernel) (by decide +kernel) (fun K hK => ?_) | refine cw_lastD (by decide +kernel) (by decide +kernel) (fun K hK => ?_) | refine rgB_some ?_); (try simp (maxSteps := 1000000) (disch := omega) only [go_sem]); (repeat' (refine And.intro ?_ ?_)); (all_goals first | (refine hK _ ?_; clear hK K) | exact auto_cl | skip)) | ((first | apply cw_ite | apply cw_iteN); (case hf => rfl); (case hc => simp (maxSteps := 1000000) (disch := omega) only [go_sem]; rfl); (all_goals first | (intro hb; (try simp only [hbs] at hb)) | skip)) | exact atN_intro | ((first | apply cw_if | apply cw_cond); (case hc => simp (maxSteps := 1000000) (disch := omega) only [go_sem]; rfl); (all_goals (intro hb; (try simp only [hbs] at hb); try (exfalso; omega)))) | (refine cw_blocks (fun KB hB => ?_)) | (refine cw_block ?_) | ((first | refine cw_exits ?_ | refine cw_exit ?_ | refine cw_skip ?_); simp (maxSteps := 1000000) (disch := omega) only [go_sem]) | (refine hB _ ?_; clear hB KB) | (refine exit_by (S := Sg) (by assumption) ?_) | ((first | refine cw_rets ?_ | refine cw_ret ?_); simp (maxSteps := 1000000) (disch := omega) only [go_sem]; (try clear hB KB); (try clear hK K)))
  refine sle_b (ble_c ?_)
  exact set_le hi hF1 hF2
theorem tab2_inl (bx : Nat → Option Bx) (nx id n i : Nat) (f : Nat → Nat → PV) (o : Op) (hb : bx id = some (.arr 62 12 n f)) (hi : i < n) (hid : id < nx) (hf : ∀ j, j < 12 → f i j = (opE o).getD j .any) :
    ∃ F : Nat → Nat → PV, ((∀ j, j < 12 → F i j = (opE (chgOp 6 o)).getD j .any) ∧ ∀ a, a ≠ i → ∀ j, F a j = f a j) ∧ InlP Sg bx nx 78 [.c (.pel id 12 i 0)] (.tup []) (bxIns id (.arr 62 12 n F) bx) nx := by
  refine ⟨?F, ⟨?h1, ?h2⟩, ?hI⟩
  case hI =>
    refine inl_of Tryd.func78 rfl (rs := []) rfl rfl mixed (by decide +kernel) (Nat.le_of_ble_eq_true rfl) ?_ (fun kf => ?_)
    · intro v hv
      simp only [List.mem_cons, List.not_mem_nil, or_false] at hv
      rcases hv with rfl
      exact hid
    refine cw_last fun K hK => ?_
    simp (maxSteps := 1000000) (disch := omega) only [go_sem, hb]
    repeat' (refine And.intro ?_ ?_)
    all_goals first | exact hi | skip
    refine hK _ ?_
    clear hK
    simp (maxSteps := 1000000) (disch := omega) only [go_sem]
    simp only [bxf_set, bxf_setBox, bxf_newBox, bxf_delBox, nx_set, nx_newBox, nx_setBox, nx_delBox, bx_stI, nx_stI, bxIns2]
    rfl
  case h1 =>
    intro j hj
    show (if i = i then _ else _) = _
    rw [if_pos rfl]
    have hivl : j = 0 ∨ j = 1 ∨ j = 2 ∨ j = 3 ∨ j = 4 ∨ j = 5 ∨ j = 6 ∨ j = 7 ∨ j = 8 ∨ j = 9 ∨ j = 10 ∨ j = 11 := by omega
    rcases hivl with rfl | rfl | rfl | rfl | rfl | rfl | rfl | rfl | rfl | rfl | rfl | rfl <;> first | rfl | exact hf 0 (by decide) | exact hf 1 (by decide) | exact hf 2 (by decide) | exact hf 3 (by decide) | exact hf 4 (by decide) | exact hf 5 (by decide) | exact hf 6 (by decide) | exact hf 7 (by decide) | exact hf 8 (by decide) | exact hf 9 (by decide) | exact hf 10 (by decide) | exact hf 11 (by decide)
  case h2 =>
    intro a ha j
    simp only [if_neg ha]
theorem call_tab2 {st : St} {K : SV → St → Prop} (id n i : Nat) (f : Nat → Nat → PV) (o : Op) (hb : st.bx id = some (.arr 62 12 n f)) (hi : i < n) (hid : id < st.nx) (hf : ∀ j, j < 12 → f i j = (opE o).getD j .any) (hw : WfN 0 st)
    (hK : ∀ F : Nat → Nat → PV, (∀ j, j < 12 → F i j = (opE (chgOp 6 o)).getD j .any) → (∀ a, a ≠ i → ∀ j, F a j = f a j) → K (.tup []) (st.turn (bxIns id (.arr 62 12 n F) st.bx) st.nx)) :
    CallS Sg st 78 [.c (.pel id 12 i 0)] (Sl.of K) := by
  obtain ⟨F, ⟨h1, h2⟩, hI⟩ := tab2_inl st.bx st.nx id n i f o hb hi hid hf
  refine call_inl hI rfl (fun j hj => ?_) (Nat.le_refl _) (hK F h1 h2)
  simp only [bxIns]
  rw [if_neg (by omega)]
  exact hw.1 j hj
theorem chg2_sp (s : Script) (V : VOps s) (i : Nat) (hi : i < s.ops.length) :
    Pure Sg 119 [vP s, I i, .c (.ipt 1 (fun _ => fnV 78) 0)] (fun x => x = .b (.c (.p (opL (s.ops.set i (chgOp 6 (opAt s.ops i))))))) := by
  have hn := V.cnt
  have hc := cloneOps_own s.ops.length (fnOf opE s.ops) (by omega) (fun a ha j hj => by
    have hivl : j = 0 ∨ j = 1 ∨ j = 2 ∨ j = 3 ∨ j = 4 ∨ j = 5 ∨ j = 6 ∨ j = 7 ∨ j = 8 ∨ j = 9 ∨ j = 10 ∨ j = 11 := by omega
    rcases hivl with rfl | rfl | rfl | rfl | rfl | rfl | rfl | rfl | rfl | rfl | rfl | rfl <;> exact ⟨_, rfl⟩)
  refine pure_le ?_
  refine pure_of Tryd.func119 rfl (rs := [.tmp 5]) rfl rfl mixed (by decide +kernel) (Nat.le_of_ble_eq_true rfl) (argsLt_mem (by simp (maxSteps := 1000000) (disch := omega) only [go_sem])) ?_
  repeat' (first | refine cw_assoc ?_ | refine cw_skips ?_ | refine cw_labels ?_ | ((first | (with_reducible refine cw_stepV (id := 1) (fun K hW => ?_)) | refine cw_step (fun K hK => ?_) | refine cw_last (fun K hK => ?_) | refine cw_stepD (by decide +kernel) (by decide +kernel) (fun K hK => ?_) | refine cw_lastD (by decide +kernel) (by decide +kernel) (fun K hK => ?_) | refine rgB_some ?_ | refine call_ownE (hc) ?_); (try simp (maxSteps := 1000000) (disch := omega) only [go_sem]); (repeat' (refine And.intro ?_ ?_)); (all_goals first | (refine hK _ ?_; clear hK K) | exact auto_cl | skip)) | ((first | apply cw_ite | apply cw_iteN); (case hf => rfl); (case hc => simp (maxSteps := 1000000) (disch := omega) only [go_sem]; rfl); (all_goals first | (intro hb; (try simp only [hbs] at hb)) | skip)) | exact atN_intro | ((first | apply cw_if | apply cw_cond); (case hc => simp (maxSteps := 1000000) (disch := omega) only [go_sem]; rfl); (all_goals (intro hb; (try simp only [hbs] at hb); try (exfalso; omega)))) | (refine cw_blocks (fun KB hB => ?_)) | (refine cw_block ?_) | ((first | refine cw_exits ?_ | refine cw_exit ?_ | refine cw_skip ?_); simp (maxSteps := 1000000) (disch := omega) only [go_sem]) | (refine hB _ ?_; clear hB KB) | (refine exit_by (S := Sg) (by assumption) ?_) | ((first | refine cw_rets ?_ | refine cw_ret ?_); simp (maxSteps := 1000000) (disch := omega) only [go_sem]; (try clear hB KB); (try clear hK K)))
  refine hW _ (mkSt [(0, .b (vP s)), (1, .b (I i)), (2, .b (.c (.ipt 1 (fun _ => fnV 78) 0))), (6, .b (.c (.own 1 s.ops.length)))] [(1, .arr 62 12 s.ops.length (fnOf opE s.ops))] 2) ?_ ?_
  · refine le_of [(1, some 0)] rfl (by decide) rfl ?_ ?_
    all_goals simp (maxSteps := 1000000) (disch := omega) only [go_sem]
    repeat' (refine And.intro ?_ ?_)
    all_goals first | rfl | omega | exact .inl rfl | trivial | skip
  clear hW
  refine cw_stepD (by decide +kernel) (by decide +kernel) (fun K hK => ?_)
  simp (maxSteps := 1000000) (disch := omega) only [go_sem]
  refine ⟨⟨by omega, by omega⟩, ?_⟩
  refine call_tab2 1 s.ops.length i (fnOf opE s.ops) (opAt s.ops i) (by simp (maxSteps := 1000000) (disch := omega) only [go_sem]) hi (by simp (maxSteps := 1000000) (disch := omega) only [go_sem]) (fun j hj => rfl) ?_ ?_
  · (focus (refine And.intro (fun iw hiw => by ((try simp (maxSteps := 1000000) (disch := omega) only [go_sem] at hiw ⊢); (repeat (first | rfl | exact if_neg (by omega) | rw [if_neg (by omega)])); done)) (by first | exact Nat.zero_le _ | (simp (maxSteps := 1000000) (disch := omega) only [go_sem]; done) | (simp (maxSteps := 1000000) (disch := omega) only [go_sem]; omega) | decide)))
  intro F hF1 hF2
  refine hK _ ?_
  clear hK
  repeat' (first | refine cw_assoc ?_ | refine cw_skips ?_ | refine cw_labels ?_ | ((first | refine cw_step (fun K hK => ?_) | refine cw_last (fun K hK => ?_) | refine cw_stepD (by decide +kernel) (by decide +kernel) (fun K hK => ?_) | refine cw_lastD (by decide +kernel) (by decide +kernel) (fun K hK => ?_) | refine rgB_some ?_); (try simp (maxSteps := 1000000) (disch := omega) only [go_sem]); (repeat' (refine And.intro ?_ ?_)); (all_goals first | (refine hK _ ?_; clear hK K) | exact auto_cl | skip)) | ((first | apply cw_ite | apply cw_iteN); (case hf => rfl); (case hc => simp (maxSteps := 1000000) (disch := omega) only [go_sem]; rfl); (all_goals first | (intro hb; (try simp only [hbs] at hb)) | skip)) | exact atN_intro | ((first | apply cw_if | apply cw_cond); (case hc => simp (maxSteps := 1000000) (disch := omega) only [go_sem]; rfl); (all_goals (intro hb; (try simp only [hbs] at hb); try (exfalso; omega)))) | (refine cw_blocks (fun KB hB => ?_)) | (refine cw_block ?_) | ((first | refine cw_exits ?_ | refine cw_exit ?_ | refine cw_skip ?_); simp (maxSteps := 1000000) (disch := omega) only [go_sem]) | (refine hB _ ?_; clear hB KB) | (refine exit_by (S := Sg) (by assumption) ?_) | ((first | refine cw_rets ?_ | refine cw_ret ?_); simp (maxSteps := 1000000) (disch := omega) only [go_sem]; (try clear hB KB); (try clear hK K)))
  refine sle_b (ble_c ?_)
  exact set_le hi hF1 hF2
theorem tab3_inl (bx : Nat → Option Bx) (nx id n i : Nat) (f : Nat → Nat → PV) (o : Op) (hb : bx id = some (.arr 62 12 n f)) (hi : i < n) (hid : id < nx) (hf : ∀ j, j < 12 → f i j = (opE o).getD j .any) :
    ∃ F : Nat → Nat → PV, ((∀ j, j < 12 → F i j = (opE (chgOp 7 o)).getD j .any) ∧ ∀ a, a ≠ i → ∀ j, F a j = f a j) ∧ InlP Sg bx nx 80 [.c (.pel id 12 i 0)] (.tup []) (bxIns id (.arr 62 12 n F) bx) nx := by
  refine ⟨?F, ⟨?h1, ?h2⟩, ?hI⟩
  case hI =>
    refine inl_of Tryd.func80 rfl (rs := []) rfl rfl mixed (by decide +kernel) (Nat.le_of_ble_eq_true rfl) ?_ (fun kf => ?_)
    · intro v hv
      simp only [List.mem_cons, List.not_mem_nil, or_false] at hv
      rcases hv with rfl
      exact hid
    refine cw_last fun K hK => ?_
    simp (maxSteps := 1000000) (disch := omega) only [go_sem, hb]
    repeat' (refine And.intro ?_ ?_)
    all_goals first | exact hi | skip
    refine hK _ ?_
    clear hK
    simp (maxSteps := 1000000) (disch := omega) only [go_sem]
    simp only [bxf_set, bxf_setBox, bxf_newBox, bxf_delBox, nx_set, nx_newBox, nx_setBox, nx_delBox, bx_stI, nx_stI, bxIns2]
    rfl
  case h1 =>
    intro j hj
    show (if i = i then _ else _) = _
    rw [if_pos rfl]
    have hivl : j = 0 ∨ j = 1 ∨ j = 2 ∨ j = 3 ∨ j = 4 ∨ j = 5 ∨ j = 6 ∨ j = 7 ∨ j = 8 ∨ j = 9 ∨ j = 10 ∨ j = 11 := by omega
    rcases hivl with rfl | rfl | rfl | rfl | rfl | rfl | rfl | rfl | rfl | rfl | rfl | rfl <;> first | rfl | exact hf 0 (by decide) | exact hf 1 (by decide) | exact hf 2 (by decide) | exact hf 3 (by decide) | exact hf 4 (by decide) | exact hf 5 (by decide) | exact hf 6 (by decide) | exact hf 7 (by decide) | exact hf 8 (by decide) | exact hf 9 (by decide) | exact hf 10 (by decide) | exact hf 11 (by decide)
  case h2 =>
    intro a ha j
    simp only [if_neg ha]
theorem call_tab3 {st : St} {K : SV → St → Prop} (id n i : Nat) (f : Nat → Nat → PV) (o : Op) (hb : st.bx id = some (.arr 62 12 n f)) (hi : i < n) (hid : id < st.nx) (hf : ∀ j, j < 12 → f i j = (opE o).getD j .any) (hw : WfN 0 st)
    (hK : ∀ F : Nat → Nat → PV, (∀ j, j < 12 → F i j = (opE (chgOp 7 o)).getD j .any) → (∀ a, a ≠ i → ∀ j, F a j = f a j) → K (.tup []) (st.turn (bxIns id (.arr 62 12 n F) st.bx) st.nx)) :
    CallS Sg st 80 [.c (.pel id 12 i 0)] (Sl.of K) := by
  obtain ⟨F, ⟨h1, h2⟩, hI⟩ := tab3_inl st.bx st.nx id n i f o hb hi hid hf
  refine call_inl hI rfl (fun j hj => ?_) (Nat.le_refl _) (hK F h1 h2)
  simp only [bxIns]
  rw [if_neg (by omega)]
  exact hw.1 j hj
theorem chg3_sp (s : Script) (V : VOps s) (i : Nat) (hi : i < s.ops.length) :
    Pure Sg 119 [vP s, I i, .c (.ipt 1 (fun _ => fnV 80) 0)] (fun x => x = .b (.c (.p (opL (s.ops.set i (chgOp 7 (opAt s.ops i))))))) := by
  have hn := V.cnt
  have hc := cloneOps_own s.ops.length (fnOf opE s.ops) (by omega) (fun a ha j hj => by
    have hivl : j = 0 ∨ j = 1 ∨ j = 2 ∨ j = 3 ∨ j = 4 ∨ j = 5 ∨ j = 6 ∨ j = 7 ∨ j = 8 ∨ j = 9 ∨ j = 10 ∨ j = 11 := by omega
    rcases hivl with rfl | rfl | rfl | rfl | rfl | rfl | rfl | rfl | rfl | rfl | rfl | rfl <;> exact ⟨_, rfl⟩)
  refine pure_le ?_
  refine pure_of Tryd.func119 rfl (rs := [.tmp 5]) rfl rfl mixed (by decide +kernel) (Nat.le_of_ble_eq_true rfl) (argsLt_mem (by simp (maxSteps := 1000000) (disch := omega) only [go_sem])) ?_
  repeat' (first | refine cw_assoc ?_ | refine cw_skips ?_ | refine cw_labels ?_ | ((first | (with_reducible refine cw_stepV (id := 1) (fun K hW => ?_)) | refine cw_step (fun K hK => ?_) | refine cw_last (fun K hK => ?_) | refine cw_stepD (by decide +kernel) (by decide +kernel) (fun K hK => ?_) | refine cw_lastD (by decide +kernel) (by decide +kernel) (fun K hK => ?_) | refine rgB_some ?_ | refine call_ownE (hc) ?_); (try simp (maxSteps := 1000000) (disch := omega) only [go_sem]); (repeat' (refine And.intro ?_ ?_)); (all_goals first | (refine hK _ ?_; clear hK K) | exact auto_cl | skip)) | ((first | apply cw_ite | apply cw_iteN); (case hf => rfl); (case hc => simp (maxSteps := 1000000) (disch := omega) only [go_sem]; rfl); (all_goals first | (intro hb; (try simp only [hbs] at hb)) | skip)) | exact atN_intro | ((first | apply cw_if | apply cw_cond); (case hc => simp (maxSteps := 1000000) (disch := omega) only [go_sem]; rfl); (all_goals (intro hb; (try simp only [hbs] at hb); try (exfalso; omega)))) | (refine cw_blocks (fun KB hB => ?_)) | (refine cw_block ?_) | ((first | refine cw_exits ?_ | refine cw_exit ?_ | refine cw_skip ?_); simp (maxSteps := 1000000) (disch := omega) only [go_sem]) | (refine hB _ ?_; clear hB KB) | (refine exit_by (S := Sg) (by assumption) ?_) | ((first | refine cw_rets ?_ | refine cw_ret ?_); simp (maxSteps := 1000000) (disch := omega) only [go_sem]; (try clear hB KB); (try clear hK K)))
  refine hW _ (mkSt [(0, .b (vP s)), (1, .b (I i)), (2, .b (.c (.ipt 1 (fun _ => fnV 80) 0))), (6, .b (.c (.own 1 s.ops.length)))] [(1, .arr 62 12 s.ops.length (fnOf opE s.ops))] 2) ?_ ?_
  · refine le_of [(1, some 0)] rfl (by decide) rfl ?_ ?_
    all_goals simp (maxSteps := 1000000) (disch := omega) only [go_sem]
    repeat' (refine And.intro ?_ ?_)
    all_goals first | rfl | omega | exact .inl rfl | trivial | skip
  clear hW
  refine cw_stepD (by decide +kernel) (by decide +kernel) (fun K hK => ?_)
  simp (maxSteps := 1000000) (disch := omega) only [go_sem]
  refine ⟨⟨by omega, by omega⟩, ?_⟩
  refine call_tab3 1 s.ops.length i (fnOf opE s.ops) (opAt s.ops i) (by simp (maxSteps := 1000000) (disch := omega) only [go_sem]) hi (by simp (maxSteps := 1000000) (disch := omega) only [go_sem]) (fun j hj => rfl) ?_ ?_
  · (focus (refine And.intro (fun iw hiw => by ((try simp (maxSteps := 1000000) (disch := omega) only [go_sem] at hiw ⊢); (repeat (first | rfl | exact if_neg (by omega) | rw [if_neg (by omega)])); done)) (by first | exact Nat.zero_le _ | (simp (maxSteps := 1000000) (disch := omega) only [go_sem]; done) | (simp (maxSteps := 1000000) (disch := omega) only [go_sem]; omega) | decide)))
  intro F hF1 hF2
  refine hK _ ?_
  clear hK
  repeat' (first | refine cw_assoc ?_ | refine cw_skips ?_ | refine cw_labels ?_ | ((first | refine cw_step (fun K hK => ?_) | refine cw_last (fun K hK => ?_) | refine cw_stepD (by decide +kernel) (by decide +kernel) (fun K hK => ?_) | refine cw_lastD (by decide +kernel) (by decide +kernel) (fun K hK => ?_) | refine rgB_some ?_); (try simp (maxSteps := 1000000) (disch := omega) only [go_sem]); (repeat' (refine And.intro ?_ ?_)); (all_goals first | (refine hK _ ?_; clear hK K) | exact auto_cl | skip)) | ((first | apply cw_ite | apply cw_iteN); (case hf => rfl); (case hc => simp (maxSteps := 1000000) (disch := omega) only [go_sem]; rfl); (all_goals first | (intro hb; (try simp only [hbs] at hb)) | skip)) | exact atN_intro | ((first | apply cw_if | apply cw_cond); (case hc => simp (maxSteps := 1000000) (disch := omega) only [go_sem]; rfl); (all_goals (intro hb; (try simp only [hbs] at hb); try (exfalso; omega)))) | (refine cw_blocks (fun KB hB => ?_)) | (refine cw_block ?_) | ((first | refine cw_exits ?_ | refine cw_exit ?_ | refine cw_skip ?_); simp (maxSteps := 1000000) (disch := omega) only [go_sem]) | (refine hB _ ?_; clear hB KB) | (refine exit_by (S := Sg) (by assumption) ?_) | ((first | refine cw_rets ?_ | refine cw_ret ?_); simp (maxSteps := 1000000) (disch := omega) only [go_sem]; (try clear hB KB); (try clear hK K)))
  refine sle_b (ble_c ?_)
  exact set_le hi hF1 hF2
theorem tab4_inl (bx : Nat → Option Bx) (nx id n i : Nat) (f : Nat → Nat → PV) (o : Op) (hb : bx id = some (.arr 62 12 n f)) (hi : i < n) (hid : id < nx) (hf : ∀ j, j < 12 → f i j = (opE o).getD j .any) :
    ∃ F : Nat → Nat → PV, ((∀ j, j < 12 → F i j = (opE (chgOp 8 o)).getD j .any) ∧ ∀ a, a ≠ i → ∀ j, F a j = f a j) ∧ InlP Sg bx nx 82 [.c (.pel id 12 i 0)] (.tup []) (bxIns id (.arr 62 12 n F) bx) nx := by
  refine ⟨?F, ⟨?h1, ?h2⟩, ?hI⟩
  case hI =>
    refine inl_of Tryd.func82 rfl (rs := []) rfl rfl mixed (by decide +kernel) (Nat.le_of_ble_eq_true rfl) ?_ (fun kf => ?_)
    · intro v hv
      simp only [List.mem_cons, List.not_mem_nil, or_false] at hv
      rcases hv with rfl
      exact hid
    refine cw_last fun K hK => ?_
    simp (maxSteps := 1000000) (disch := omega) only [go_sem, hb]
    repeat' (refine And.intro ?_ ?_)
    all_goals first | exact hi | skip
    refine hK _ ?_
    clear hK
    simp (maxSteps := 1000000) (disch := omega) only [go_sem]
    simp only [bxf_set, bxf_setBox, bxf_newBox, bxf_delBox, nx_set, nx_newBox, nx_setBox, nx_delBox, bx_stI, nx_stI, bxIns2]
    rfl
  case h1 =>
    intro j hj
    show (if i = i then _ else _) = _
    rw [if_pos rfl]
    have hivl : j = 0 ∨ j = 1 ∨ j = 2 ∨ j = 3 ∨ j = 4 ∨ j = 5 ∨ j = 6 ∨ j = 7 ∨ j = 8 ∨ j = 9 ∨ j = 10 ∨ j = 11 := by omega
    rcases hivl with rfl | rfl | rfl | rfl | rfl | rfl | rfl | rfl | rfl | rfl | rfl | rfl <;> first | rfl | exact hf 0 (by decide) | exact hf 1 (by decide) | exact hf 2 (by decide) | exact hf 3 (by decide) | exact hf 4 (by decide) | exact hf 5 (by decide) | exact hf 6 (by decide) | exact hf 7 (by decide) | exact hf 8 (by decide) | exact hf 9 (by decide) | exact hf 10 (by decide) | exact hf 11 (by decide)
  case h2 =>
    intro a ha j
    simp only [if_neg ha]
theorem call_tab4 {st : St} {K : SV → St → Prop} (id n i : Nat) (f : Nat → Nat → PV) (o : Op) (hb : st.bx id = some (.arr 62 12 n f)) (hi : i < n) (hid : id < st.nx) (hf : ∀ j, j < 12 → f i j = (opE o).getD j .any) (hw : WfN 0 st)
    (hK : ∀ F : Nat → Nat → PV, (∀ j, j < 12 → F i j = (opE (chgOp 8 o)).getD j .any) → (∀ a, a ≠ i → ∀ j, F a j = f a j) → K (.tup []) (st.turn (bxIns id (.arr 62 12 n F) st.bx) st.nx)) :
    CallS Sg st 82 [.c (.pel id 12 i 0)] (Sl.of K) := by
  obtain ⟨F, ⟨h1, h2⟩, hI⟩ := tab4_inl st.bx st.nx id n i f o hb hi hid hf
  refine call_inl hI rfl (fun j hj => ?_) (Nat.le_refl _) (hK F h1 h2)
  simp only [bxIns]
  rw [if_neg (by omega)]
  exact hw.1 j hj
theorem chg4_sp (s : Script) (V : VOps s) (i : Nat) (hi : i < s.ops.length) :
    Pure Sg 119 [vP s, I i, .c (.ipt 1 (fun _ => fnV 82) 0)] (fun x => x = .b (.c (.p (opL (s.ops.set i (chgOp 8 (opAt s.ops i))))))) := by
  have hn := V.cnt
  have hc := cloneOps_own s.ops.length (fnOf opE s.ops) (by omega) (fun a ha j hj => by
    have hivl : j = 0 ∨ j = 1 ∨ j = 2 ∨ j = 3 ∨ j = 4 ∨ j = 5 ∨ j = 6 ∨ j = 7 ∨ j = 8 ∨ j = 9 ∨ j = 10 ∨ j = 11 := by omega
    rcases hivl with rfl | rfl | rfl | rfl | rfl | rfl | rfl | rfl | rfl | rfl | rfl | rfl <;> exact ⟨_, rfl⟩)
  refine pure_le ?_
  refine pure_of Tryd.func119 rfl (rs := [.tmp 5]) rfl rfl mixed (by decide +kernel) (Nat.le_of_ble_eq_true rfl) (argsLt_mem (by simp (maxSteps := 1000000) (disch := omega) only [go_sem])) ?_
  repeat' (first | refine cw_assoc ?_ | refine cw_skips ?_ | refine cw_labels ?_ | ((first | (with_reducible refine cw_stepV (id := 1) (fun K hW => ?_)) | refine cw_step (fun K hK => ?_) | refine cw_last (fun K hK => ?_) | refine cw_stepD (by decide +kernel) (by decide +kernel) (fun K hK => ?_) | refine cw_lastD (by decide +kernel) (by decide +kernel) (fun K hK => ?_) | refine rgB_some ?_ | refine call_ownE (hc) ?_); (try simp (maxSteps := 1000000) (disch := omega) only [go_sem]); (repeat' (refine And.intro ?_ ?_)); (all_goals first | (refine hK _ ?_; clear hK K) | exact auto_cl | skip)) | ((first | apply cw_ite | apply cw_iteN); (case hf => rfl); (case hc => simp (maxSteps := 1000000) (disch := omega) only [go_sem]; rfl); (all_goals first | (intro hb; (try simp only [hbs] at hb)) | skip)) | exact atN_intro | ((first | apply cw_if | apply cw_cond); (case hc => simp (maxSteps := 1000000) (disch := omega) only [go_sem]; rfl); (all_goals (intro hb; (try simp only [hbs] at hb); try (exfalso; omega)))) | (refine cw_blocks (fun KB hB => ?_)) | (refine cw_block ?_) | ((first | refine cw_exits ?_ | refine cw_exit ?_ | refine cw_skip ?_); simp (maxSteps := 1000000) (disch := omega) only [go_sem]) | (refine hB _ ?_; clear hB KB) | (refine exit_by (S := Sg) (by assumption) ?_) | ((first | refine cw_rets ?_ | refine cw_ret ?_); simp (maxSteps := 1000000) (disch := omega) only [go_sem]; (try clear hB KB); (try clear hK K)))
  refine hW _ (mkSt [(0, .b (vP s)), (1, .b (I i)), (2, .b (.c (.ipt 1 (fun _ => fnV 82) 0))), (6, .b (.c (.own 1 s.ops.length)))] [(1, .arr 62 12 s.ops.length (fnOf opE s.ops))] 2) ?_ ?_
  · refine le_of [(1, some 0)] rfl (by decide) rfl ?_ ?_
    all_goals simp (maxSteps := 1000000) (disch := omega) only [go_sem]
    repeat' (refine And.intro ?_ ?_)
    all_goals first | rfl | omega | exact .inl rfl | trivial | skip
  clear hW
  refine cw_stepD (by decide +kernel) (by decide +kernel) (fun K hK => ?_)
  simp (maxSteps := 1000000) (disch := omega) only [go_sem]
  refine ⟨⟨by omega, by omega⟩, ?_⟩
  refine call_tab4 1 s.ops.length i (fnOf opE s.ops) (opAt s.ops i) (by simp (maxSteps := 1000000) (disch := omega) only [go_sem]) hi (by simp (maxSteps := 1000000) (disch := omega) only [go_sem]) (fun j hj => rfl) ?_ ?_
  · (focus (refine And.intro (fun iw hiw => by ((try simp (maxSteps := 1000000) (disch := omega) only [go_sem] at hiw ⊢); (repeat (first | rfl | exact if_neg (by omega) | rw [if_neg (by omega)])); done)) (by first | exact Nat.zero_le _ | (simp (maxSteps := 1000000) (disch := omega) only [go_sem]; done) | (simp (maxSteps := 1000000) (disch := omega) only [go_sem]; omega) | decide)))
  intro F hF1 hF2
  refine hK _ ?_
  clear hK
  repeat' (first | refine cw_assoc ?_ | refine cw_skips ?_ | refine cw_labels ?_ | ((first | refine cw_step (fun K hK => ?_) | refine cw_last (fun K hK => ?_) | refine cw_stepD (by decide +kernel) (by decide +kernel) (fun K hK => ?_) | refine cw_lastD (by decide +kernel) (by decide +kernel) (fun K hK => ?_) | refine rgB_some ?_); (try simp (maxSteps := 1000000) (disch := omega) only [go_sem]); (repeat' (refine And.intro ?_ ?_)); (all_goals first | (refine hK _ ?_; clear hK K) | exact auto_cl | skip)) | ((first | apply cw_ite | apply cw_iteN); (case hf => rfl); (case hc => simp (maxSteps := 1000000) (disch := omega) only [go_sem]; rfl); (all_goals first | (intro hb; (try simp only [hbs] at hb)) | skip)) | exact atN_intro | ((first | apply cw_if | apply cw_cond); (case hc => simp (maxSteps := 1000000) (disch := omega) only [go_sem]; rfl); (all_goals (intro hb; (try simp only [hbs] at hb); try (exfalso; omega)))) | (refine cw_blocks (fun KB hB => ?_)) | (refine cw_block ?_) | ((first | refine cw_exits ?_ | refine cw_exit ?_ | refine cw_skip ?_); simp (maxSteps := 1000000) (disch := omega) only [go_sem]) | (refine hB _ ?_; clear hB KB) | (refine exit_by (S := Sg) (by assumption) ?_) | ((first | refine cw_rets ?_ | refine cw_ret ?_); simp (maxSteps := 1000000) (disch := omega) only [go_sem]; (try clear hB KB); (try clear hK K)))
  refine sle_b (ble_c ?_)
  exact set_le hi hF1 hF2
theorem removed_sp (s : Script) (V : VOps s) (i : Nat) (hi : i < s.ops.length) : Pure Sg 70 [vP s, I i] (fun x => x = .b (.c (.p (opL (cutOps s i))))) := by
  have hn := V.cnt
  have W := V.wf
  have hel := ends_lt W hi
  have hge := ends_ge W hi
  have hc := cloneOps_own i (fun a j => fnOf opE s.ops (0 + a) j) (by omega) (fun a ha j hj => by
    have hivl : j = 0 ∨ j = 1 ∨ j = 2 ∨ j = 3 ∨ j = 4 ∨ j = 5 ∨ j = 6 ∨ j = 7 ∨ j = 8 ∨ j = 9 ∨ j = 10 ∨ j = 11 := by omega
    rcases hivl with rfl | rfl | rfl | rfl | rfl | rfl | rfl | rfl | rfl | rfl | rfl | rfl <;> exact ⟨_, rfl⟩)
  refine pure_le ?_
  refine pure_of Tryd.func70 rfl (rs := [.tmp 4]) rfl rfl mixed (by decide +kernel) (Nat.le_of_ble_eq_true rfl) (argsLt_mem (by simp (maxSteps := 1000000) (disch := omega) only [go_sem])) ?_
  repeat' (first | refine cw_assoc ?_ | refine cw_skips ?_ | refine cw_labels ?_ | ((first | (with_reducible refine cw_stepV (id := 0) (fun K hW => ?_)) | refine cw_step (fun K hK => ?_) | refine cw_last (fun K hK => ?_) | refine cw_stepD (by decide +kernel) (by decide +kernel) (fun K hK => ?_) | refine cw_lastD (by decide +kernel) (by decide +kernel) (fun K hK => ?_) | refine rgB_some ?_); (try simp (maxSteps := 1000000) (disch := omega) only [go_sem]); (repeat' (refine And.intro ?_ ?_)); (all_goals first | (refine hK _ ?_; clear hK K) | exact auto_cl | skip)) | ((first | apply cw_ite | apply cw_iteN); (case hf => rfl); (case hc => simp (maxSteps := 1000000) (disch := omega) only [go_sem]; rfl); (all_goals first | (intro hb; (try simp only [hbs] at hb)) | skip)) | exact atN_intro | ((first | apply cw_if | apply cw_cond); (case hc => simp (maxSteps := 1000000) (disch := omega) only [go_sem]; rfl); (all_goals (intro hb; (try simp only [hbs] at hb); try (exfalso; omega)))) | (refine cw_blocks (fun KB hB => ?_)) | (refine cw_block ?_) | ((first | refine cw_exits ?_ | refine cw_exit ?_ | refine cw_skip ?_); simp (maxSteps := 1000000) (disch := omega) only [go_sem]) | (refine hB _ ?_; clear hB KB) | (refine exit_by (S := Sg) (by assumption) ?_) | ((first | refine cw_rets ?_ | refine cw_ret ?_); simp (maxSteps := 1000000) (disch := omega) only [go_sem]; (try clear hB KB); (try clear hK K)))
  refine hW _ (mkSt [(0, .b (vP s)), (1, .b (I i))] [] 1) ?_ ?_
  · refine le_of [] rfl (by decide) rfl ?_ ?_
    all_goals simp (maxSteps := 1000000) (disch := omega) only [go_sem]
    repeat' (refine And.intro ?_ ?_)
    all_goals first | rfl | omega | exact .inl rfl | trivial | skip
  clear hW
  refine cw_stepR (id := 1) (.br 0 (.br 1 (.br 2 (.br 3 (.br 4 (.br 5 (.br 6 (.br 8 (.br 9 (.br 10 (.br 11 (.br 13 (.br 14 (.br 15 (.br 17 (.br 7 (.br 12 (.br 16 (.br 18 (.br 19 (.br 20 (.br 21 (.br 22 (.br 23 .leaf .nil) .nil) .nil) .nil) .nil) .nil) .nil) .nil) (.br 12 (.br 7 (.br 16 (.br 18 (.br 19 (.br 20 (.br 21 (.br 22 (.br 23 .leaf .nil) .nil) .nil) .nil) .nil) .nil) .nil) (.br 16 (.br 18 (.br 7 (.br 19 (.br 20 (.br 21 (.br 22 (.br 23 .leaf .nil) .nil) .nil) .nil) .nil) (.br 19 (.br 20 (.br 21 (.br 7 (.br 22 (.br 23 .leaf .nil) .nil) .nil) .nil) .nil) .nil)) .nil) .nil)) (.br 16 (.br 18 (.br 7 (.br 12 (.br 19 (.br 20 (.br 21 (.br 22 (.br 23 .leaf .nil) .nil) .nil) .nil) .nil) .nil) (.br 12 (.br 7 (.br 19 (.br 20 (.br 21 (.br 22 (.br 23 .leaf .nil) .nil) .nil) .nil) .nil) (.br 19 (.br 20 (.br 21 (.br 7 (.br 22 (.br 23 .leaf .nil) .nil) .nil) .nil) .nil) .nil)) (.br 19 (.br 20 (.br 7 (.br 12 (.br 21 (.br 22 (.br 23 .leaf .nil) .nil) .nil) .nil) (.br 12 (.br 21 (.br 7 (.br 22 (.br 23 .leaf .nil) .nil) .nil) .nil) .nil)) .nil) .nil))) .nil) .nil))) .nil) .nil) .nil) .nil) .nil) .nil) .nil) .nil) .nil) .nil) .nil) .nil) .nil) .nil) .nil) (by decide +kernel) (by (focus (refine And.intro (fun iw hiw => by ((try simp (maxSteps := 1000000) (disch := omega) only [go_sem] at hiw ⊢); (repeat (first | rfl | exact if_neg (by omega) | rw [if_neg (by omega)])); done)) (by first | exact Nat.zero_le _ | (simp (maxSteps := 1000000) (disch := omega) only [go_sem]; done) | (simp (maxSteps := 1000000) (disch := omega) only [go_sem]; omega) | decide)))) (fun K0 hW => ?_)
  refine (fun (tl : ∀ st, Le st (mkSt [(4, .b (.c (.own 1 (i + (s.ops.length - (endsM s.ops i + 1))))))] [(1, .arr 62 12 (i + (s.ops.length - (endsM s.ops i + 1))) (appF i (fun a j => fnOf opE s.ops (0 + a) j) (fun a j => fnOf opE s.ops (endsM s.ops i + 1 + a) j)))] 2) → K0 st) => ?_) (fun st hl => hW st _ hl ?_)
  · clear hW
    repeat' (first | exact tree_nil | (refine tree_br (fun K' hK' => ?_) ?_) | (refine tree_leaf (tl _ ?_); clear tl) | ((first | refine call_ownE (hc) ?_); (try simp (maxSteps := 1000000) (disch := omega) only [go_sem]); (repeat' (refine And.intro ?_ ?_)); (all_goals first | (refine hK' _ ?_; clear hK' K') | trivial | omega | exact Nat.le_of_ble_eq_true rfl | exact auto_cl | skip)) | (simp (maxSteps := 1000000) (disch := omega) only [go_sem]; (repeat' (refine And.intro ?_ ?_)); (all_goals first | (refine hK' _ ?_; clear hK' K') | trivial | omega | exact Nat.le_of_ble_eq_true rfl | exact auto_cl | skip)))
    all_goals
      refine le_of [(1, some 2)] rfl (by decide) rfl ?_ ?_
      all_goals simp (maxSteps := 1000000) (disch := omega) only [go_sem]
      repeat' (refine And.intro ?_ ?_)
      all_goals first | rfl | omega | exact .inl rfl | trivial | skip
  clear hW
  repeat' (first | refine cw_assoc ?_ | refine cw_skips ?_ | refine cw_labels ?_ | ((first | refine cw_step (fun K hK => ?_) | refine cw_last (fun K hK => ?_) | refine cw_stepD (by decide +kernel) (by decide +kernel) (fun K hK => ?_) | refine cw_lastD (by decide +kernel) (by decide +kernel) (fun K hK => ?_) | refine rgB_some ?_); (try simp (maxSteps := 1000000) (disch := omega) only [go_sem]); (repeat' (refine And.intro ?_ ?_)); (all_goals first | (refine hK _ ?_; clear hK K) | exact auto_cl | skip)) | ((first | apply cw_ite | apply cw_iteN); (case hf => rfl); (case hc => simp (maxSteps := 1000000) (disch := omega) only [go_sem]; rfl); (all_goals first | (intro hb; (try simp only [hbs] at hb)) | skip)) | exact atN_intro | ((first | apply cw_if | apply cw_cond); (case hc => simp (maxSteps := 1000000) (disch := omega) only [go_sem]; rfl); (all_goals (intro hb; (try simp only [hbs] at hb); try (exfalso; omega)))) | (refine cw_blocks (fun KB hB => ?_)) | (refine cw_block ?_) | ((first | refine cw_exits ?_ | refine cw_exit ?_ | refine cw_skip ?_); simp (maxSteps := 1000000) (disch := omega) only [go_sem]) | (refine hB _ ?_; clear hB KB) | (refine exit_by (S := Sg) (by assumption) ?_) | ((first | refine cw_rets ?_ | refine cw_ret ?_); simp (maxSteps := 1000000) (disch := omega) only [go_sem]; (try clear hB KB); (try clear hK K)))
  refine sle_b (ble_c ?_)
  have hl : (cutOps s i).length = i + (s.ops.length - (endsM s.ops i + 1)) := by
    rw [cutOps, List.length_append, List.length_take, List.length_drop]; omega
  show PV.le _ (PV.lst 12 (cutOps s i).length (fnOf opE (cutOps s i)))
  rw [hl]
  refine lst_le fun a ha j hj => ?_
  have hg : (cutOps s i).getD a default = if a < i then s.ops.getD (0 + a) default else s.ops.getD (endsM s.ops i + 1 + (a - i)) default := by
    rw [cutOps, List.getD_eq_getElem?_getD, List.getElem?_append, List.length_take, Nat.min_eq_left (Nat.le_of_lt hi)]
    split
    · rename_i h; rw [List.getElem?_take_of_lt h, Nat.zero_add, List.getD_eq_getElem?_getD]
    · rw [List.getElem?_drop, List.getD_eq_getElem?_getD]
  show _ = (opE ((cutOps s i).getD a default)).getD j .any
  rw [hg]
  unfold appF
  split <;> rfl
theorem app_pt {n m : Nat} {f g : Nat → Nat → PV} {a b : List Op} (hn : a.length = n) (hf : ∀ x, x < n → ∀ j, j < 12 → f x j = fnOf opE a x j) (hg : ∀ x, x < m → ∀ j, j < 12 → g x j = fnOf opE b x j) (x : Nat) (hx : x < n + m) (j : Nat) (hj : j < 12) :
    appF n f g x j = fnOf opE (a ++ b) x j := by
  unfold appF
  by_cases h : x < n
  · rw [if_pos h, hf x h j hj]
    exact congrArg (fun o => (opE o).getD j .any) (show a.getD x default = (a ++ b).getD x default by rw [List.getD_eq_getElem?_getD, List.getD_eq_getElem?_getD, List.getElem?_append_left (by omega)])
  · rw [if_neg h, hg (x - n) (by omega) j hj]
    exact congrArg (fun o => (opE o).getD j .any) (show b.getD (x - n) default = (a ++ b).getD x default by rw [List.getD_eq_getElem?_getD, List.getD_eq_getElem?_getD, List.getElem?_append_right (by omega), hn])
theorem opL_pt {n : Nat} {f : Nat → Nat → PV} {l : List Op} (hn : n = l.length) (h : ∀ x, x < n → ∀ j, j < 12 → f x j = fnOf opE l x j) : PV.le (.lst 12 n f) (opL l) := by
  subst hn
  exact lst_le h
theorem take_pt {l : List Op} {i x j : Nat} (h : x < i) : fnOf opE l (0 + x) j = fnOf opE (l.take i) x j := by
  exact congrArg (fun o => (opE o).getD j .any) (show l.getD (0 + x) default = (l.take i).getD x default by rw [List.getD_eq_getElem?_getD, List.getD_eq_getElem?_getD, List.getElem?_take_of_lt h, Nat.zero_add])
theorem drop_pt {l : List Op} {k x j : Nat} : fnOf opE l (k + x) j = fnOf opE (l.drop k) x j := by
  exact congrArg (fun o => (opE o).getD j .any) (show l.getD (k + x) default = (l.drop k).getD x default by rw [List.getD_eq_getElem?_getD, List.getD_eq_getElem?_getD, List.getElem?_drop])
theorem one_pt {o : Op} {x j : Nat} (h : x < 1) : (opE o).getD j .any = fnOf opE [o] x j := by
  have : x = 0 := by omega
  subst this; rfl
theorem app1_le {i : Nat} {f g g' : Nat → Nat → PV} (h : ∀ j, j < 12 → g 0 j = g' 0 j) : ∀ a, a < i + 1 → ∀ j, j < 12 → PV.le (appF i f g a j) (appF i f g' a j) := fun a ha j hj => by
  unfold appF
  by_cases hi : a < i
  · rw [if_pos hi, if_pos hi]; exact fun _ _ _ h => h
  · rw [if_neg hi, if_neg hi, show a - i = 0 by omega, h j hj]; exact fun _ _ _ h => h
theorem unw_fin {s : Script} {i : Nat} (W : Wf s.ops) (hi : i < s.ops.length) (hge : i + 2 ≤ endsM s.ops i) (hel : endsM s.ops i < s.ops.length) :
    PV.le (.lst 12 (i + 1 + (endsM s.ops i - (i + 2)) + (s.ops.length - (endsM s.ops i + 1)))
      (appF (i + 1 + (endsM s.ops i - (i + 2))) (appF (i + 1) (appF i (fun a j => fnOf opE s.ops (0 + a) j) (fun _ j => (opE (unwOp s i)).getD j .any)) (fun a j => fnOf opE s.ops (i + 2 + a) j)) (fun a j => fnOf opE s.ops (endsM s.ops i + 1 + a) j))) (opL (unwOps s i)) := by
  have l1 : (s.ops.take i).length = i := by rw [List.length_take]; omega
  have l2 : (s.ops.take i ++ [unwOp s i]).length = i + 1 := by rw [List.length_append, l1]; rfl
  have l3 : (s.ops.take i ++ [unwOp s i] ++ (s.ops.take (endsM s.ops i)).drop (i + 2)).length = i + 1 + (endsM s.ops i - (i + 2)) := by rw [List.length_append, l2, List.length_drop, List.length_take]; omega
  refine opL_pt ?_ ?_
  · rw [unwOps, List.length_append, l3, List.length_drop]
  · refine app_pt l3 (app_pt l2 (app_pt l1 (fun x hx j hj => take_pt hx) (fun x hx j hj => one_pt hx)) (fun x hx j hj => ?_)) (fun x hx j hj => drop_pt)
    exact congrArg (fun o => (opE o).getD j .any) (show s.ops.getD (i + 2 + x) default = ((s.ops.take (endsM s.ops i)).drop (i + 2)).getD x default by
      rw [List.getD_eq_getElem?_getD, List.getD_eq_getElem?_getD, List.getElem?_drop, List.getElem?_take_of_lt (by omega)])
theorem unwrapped_sp (s : Script) (V : VOps s) (i : Nat) (hi : i < s.ops.length) (hk : (opAt s.ops i).kind = 2) (h1 : 1 ≤ kidsM s.ops i) : Pure Sg 84 [vP s, I i] (fun x => x = .b (.c (.p (opL (unwOps s i))))) := by
  have hn := V.cnt
  have W := V.wf
  have hel := ends_lt W hi
  obtain ⟨hge, hk3⟩ := kid_next W hi hk h1
  have hc := cloneOps_own i (fun a j => fnOf opE s.ops (0 + a) j) (by omega) (fun a ha j hj => by
    have hivl : j = 0 ∨ j = 1 ∨ j = 2 ∨ j = 3 ∨ j = 4 ∨ j = 5 ∨ j = 6 ∨ j = 7 ∨ j = 8 ∨ j = 9 ∨ j = 10 ∨ j = 11 := by omega
    rcases hivl with rfl | rfl | rfl | rfl | rfl | rfl | rfl | rfl | rfl | rfl | rfl | rfl <;> exact ⟨_, rfl⟩)
  have hu := unscaled_sp s (opAt s.ops (i + 1))
  refine pure_le ?_
  refine pure_of Tryd.func84 rfl (rs := [.tmp 4]) rfl rfl mixed (by decide +kernel) (Nat.le_of_ble_eq_true rfl) (argsLt_mem (by simp (maxSteps := 1000000) (disch := omega) only [go_sem])) ?_
  repeat' (first | refine cw_assoc ?_ | refine cw_skips ?_ | refine cw_labels ?_ | ((first | (with_reducible refine cw_stepV (id := 0) (fun K hW => ?_)) | refine cw_step (fun K hK => ?_) | refine cw_last (fun K hK => ?_) | refine cw_stepD (by decide +kernel) (by decide +kernel) (fun K hK => ?_) | refine cw_lastD (by decide +kernel) (by decide +kernel) (fun K hK => ?_) | refine rgB_some ?_); (try simp (maxSteps := 1000000) (disch := omega) only [go_sem]); (repeat' (refine And.intro ?_ ?_)); (all_goals first | (refine hK _ ?_; clear hK K) | exact auto_cl | skip)) | ((first | apply cw_ite | apply cw_iteN); (case hf => rfl); (case hc => simp (maxSteps := 1000000) (disch := omega) only [go_sem]; rfl); (all_goals first | (intro hb; (try simp only [hbs] at hb)) | skip)) | exact atN_intro | ((first | apply cw_if | apply cw_cond); (case hc => simp (maxSteps := 1000000) (disch := omega) only [go_sem]; rfl); (all_goals (intro hb; (try simp only [hbs] at hb); try (exfalso; omega)))) | (refine cw_blocks (fun KB hB => ?_)) | (refine cw_block ?_) | ((first | refine cw_exits ?_ | refine cw_exit ?_ | refine cw_skip ?_); simp (maxSteps := 1000000) (disch := omega) only [go_sem]) | (refine hB _ ?_; clear hB KB) | (refine exit_by (S := Sg) (by assumption) ?_) | ((first | refine cw_rets ?_ | refine cw_ret ?_); simp (maxSteps := 1000000) (disch := omega) only [go_sem]; (try clear hB KB); (try clear hK K)))
  refine hW _ (mkSt [(0, .b (vP s)), (1, .b (I i))] [] 1) ?_ ?_
  · refine le_of [] rfl (by decide) rfl ?_ ?_
    all_goals simp (maxSteps := 1000000) (disch := omega) only [go_sem]
    repeat' (refine And.intro ?_ ?_)
    all_goals first | rfl | omega | exact .inl rfl | trivial | skip
  clear hW
  refine cw_stepR (id := 1) (.br 0 (.br 1 (.br 2 (.br 3 (.br 4 (.br 5 (.br 6 (.br 7 (.br 8 (.br 9 (.br 10 (.br 11 (.br 13 (.br 14 (.br 12 (.br 15 (.br 16 (.br 17 (.br 18 (.br 19 (.br 20 .leaf .nil) .nil) .nil) (.br 18 (.br 17 (.br 19 (.br 20 .leaf .nil) .nil) .nil) .nil)) (.br 17 (.br 16 (.br 18 (.br 19 (.br 20 .leaf .nil) .nil) .nil) (.br 18 (.br 16 (.br 19 (.br 20 .leaf .nil) .nil) (.br 19 (.br 16 (.br 20 .leaf .nil) .nil) .nil)) .nil)) (.br 18 (.br 16 (.br 17 (.br 19 (.br 20 .leaf .nil) .nil) .nil) (.br 17 (.br 16 (.br 19 (.br 20 .leaf .nil) .nil) (.br 19 (.br 16 (.br 20 .leaf .nil) .nil) .nil)) .nil)) .nil))) .nil) (.br 17 (.br 12 (.br 15 (.br 16 (.br 18 (.br 19 (.br 20 .leaf .nil) .nil) .nil) (.br 18 (.br 16 (.br 19 (.br 20 .leaf .nil) .nil) (.br 19 (.br 16 (.br 20 .leaf .nil) .nil) .nil)) .nil)) .nil) (.br 18 (.br 12 (.br 15 (.br 16 (.br 19 (.br 20 .leaf .nil) .nil) (.br 19 (.br 16 (.br 20 .leaf .nil) .nil) .nil)) .nil) (.br 19 (.br 12 (.br 15 (.br 16 (.br 20 .leaf .nil) .nil) .nil) .nil) .nil)) .nil)) (.br 18 (.br 12 (.br 15 (.br 16 (.br 17 (.br 19 (.br 20 .leaf .nil) .nil) .nil) (.br 17 (.br 16 (.br 19 (.br 20 .leaf .nil) .nil) (.br 19 (.br 16 (.br 20 .leaf .nil) .nil) .nil)) .nil)) .nil) (.br 17 (.br 12 (.br 15 (.br 16 (.br 19 (.br 20 .leaf .nil) .nil) (.br 19 (.br 16 (.br 20 .leaf .nil) .nil) .nil)) .nil) (.br 19 (.br 12 (.br 15 (.br 16 (.br 20 .leaf .nil) .nil) .nil) .nil) .nil)) .nil)) .nil))) .nil) .nil) .nil) .nil) .nil) .nil) .nil) .nil) .nil) .nil) .nil) .nil) .nil) .nil) (by decide +kernel) (by (focus (refine And.intro (fun iw hiw => by ((try simp (maxSteps := 1000000) (disch := omega) only [go_sem] at hiw ⊢); (repeat (first | rfl | exact if_neg (by omega) | rw [if_neg (by omega)])); done)) (by first | exact Nat.zero_le _ | (simp (maxSteps := 1000000) (disch := omega) only [go_sem]; done) | (simp (maxSteps := 1000000) (disch := omega) only [go_sem]; omega) | decide)))) (fun K0 hW => ?_)
  refine (fun (tl : ∀ st, Le st (mkSt [(0, .b (vP s)), (1, .b (I i)), (5, .b (.c (.ptr 1 0))), (6, .b (.c (.ptr 2 0)))] [(1, .fix ((opE (opAt s.ops i)).map CV.p)), (2, .fix ((opE (opAt s.ops (i + 1))).map CV.p))] 3) → K0 st) => ?_) (fun st hl => hW st _ hl ?_)
  · clear hW
    repeat' (first | exact tree_nil | (refine tree_br (fun K' hK' => ?_) ?_) | (refine tree_leaf (tl _ ?_); clear tl) | (simp (maxSteps := 1000000) (disch := omega) only [go_sem]; (repeat' (refine And.intro ?_ ?_)); (all_goals first | (refine hK' _ ?_; clear hK' K') | trivial | omega | exact Nat.le_of_ble_eq_true rfl | exact auto_cl | skip)))
    all_goals first | (refine le_of [(1, some 1), (2, some 2)] rfl (by decide) rfl ?_ ?_; (all_goals (simp (maxSteps := 1000000) (disch := omega) only [go_sem])); (repeat' (refine And.intro ?_ ?_)); (all_goals first | rfl | omega | exact .inl rfl | trivial | skip); done) | (refine le_of [(1, some 2), (2, some 1)] rfl (by decide) rfl ?_ ?_; (all_goals (simp (maxSteps := 1000000) (disch := omega) only [go_sem])); (repeat' (refine And.intro ?_ ?_)); (all_goals first | rfl | omega | exact .inl rfl | trivial | skip); done)
  clear hW
  unfold opAt at hu
  rcases Bool.eq_false_or_eq_true (unscM s (s.ops.getD (i + 1) default)) with hu1 | hu1 <;> by_cases hk2 : (opAt s.ops (i + 1)).kind = 2
  · have hun : ∃ o, o = unwOp s i ∧ o = { opAt s.ops (i + 1) with mask := (opAt s.ops i).mask, maskX := (opAt s.ops i).maskX, maskY := (opAt s.ops i).maskY, opacity := (opAt s.ops i).opacity, operator := (opAt s.ops i).operator, mode := (opAt s.ops i).mode, isolated := true } := by
      refine ⟨_, rfl, ?_⟩
      unfold unwOp unw1
      rw [if_pos (show unscM s (opAt s.ops (i + 1)) = true from hu1)]
      exact if_pos hk2
    obtain ⟨o, ho, hun⟩ := hun
    have hk4 : ((opAt s.ops (i + 1)).kind == 2) = true := beq_iff_eq.2 hk2
    have hk3 : ((s.ops.getD (i + 1) default).kind == 2) = true := hk4
    repeat' (first | ((first | apply cw_ifT | apply cw_condT); (case hc => simp (maxSteps := 1000000) (disch := omega) only [go_sem]; rfl); (case ht => (simp only [Int.toNat_natCast, Int.reduceBEq, Int.reduceBNe, Int.reduceLT, Int.reduceLE, decide_true, decide_false, Bool.not_true, Bool.not_false, Bool.and_true, Bool.true_and, Bool.and_false, Bool.false_and, Bool.or_true, Bool.true_or, Bool.or_false, Bool.false_or, hu1, hk3, hk4]; done))) | ((first | apply cw_ifF | apply cw_condF); (case hc => simp (maxSteps := 1000000) (disch := omega) only [go_sem]; rfl); (case ht => (simp only [Int.toNat_natCast, Int.reduceBEq, Int.reduceBNe, Int.reduceLT, Int.reduceLE, decide_true, decide_false, Bool.not_true, Bool.not_false, Bool.and_true, Bool.true_and, Bool.and_false, Bool.false_and, Bool.or_true, Bool.true_or, Bool.or_false, Bool.false_or, hu1, hk3, hk4]; done))) | ((first | ((with_reducible refine cw_stepDK (id := 3) [(28, 5), (30, 5), (32, 5), (34, 5), (36, 6), (37, 6), (38, 6), (39, 6)] (by decide +kernel) (by decide +kernel) ?_ (fun K hK => ?_)); (focus (refine And.intro (fun iw hiw => by ((try simp (maxSteps := 1000000) (disch := omega) only [go_sem] at hiw ⊢); (repeat (first | rfl | exact if_neg (by omega) | rw [if_neg (by omega)])); done)) (by first | exact Nat.zero_le _ | (simp (maxSteps := 1000000) (disch := omega) only [go_sem]; done) | (simp (maxSteps := 1000000) (disch := omega) only [go_sem]; omega) | decide)))) | ((with_reducible refine cw_lastDK (id := 3) [(28, 5), (30, 5), (32, 5), (34, 5), (36, 6), (37, 6), (38, 6), (39, 6)] (by decide +kernel) (by decide +kernel) ?_ (fun K hK => ?_)); (focus (refine And.intro (fun iw hiw => by ((try simp (maxSteps := 1000000) (disch := omega) only [go_sem] at hiw ⊢); (repeat (first | rfl | exact if_neg (by omega) | rw [if_neg (by omega)])); done)) (by first | exact Nat.zero_le _ | (simp (maxSteps := 1000000) (disch := omega) only [go_sem]; done) | (simp (maxSteps := 1000000) (disch := omega) only [go_sem]; omega) | decide))))); (try simp (maxSteps := 1000000) (disch := omega) only [go_sem]); (repeat' (refine And.intro ?_ ?_)); (all_goals first | (refine hK _ (by simp (maxSteps := 1000000) (disch := omega) only [go_sem]) ?_; clear hK K) | exact auto_cl | skip)) | ((first | ((with_reducible refine cw_stepDK (id := 4) [(40, 5), (42, 5), (44, 6), (45, 6)] (by decide +kernel) (by decide +kernel) ?_ (fun K hK => ?_)); (focus (refine And.intro (fun iw hiw => by ((try simp (maxSteps := 1000000) (disch := omega) only [go_sem] at hiw ⊢); (repeat (first | rfl | exact if_neg (by omega) | rw [if_neg (by omega)])); done)) (by first | exact Nat.zero_le _ | (simp (maxSteps := 1000000) (disch := omega) only [go_sem]; done) | (simp (maxSteps := 1000000) (disch := omega) only [go_sem]; omega) | decide)))) | ((with_reducible refine cw_lastDK (id := 4) [(40, 5), (42, 5), (44, 6), (45, 6)] (by decide +kernel) (by decide +kernel) ?_ (fun K hK => ?_)); (focus (refine And.intro (fun iw hiw => by ((try simp (maxSteps := 1000000) (disch := omega) only [go_sem] at hiw ⊢); (repeat (first | rfl | exact if_neg (by omega) | rw [if_neg (by omega)])); done)) (by first | exact Nat.zero_le _ | (simp (maxSteps := 1000000) (disch := omega) only [go_sem]; done) | (simp (maxSteps := 1000000) (disch := omega) only [go_sem]; omega) | decide))))); (try simp (maxSteps := 1000000) (disch := omega) only [go_sem]); (repeat' (refine And.intro ?_ ?_)); (all_goals first | (refine hK _ (by simp (maxSteps := 1000000) (disch := omega) only [go_sem]) ?_; clear hK K) | exact auto_cl | skip)) | refine cw_assoc ?_ | refine cw_skips ?_ | refine cw_labels ?_ | ((first | refine cw_step (fun K hK => ?_) | refine cw_last (fun K hK => ?_) | refine cw_stepD (by decide +kernel) (by decide +kernel) (fun K hK => ?_) | refine cw_lastD (by decide +kernel) (by decide +kernel) (fun K hK => ?_) | refine rgB_some ?_ | refine call_a (hu) ?_ | refine gcall_a (fun hg => hu) ?_); (try simp (maxSteps := 1000000) (disch := omega) only [go_sem]); (repeat' (refine And.intro ?_ ?_)); (all_goals first | (refine hK _ ?_; clear hK K) | exact auto_cl | skip)) | ((first | apply cw_ite | apply cw_iteN); (case hf => rfl); (case hc => simp (maxSteps := 1000000) (disch := omega) only [go_sem]; rfl); (all_goals first | (intro hb; (try simp only [hbs] at hb)) | skip)) | exact atN_intro | ((first | apply cw_if | apply cw_cond); (case hc => simp (maxSteps := 1000000) (disch := omega) only [go_sem]; rfl); (all_goals (intro hb; (try simp only [hbs] at hb); try (exfalso; omega)))) | (refine cw_blocks (fun KB hB => ?_)) | (refine cw_block ?_) | ((first | refine cw_exits ?_ | refine cw_exit ?_ | refine cw_skip ?_); simp (maxSteps := 1000000) (disch := omega) only [go_sem]) | (refine hB _ ?_; clear hB KB) | (refine exit_by (S := Sg) (by assumption) ?_) | ((first | refine cw_rets ?_ | refine cw_ret ?_); simp (maxSteps := 1000000) (disch := omega) only [go_sem]; (try clear hB KB); (try clear hK K)))
    refine cw_stepR (id := 7) (.br 0 (.br 1 (.br 2 (.br 3 (.br 4 (.br 5 (.br 6 (.br 7 (.br 8 (.br 9 (.br 10 (.br 11 .leaf .nil) .nil) .nil) .nil) (.br 8 (.br 7 (.br 9 (.br 10 (.br 11 .leaf .nil) .nil) .nil) (.br 9 (.br 7 (.br 10 (.br 11 .leaf .nil) .nil) .nil) .nil)) .nil)) .nil) .nil) .nil) .nil) .nil) .nil) .nil) (by decide +kernel) (by (focus (refine And.intro (fun iw hiw => by ((try simp (maxSteps := 1000000) (disch := omega) only [go_sem] at hiw ⊢); (repeat (first | rfl | exact if_neg (by omega) | rw [if_neg (by omega)])); done)) (by first | exact Nat.zero_le _ | (simp (maxSteps := 1000000) (disch := omega) only [go_sem]; done) | (simp (maxSteps := 1000000) (disch := omega) only [go_sem]; omega) | decide)))) (fun K0 hW => ?_)
    refine (fun (tl : ∀ st, Le st (mkSt [(0, .b (vP s)), (1, .b (I i)), (7, .b (.c (.own 1 (i + 1))))] [(1, .arr 62 12 (i + 1) (appF i (fun a j => fnOf opE s.ops (0 + a) j) (fun _ j => (opE (unwOp s i)).getD j .any)))] 2) → K0 st) => ?_) (fun st hl => hW st _ hl ?_)
    · clear hW
      repeat' (first | exact tree_nil | (refine tree_br (fun K' hK' => ?_) ?_) | (refine tree_leaf (tl _ ?_); clear tl) | ((first | refine call_ownE (hc) ?_); (try simp (maxSteps := 1000000) (disch := omega) only [go_sem]); (repeat' (refine And.intro ?_ ?_)); (all_goals first | (refine hK' _ ?_; clear hK' K') | trivial | omega | exact Nat.le_of_ble_eq_true rfl | exact auto_cl | skip)) | (simp (maxSteps := 1000000) (disch := omega) only [go_sem]; (repeat' (refine And.intro ?_ ?_)); (all_goals first | (refine hK' _ ?_; clear hK' K') | trivial | omega | exact Nat.le_of_ble_eq_true rfl | exact auto_cl | skip)))
      all_goals
        rw [← ho, hun]
        refine le_of [(1, some 5)] rfl (by decide) rfl ?_ ?_
        all_goals simp (maxSteps := 1000000) (disch := omega) only [go_sem]
        repeat' (refine And.intro ?_ ?_)
        all_goals first | rfl | omega | exact .inl rfl | trivial | skip
      all_goals
        refine .inr (app1_le fun j hj => ?_)
        have hivl : j = 0 ∨ j = 1 ∨ j = 2 ∨ j = 3 ∨ j = 4 ∨ j = 5 ∨ j = 6 ∨ j = 7 ∨ j = 8 ∨ j = 9 ∨ j = 10 ∨ j = 11 := by omega
        rcases hivl with rfl | rfl | rfl | rfl | rfl | rfl | rfl | rfl | rfl | rfl | rfl | rfl <;> rfl
    clear hW
    repeat' (first | refine cw_assoc ?_ | refine cw_skips ?_ | refine cw_labels ?_ | ((first | refine cw_step (fun K hK => ?_) | refine cw_last (fun K hK => ?_) | refine cw_stepD (by decide +kernel) (by decide +kernel) (fun K hK => ?_) | refine cw_lastD (by decide +kernel) (by decide +kernel) (fun K hK => ?_) | refine rgB_some ?_); (try simp (maxSteps := 1000000) (disch := omega) only [go_sem]); (repeat' (refine And.intro ?_ ?_)); (all_goals first | (refine hK _ ?_; clear hK K) | exact auto_cl | skip)) | ((first | apply cw_ite | apply cw_iteN); (case hf => rfl); (case hc => simp (maxSteps := 1000000) (disch := omega) only [go_sem]; rfl); (all_goals first | (intro hb; (try simp only [hbs] at hb)) | skip)) | exact atN_intro | ((first | apply cw_if | apply cw_cond); (case hc => simp (maxSteps := 1000000) (disch := omega) only [go_sem]; rfl); (all_goals (intro hb; (try simp only [hbs] at hb); try (exfalso; omega)))) | (refine cw_blocks (fun KB hB => ?_)) | (refine cw_block ?_) | ((first | refine cw_exits ?_ | refine cw_exit ?_ | refine cw_skip ?_); simp (maxSteps := 1000000) (disch := omega) only [go_sem]) | (refine hB _ ?_; clear hB KB) | (refine exit_by (S := Sg) (by assumption) ?_) | ((first | refine cw_rets ?_ | refine cw_ret ?_); simp (maxSteps := 1000000) (disch := omega) only [go_sem]; (try clear hB KB); (try clear hK K)))
    exact sle_b (ble_c (unw_fin W hi hge hel))
  · have hun : ∃ o, o = unwOp s i ∧ o = { opAt s.ops (i + 1) with mask := (opAt s.ops i).mask, maskX := (opAt s.ops i).maskX, maskY := (opAt s.ops i).maskY, opacity := (opAt s.ops i).opacity, operator := (opAt s.ops i).operator, mode := (opAt s.ops i).mode } := by
      refine ⟨_, rfl, ?_⟩
      unfold unwOp unw1
      rw [if_pos (show unscM s (opAt s.ops (i + 1)) = true from hu1)]
      exact if_neg hk2
    obtain ⟨o, ho, hun⟩ := hun
    have hk4 : ((opAt s.ops (i + 1)).kind == 2) = false := beq_eq_false_iff_ne.2 hk2
    have hk3 : ((s.ops.getD (i + 1) default).kind == 2) = false := hk4
    repeat' (first | ((first | apply cw_ifT | apply cw_condT); (case hc => simp (maxSteps := 1000000) (disch := omega) only [go_sem]; rfl); (case ht => (simp only [Int.toNat_natCast, Int.reduceBEq, Int.reduceBNe, Int.reduceLT, Int.reduceLE, decide_true, decide_false, Bool.not_true, Bool.not_false, Bool.and_true, Bool.true_and, Bool.and_false, Bool.false_and, Bool.or_true, Bool.true_or, Bool.or_false, Bool.false_or, hu1, hk3, hk4]; done))) | ((first | apply cw_ifF | apply cw_condF); (case hc => simp (maxSteps := 1000000) (disch := omega) only [go_sem]; rfl); (case ht => (simp only [Int.toNat_natCast, Int.reduceBEq, Int.reduceBNe, Int.reduceLT, Int.reduceLE, decide_true, decide_false, Bool.not_true, Bool.not_false, Bool.and_true, Bool.true_and, Bool.and_false, Bool.false_and, Bool.or_true, Bool.true_or, Bool.or_false, Bool.false_or, hu1, hk3, hk4]; done))) | ((first | ((with_reducible refine cw_stepDK (id := 3) [(28, 5), (30, 5), (32, 5), (34, 5), (36, 6), (37, 6), (38, 6), (39, 6)] (by decide +kernel) (by decide +kernel) ?_ (fun K hK => ?_)); (focus (refine And.intro (fun iw hiw => by ((try simp (maxSteps := 1000000) (disch := omega) only [go_sem] at hiw ⊢); (repeat (first | rfl | exact if_neg (by omega) | rw [if_neg (by omega)])); done)) (by first | exact Nat.zero_le _ | (simp (maxSteps := 1000000) (disch := omega) only [go_sem]; done) | (simp (maxSteps := 1000000) (disch := omega) only [go_sem]; omega) | decide)))) | ((with_reducible refine cw_lastDK (id := 3) [(28, 5), (30, 5), (32, 5), (34, 5), (36, 6), (37, 6), (38, 6), (39, 6)] (by decide +kernel) (by decide +kernel) ?_ (fun K hK => ?_)); (focus (refine And.intro (fun iw hiw => by ((try simp (maxSteps := 1000000) (disch := omega) only [go_sem] at hiw ⊢); (repeat (first | rfl | exact if_neg (by omega) | rw [if_neg (by omega)])); done)) (by first | exact Nat.zero_le _ | (simp (maxSteps := 1000000) (disch := omega) only [go_sem]; done) | (simp (maxSteps := 1000000) (disch := omega) only [go_sem]; omega) | decide))))); (try simp (maxSteps := 1000000) (disch := omega) only [go_sem]); (repeat' (refine And.intro ?_ ?_)); (all_goals first | (refine hK _ (by simp (maxSteps := 1000000) (disch := omega) only [go_sem]) ?_; clear hK K) | exact auto_cl | skip)) | ((first | ((with_reducible refine cw_stepDK (id := 4) [(40, 5), (42, 5), (44, 6), (45, 6)] (by decide +kernel) (by decide +kernel) ?_ (fun K hK => ?_)); (focus (refine And.intro (fun iw hiw => by ((try simp (maxSteps := 1000000) (disch := omega) only [go_sem] at hiw ⊢); (repeat (first | rfl | exact if_neg (by omega) | rw [if_neg (by omega)])); done)) (by first | exact Nat.zero_le _ | (simp (maxSteps := 1000000) (disch := omega) only [go_sem]; done) | (simp (maxSteps := 1000000) (disch := omega) only [go_sem]; omega) | decide)))) | ((with_reducible refine cw_lastDK (id := 4) [(40, 5), (42, 5), (44, 6), (45, 6)] (by decide +kernel) (by decide +kernel) ?_ (fun K hK => ?_)); (focus (refine And.intro (fun iw hiw => by ((try simp (maxSteps := 1000000) (disch := omega) only [go_sem] at hiw ⊢); (repeat (first | rfl | exact if_neg (by omega) | rw [if_neg (by omega)])); done)) (by first | exact Nat.zero_le _ | (simp (maxSteps := 1000000) (disch := omega) only [go_sem]; done) | (simp (maxSteps := 1000000) (disch := omega) only [go_sem]; omega) | decide))))); (try simp (maxSteps := 1000000) (disch := omega) only [go_sem]); (repeat' (refine And.intro ?_ ?_)); (all_goals first | (refine hK _ (by simp (maxSteps := 1000000) (disch := omega) only [go_sem]) ?_; clear hK K) | exact auto_cl | skip)) | refine cw_assoc ?_ | refine cw_skips ?_ | refine cw_labels ?_ | ((first | refine cw_step (fun K hK => ?_) | refine cw_last (fun K hK => ?_) | refine cw_stepD (by decide +kernel) (by decide +kernel) (fun K hK => ?_) | refine cw_lastD (by decide +kernel) (by decide +kernel) (fun K hK => ?_) | refine rgB_some ?_ | refine call_a (hu) ?_ | refine gcall_a (fun hg => hu) ?_); (try simp (maxSteps := 1000000) (disch := omega) only [go_sem]); (repeat' (refine And.intro ?_ ?_)); (all_goals first | (refine hK _ ?_; clear hK K) | exact auto_cl | skip)) | ((first | apply cw_ite | apply cw_iteN); (case hf => rfl); (case hc => simp (maxSteps := 1000000) (disch := omega) only [go_sem]; rfl); (all_goals first | (intro hb; (try simp only [hbs] at hb)) | skip)) | exact atN_intro | ((first | apply cw_if | apply cw_cond); (case hc => simp (maxSteps := 1000000) (disch := omega) only [go_sem]; rfl); (all_goals (intro hb; (try simp only [hbs] at hb); try (exfalso; omega)))) | (refine cw_blocks (fun KB hB => ?_)) | (refine cw_block ?_) | ((first | refine cw_exits ?_ | refine cw_exit ?_ | refine cw_skip ?_); simp (maxSteps := 1000000) (disch := omega) only [go_sem]) | (refine hB _ ?_; clear hB KB) | (refine exit_by (S := Sg) (by assumption) ?_) | ((first | refine cw_rets ?_ | refine cw_ret ?_); simp (maxSteps := 1000000) (disch := omega) only [go_sem]; (try clear hB KB); (try clear hK K)))
    refine cw_stepR (id := 7) (.br 0 (.br 1 (.br 2 (.br 3 (.br 4 (.br 5 (.br 6 (.br 7 (.br 8 (.br 9 (.br 10 (.br 11 .leaf .nil) .nil) .nil) .nil) (.br 8 (.br 7 (.br 9 (.br 10 (.br 11 .leaf .nil) .nil) .nil) (.br 9 (.br 7 (.br 10 (.br 11 .leaf .nil) .nil) .nil) .nil)) .nil)) .nil) .nil) .nil) .nil) .nil) .nil) .nil) (by decide +kernel) (by (focus (refine And.intro (fun iw hiw => by ((try simp (maxSteps := 1000000) (disch := omega) only [go_sem] at hiw ⊢); (repeat (first | rfl | exact if_neg (by omega) | rw [if_neg (by omega)])); done)) (by first | exact Nat.zero_le _ | (simp (maxSteps := 1000000) (disch := omega) only [go_sem]; done) | (simp (maxSteps := 1000000) (disch := omega) only [go_sem]; omega) | decide)))) (fun K0 hW => ?_)
    refine (fun (tl : ∀ st, Le st (mkSt [(0, .b (vP s)), (1, .b (I i)), (7, .b (.c (.own 1 (i + 1))))] [(1, .arr 62 12 (i + 1) (appF i (fun a j => fnOf opE s.ops (0 + a) j) (fun _ j => (opE (unwOp s i)).getD j .any)))] 2) → K0 st) => ?_) (fun st hl => hW st _ hl ?_)
    · clear hW
      repeat' (first | exact tree_nil | (refine tree_br (fun K' hK' => ?_) ?_) | (refine tree_leaf (tl _ ?_); clear tl) | ((first | refine call_ownE (hc) ?_); (try simp (maxSteps := 1000000) (disch := omega) only [go_sem]); (repeat' (refine And.intro ?_ ?_)); (all_goals first | (refine hK' _ ?_; clear hK' K') | trivial | omega | exact Nat.le_of_ble_eq_true rfl | exact auto_cl | skip)) | (simp (maxSteps := 1000000) (disch := omega) only [go_sem]; (repeat' (refine And.intro ?_ ?_)); (all_goals first | (refine hK' _ ?_; clear hK' K') | trivial | omega | exact Nat.le_of_ble_eq_true rfl | exact auto_cl | skip)))
      all_goals
        rw [← ho, hun]
        refine le_of [(1, some 5)] rfl (by decide) rfl ?_ ?_
        all_goals simp (maxSteps := 1000000) (disch := omega) only [go_sem]
        repeat' (refine And.intro ?_ ?_)
        all_goals first | rfl | omega | exact .inl rfl | trivial | skip
      all_goals
        refine .inr (app1_le fun j hj => ?_)
        have hivl : j = 0 ∨ j = 1 ∨ j = 2 ∨ j = 3 ∨ j = 4 ∨ j = 5 ∨ j = 6 ∨ j = 7 ∨ j = 8 ∨ j = 9 ∨ j = 10 ∨ j = 11 := by omega
        rcases hivl with rfl | rfl | rfl | rfl | rfl | rfl | rfl | rfl | rfl | rfl | rfl | rfl <;> rfl
    clear hW
    repeat' (first | refine cw_assoc ?_ | refine cw_skips ?_ | refine cw_labels ?_ | ((first | refine cw_step (fun K hK => ?_) | refine cw_last (fun K hK => ?_) | refine cw_stepD (by decide +kernel) (by decide +kernel) (fun K hK => ?_) | refine cw_lastD (by decide +kernel) (by decide +kernel) (fun K hK => ?_) | refine rgB_some ?_); (try simp (maxSteps := 1000000) (disch := omega) only [go_sem]); (repeat' (refine And.intro ?_ ?_)); (all_goals first | (refine hK _ ?_; clear hK K) | exact auto_cl | skip)) | ((first | apply cw_ite | apply cw_iteN); (case hf => rfl); (case hc => simp (maxSteps := 1000000) (disch := omega) only [go_sem]; rfl); (all_goals first | (intro hb; (try simp only [hbs] at hb)) | skip)) | exact atN_intro | ((first | apply cw_if | apply cw_cond); (case hc => simp (maxSteps := 1000000) (disch := omega) only [go_sem]; rfl); (all_goals (intro hb; (try simp only [hbs] at hb); try (exfalso; omega)))) | (refine cw_blocks (fun KB hB => ?_)) | (refine cw_block ?_) | ((first | refine cw_exits ?_ | refine cw_exit ?_ | refine cw_skip ?_); simp (maxSteps := 1000000) (disch := omega) only [go_sem]) | (refine hB _ ?_; clear hB KB) | (refine exit_by (S := Sg) (by assumption) ?_) | ((first | refine cw_rets ?_ | refine cw_ret ?_); simp (maxSteps := 1000000) (disch := omega) only [go_sem]; (try clear hB KB); (try clear hK K)))
    exact sle_b (ble_c (unw_fin W hi hge hel))
  · have hun : ∃ o, o = unwOp s i ∧ o = { opAt s.ops (i + 1) with operator := (opAt s.ops i).operator, mode := (opAt s.ops i).mode, isolated := true } := by
      refine ⟨_, rfl, ?_⟩
      unfold unwOp unw1
      rw [if_neg (show ¬ unscM s (opAt s.ops (i + 1)) = true by unfold opAt; rw [hu1]; decide)]
      exact if_pos hk2
    obtain ⟨o, ho, hun⟩ := hun
    have hk4 : ((opAt s.ops (i + 1)).kind == 2) = true := beq_iff_eq.2 hk2
    have hk3 : ((s.ops.getD (i + 1) default).kind == 2) = true := hk4
    repeat' (first | ((first | apply cw_ifT | apply cw_condT); (case hc => simp (maxSteps := 1000000) (disch := omega) only [go_sem]; rfl); (case ht => (simp only [Int.toNat_natCast, Int.reduceBEq, Int.reduceBNe, Int.reduceLT, Int.reduceLE, decide_true, decide_false, Bool.not_true, Bool.not_false, Bool.and_true, Bool.true_and, Bool.and_false, Bool.false_and, Bool.or_true, Bool.true_or, Bool.or_false, Bool.false_or, hu1, hk3, hk4]; done))) | ((first | apply cw_ifF | apply cw_condF); (case hc => simp (maxSteps := 1000000) (disch := omega) only [go_sem]; rfl); (case ht => (simp only [Int.toNat_natCast, Int.reduceBEq, Int.reduceBNe, Int.reduceLT, Int.reduceLE, decide_true, decide_false, Bool.not_true, Bool.not_false, Bool.and_true, Bool.true_and, Bool.and_false, Bool.false_and, Bool.or_true, Bool.true_or, Bool.or_false, Bool.false_or, hu1, hk3, hk4]; done))) | ((first | ((with_reducible refine cw_stepDK (id := 3) [(28, 5), (30, 5), (32, 5), (34, 5), (36, 6), (37, 6), (38, 6), (39, 6)] (by decide +kernel) (by decide +kernel) ?_ (fun K hK => ?_)); (focus (refine And.intro (fun iw hiw => by ((try simp (maxSteps := 1000000) (disch := omega) only [go_sem] at hiw ⊢); (repeat (first | rfl | exact if_neg (by omega) | rw [if_neg (by omega)])); done)) (by first | exact Nat.zero_le _ | (simp (maxSteps := 1000000) (disch := omega) only [go_sem]; done) | (simp (maxSteps := 1000000) (disch := omega) only [go_sem]; omega) | decide)))) | ((with_reducible refine cw_lastDK (id := 3) [(28, 5), (30, 5), (32, 5), (34, 5), (36, 6), (37, 6), (38, 6), (39, 6)] (by decide +kernel) (by decide +kernel) ?_ (fun K hK => ?_)); (focus (refine And.intro (fun iw hiw => by ((try simp (maxSteps := 1000000) (disch := omega) only [go_sem] at hiw ⊢); (repeat (first | rfl | exact if_neg (by omega) | rw [if_neg (by omega)])); done)) (by first | exact Nat.zero_le _ | (simp (maxSteps := 1000000) (disch := omega) only [go_sem]; done) | (simp (maxSteps := 1000000) (disch := omega) only [go_sem]; omega) | decide))))); (try simp (maxSteps := 1000000) (disch := omega) only [go_sem]); (repeat' (refine And.intro ?_ ?_)); (all_goals first | (refine hK _ (by simp (maxSteps := 1000000) (disch := omega) only [go_sem]) ?_; clear hK K) | exact auto_cl | skip)) | ((first | ((with_reducible refine cw_stepDK (id := 4) [(40, 5), (42, 5), (44, 6), (45, 6)] (by decide +kernel) (by decide +kernel) ?_ (fun K hK => ?_)); (focus (refine And.intro (fun iw hiw => by ((try simp (maxSteps := 1000000) (disch := omega) only [go_sem] at hiw ⊢); (repeat (first | rfl | exact if_neg (by omega) | rw [if_neg (by omega)])); done)) (by first | exact Nat.zero_le _ | (simp (maxSteps := 1000000) (disch := omega) only [go_sem]; done) | (simp (maxSteps := 1000000) (disch := omega) only [go_sem]; omega) | decide)))) | ((with_reducible refine cw_lastDK (id := 4) [(40, 5), (42, 5), (44, 6), (45, 6)] (by decide +kernel) (by decide +kernel) ?_ (fun K hK => ?_)); (focus (refine And.intro (fun iw hiw => by ((try simp (maxSteps := 1000000) (disch := omega) only [go_sem] at hiw ⊢); (repeat (first | rfl | exact if_neg (by omega) | rw [if_neg (by omega)])); done)) (by first | exact Nat.zero_le _ | (simp (maxSteps := 1000000) (disch := omega) only [go_sem]; done) | (simp (maxSteps := 1000000) (disch := omega) only [go_sem]; omega) | decide))))); (try simp (maxSteps := 1000000) (disch := omega) only [go_sem]); (repeat' (refine And.intro ?_ ?_)); (all_goals first | (refine hK _ (by simp (maxSteps := 1000000) (disch := omega) only [go_sem]) ?_; clear hK K) | exact auto_cl | skip)) | refine cw_assoc ?_ | refine cw_skips ?_ | refine cw_labels ?_ | ((first | refine cw_step (fun K hK => ?_) | refine cw_last (fun K hK => ?_) | refine cw_stepD (by decide +kernel) (by decide +kernel) (fun K hK => ?_) | refine cw_lastD (by decide +kernel) (by decide +kernel) (fun K hK => ?_) | refine rgB_some ?_ | refine call_a (hu) ?_ | refine gcall_a (fun hg => hu) ?_); (try simp (maxSteps := 1000000) (disch := omega) only [go_sem]); (repeat' (refine And.intro ?_ ?_)); (all_goals first | (refine hK _ ?_; clear hK K) | exact auto_cl | skip)) | ((first | apply cw_ite | apply cw_iteN); (case hf => rfl); (case hc => simp (maxSteps := 1000000) (disch := omega) only [go_sem]; rfl); (all_goals first | (intro hb; (try simp only [hbs] at hb)) | skip)) | exact atN_intro | ((first | apply cw_if | apply cw_cond); (case hc => simp (maxSteps := 1000000) (disch := omega) only [go_sem]; rfl); (all_goals (intro hb; (try simp only [hbs] at hb); try (exfalso; omega)))) | (refine cw_blocks (fun KB hB => ?_)) | (refine cw_block ?_) | ((first | refine cw_exits ?_ | refine cw_exit ?_ | refine cw_skip ?_); simp (maxSteps := 1000000) (disch := omega) only [go_sem]) | (refine hB _ ?_; clear hB KB) | (refine exit_by (S := Sg) (by assumption) ?_) | ((first | refine cw_rets ?_ | refine cw_ret ?_); simp (maxSteps := 1000000) (disch := omega) only [go_sem]; (try clear hB KB); (try clear hK K)))
    refine cw_stepR (id := 7) (.br 0 (.br 1 (.br 2 (.br 3 (.br 4 (.br 5 (.br 6 (.br 7 (.br 8 (.br 9 (.br 10 (.br 11 .leaf .nil) .nil) .nil) .nil) (.br 8 (.br 7 (.br 9 (.br 10 (.br 11 .leaf .nil) .nil) .nil) (.br 9 (.br 7 (.br 10 (.br 11 .leaf .nil) .nil) .nil) .nil)) .nil)) .nil) .nil) .nil) .nil) .nil) .nil) .nil) (by decide +kernel) (by (focus (refine And.intro (fun iw hiw => by ((try simp (maxSteps := 1000000) (disch := omega) only [go_sem] at hiw ⊢); (repeat (first | rfl | exact if_neg (by omega) | rw [if_neg (by omega)])); done)) (by first | exact Nat.zero_le _ | (simp (maxSteps := 1000000) (disch := omega) only [go_sem]; done) | (simp (maxSteps := 1000000) (disch := omega) only [go_sem]; omega) | decide)))) (fun K0 hW => ?_)
    refine (fun (tl : ∀ st, Le st (mkSt [(0, .b (vP s)), (1, .b (I i)), (7, .b (.c (.own 1 (i + 1))))] [(1, .arr 62 12 (i + 1) (appF i (fun a j => fnOf opE s.ops (0 + a) j) (fun _ j => (opE (unwOp s i)).getD j .any)))] 2) → K0 st) => ?_) (fun st hl => hW st _ hl ?_)
    · clear hW
      repeat' (first | exact tree_nil | (refine tree_br (fun K' hK' => ?_) ?_) | (refine tree_leaf (tl _ ?_); clear tl) | ((first | refine call_ownE (hc) ?_); (try simp (maxSteps := 1000000) (disch := omega) only [go_sem]); (repeat' (refine And.intro ?_ ?_)); (all_goals first | (refine hK' _ ?_; clear hK' K') | trivial | omega | exact Nat.le_of_ble_eq_true rfl | exact auto_cl | skip)) | (simp (maxSteps := 1000000) (disch := omega) only [go_sem]; (repeat' (refine And.intro ?_ ?_)); (all_goals first | (refine hK' _ ?_; clear hK' K') | trivial | omega | exact Nat.le_of_ble_eq_true rfl | exact auto_cl | skip)))
      all_goals
        rw [← ho, hun]
        refine le_of [(1, some 5)] rfl (by decide) rfl ?_ ?_
        all_goals simp (maxSteps := 1000000) (disch := omega) only [go_sem]
        repeat' (refine And.intro ?_ ?_)
        all_goals first | rfl | omega | exact .inl rfl | trivial | skip
      all_goals
        refine .inr (app1_le fun j hj => ?_)
        have hivl : j = 0 ∨ j = 1 ∨ j = 2 ∨ j = 3 ∨ j = 4 ∨ j = 5 ∨ j = 6 ∨ j = 7 ∨ j = 8 ∨ j = 9 ∨ j = 10 ∨ j = 11 := by omega
        rcases hivl with rfl | rfl | rfl | rfl | rfl | rfl | rfl | rfl | rfl | rfl | rfl | rfl <;> rfl
    clear hW
    repeat' (first | refine cw_assoc ?_ | refine cw_skips ?_ | refine cw_labels ?_ | ((first | refine cw_step (fun K hK => ?_) | refine cw_last (fun K hK => ?_) | refine cw_stepD (by decide +kernel) (by decide +kernel) (fun K hK => ?_) | refine cw_lastD (by decide +kernel) (by decide +kernel) (fun K hK => ?_) | refine rgB_some ?_); (try simp (maxSteps := 1000000) (disch := omega) only [go_sem]); (repeat' (refine And.intro ?_ ?_)); (all_goals first | (refine hK _ ?_; clear hK K) | exact auto_cl | skip)) | ((first | apply cw_ite | apply cw_iteN); (case hf => rfl); (case hc => simp (maxSteps := 1000000) (disch := omega) only [go_sem]; rfl); (all_goals first | (intro hb; (try simp only [hbs] at hb)) | skip)) | exact atN_intro | ((first | apply cw_if | apply cw_cond); (case hc => simp (maxSteps := 1000000) (disch := omega) only [go_sem]; rfl); (all_goals (intro hb; (try simp only [hbs] at hb); try (exfalso; omega)))) | (refine cw_blocks (fun KB hB => ?_)) | (refine cw_block ?_) | ((first | refine cw_exits ?_ | refine cw_exit ?_ | refine cw_skip ?_); simp (maxSteps := 1000000) (disch := omega) only [go_sem]) | (refine hB _ ?_; clear hB KB) | (refine exit_by (S := Sg) (by assumption) ?_) | ((first | refine cw_rets ?_ | refine cw_ret ?_); simp (maxSteps := 1000000) (disch := omega) only [go_sem]; (try clear hB KB); (try clear hK K)))
    exact sle_b (ble_c (unw_fin W hi hge hel))
  · have hun : ∃ o, o = unwOp s i ∧ o = { opAt s.ops (i + 1) with operator := (opAt s.ops i).operator, mode := (opAt s.ops i).mode } := by
      refine ⟨_, rfl, ?_⟩
      unfold unwOp unw1
      rw [if_neg (show ¬ unscM s (opAt s.ops (i + 1)) = true by unfold opAt; rw [hu1]; decide)]
      exact if_neg hk2
    obtain ⟨o, ho, hun⟩ := hun
    have hk4 : ((opAt s.ops (i + 1)).kind == 2) = false := beq_eq_false_iff_ne.2 hk2
    have hk3 : ((s.ops.getD (i + 1) default).kind == 2) = false := hk4
    repeat' (first | ((first | apply cw_ifT | apply cw_condT); (case hc => simp (maxSteps := 1000000) (disch := omega) only [go_sem]; rfl); (case ht => (simp only [Int.toNat_natCast, Int.reduceBEq, Int.reduceBNe, Int.reduceLT, Int.reduceLE, decide_true, decide_false, Bool.not_true, Bool.not_false, Bool.and_true, Bool.true_and, Bool.and_false, Bool.false_and, Bool.or_true, Bool.true_or, Bool.or_false, Bool.false_or, hu1, hk3, hk4]; done))) | ((first | apply cw_ifF | apply cw_condF); (case hc => simp (maxSteps := 1000000) (disch := omega) only [go_sem]; rfl); (case ht => (simp only [Int.toNat_natCast, Int.reduceBEq, Int.reduceBNe, Int.reduceLT, Int.reduceLE, decide_true, decide_false, Bool.not_true, Bool.not_false, Bool.and_true, Bool.true_and, Bool.and_false, Bool.false_and, Bool.or_true, Bool.true_or, Bool.or_false, Bool.false_or, hu1, hk3, hk4]; done))) | ((first | ((with_reducible refine cw_stepDK (id := 3) [(28, 5), (30, 5), (32, 5), (34, 5), (36, 6), (37, 6), (38, 6), (39, 6)] (by decide +kernel) (by decide +kernel) ?_ (fun K hK => ?_)); (focus (refine And.intro (fun iw hiw => by ((try simp (maxSteps := 1000000) (disch := omega) only [go_sem] at hiw ⊢); (repeat (first | rfl | exact if_neg (by omega) | rw [if_neg (by omega)])); done)) (by first | exact Nat.zero_le _ | (simp (maxSteps := 1000000) (disch := omega) only [go_sem]; done) | (simp (maxSteps := 1000000) (disch := omega) only [go_sem]; omega) | decide)))) | ((with_reducible refine cw_lastDK (id := 3) [(28, 5), (30, 5), (32, 5), (34, 5), (36, 6), (37, 6), (38, 6), (39, 6)] (by decide +kernel) (by decide +kernel) ?_ (fun K hK => ?_)); (focus (refine And.intro (fun iw hiw => by ((try simp (maxSteps := 1000000) (disch := omega) only [go_sem] at hiw ⊢); (repeat (first | rfl | exact if_neg (by omega) | rw [if_neg (by omega)])); done)) (by first | exact Nat.zero_le _ | (simp (maxSteps := 1000000) (disch := omega) only [go_sem]; done) | (simp (maxSteps := 1000000) (disch := omega) only [go_sem]; omega) | decide))))); (try simp (maxSteps := 1000000) (disch := omega) only [go_sem]); (repeat' (refine And.intro ?_ ?_)); (all_goals first | (refine hK _ (by simp (maxSteps := 1000000) (disch := omega) only [go_sem]) ?_; clear hK K) | exact auto_cl | skip)) | ((first | ((with_reducible refine cw_stepDK (id := 4) [(40, 5), (42, 5), (44, 6), (45, 6)] (by decide +kernel) (by decide +kernel) ?_ (fun K hK => ?_)); (focus (refine And.intro (fun iw hiw => by ((try simp (maxSteps := 1000000) (disch := omega) only [go_sem] at hiw ⊢); (repeat (first | rfl | exact if_neg (by omega) | rw [if_neg (by omega)])); done)) (by first | exact Nat.zero_le _ | (simp (maxSteps := 1000000) (disch := omega) only [go_sem]; done) | (simp (maxSteps := 1000000) (disch := omega) only [go_sem]; omega) | decide)))) | ((with_reducible refine cw_lastDK (id := 4) [(40, 5), (42, 5), (44, 6), (45, 6)] (by decide +kernel) (by decide +kernel) ?_ (fun K hK => ?_)); (focus (refine And.intro (fun iw hiw => by ((try simp (maxSteps := 1000000) (disch := omega) only [go_sem] at hiw ⊢); (repeat (first | rfl | exact if_neg (by omega) | rw [if_neg (by omega)])); done)) (by first | exact Nat.zero_le _ | (simp (maxSteps := 1000000) (disch := omega) only [go_sem]; done) | (simp (maxSteps := 1000000) (disch := omega) only [go_sem]; omega) | decide))))); (try simp (maxSteps := 1000000) (disch := omega) only [go_sem]); (repeat' (refine And.intro ?_ ?_)); (all_goals first | (refine hK _ (by simp (maxSteps := 1000000) (disch := omega) only [go_sem]) ?_; clear hK K) | exact auto_cl | skip)) | refine cw_assoc ?_ | refine cw_skips ?_ | refine cw_labels ?_ | ((first | refine cw_step (fun K hK => ?_) | refine cw_last (fun K hK => ?_) | refine cw_stepD (by decide +kernel) (by decide +kernel) (fun K hK => ?_) | refine cw_lastD (by decide +kernel) (by decide +kernel) (fun K hK => ?_) | refine rgB_some ?_ | refine call_a (hu) ?_ | refine gcall_a (fun hg => hu) ?_); (try simp (maxSteps := 1000000) (disch := omega) only [go_sem]); (repeat' (refine And.intro ?_ ?_)); (all_goals first | (refine hK _ ?_; clear hK K) | exact auto_cl | skip)) | ((first | apply cw_ite | apply cw_iteN); (case hf => rfl); (case hc => simp (maxSteps := 1000000) (disch := omega) only [go_sem]; rfl); (all_goals first | (intro hb; (try simp only [hbs] at hb)) | skip)) | exact atN_intro | ((first | apply cw_if | apply cw_cond); (case hc => simp (maxSteps := 1000000) (disch := omega) only [go_sem]; rfl); (all_goals (intro hb; (try simp only [hbs] at hb); try (exfalso; omega)))) | (refine cw_blocks (fun KB hB => ?_)) | (refine cw_block ?_) | ((first | refine cw_exits ?_ | refine cw_exit ?_ | refine cw_skip ?_); simp (maxSteps := 1000000) (disch := omega) only [go_sem]) | (refine hB _ ?_; clear hB KB) | (refine exit_by (S := Sg) (by assumption) ?_) | ((first | refine cw_rets ?_ | refine cw_ret ?_); simp (maxSteps := 1000000) (disch := omega) only [go_sem]; (try clear hB KB); (try clear hK K)))
    refine cw_stepR (id := 7) (.br 0 (.br 1 (.br 2 (.br 3 (.br 4 (.br 5 (.br 6 (.br 7 (.br 8 (.br 9 (.br 10 (.br 11 .leaf .nil) .nil) .nil) .nil) (.br 8 (.br 7 (.br 9 (.br 10 (.br 11 .leaf .nil) .nil) .nil) (.br 9 (.br 7 (.br 10 (.br 11 .leaf .nil) .nil) .nil) .nil)) .nil)) .nil) .nil) .nil) .nil) .nil) .nil) .nil) (by decide +kernel) (by (focus (refine And.intro (fun iw hiw => by ((try simp (maxSteps := 1000000) (disch := omega) only [go_sem] at hiw ⊢); (repeat (first | rfl | exact if_neg (by omega) | rw [if_neg (by omega)])); done)) (by first | exact Nat.zero_le _ | (simp (maxSteps := 1000000) (disch := omega) only [go_sem]; done) | (simp (maxSteps := 1000000) (disch := omega) only [go_sem]; omega) | decide)))) (fun K0 hW => ?_)
    refine (fun (tl : ∀ st, Le st (mkSt [(0, .b (vP s)), (1, .b (I i)), (7, .b (.c (.own 1 (i + 1))))] [(1, .arr 62 12 (i + 1) (appF i (fun a j => fnOf opE s.ops (0 + a) j) (fun _ j => (opE (unwOp s i)).getD j .any)))] 2) → K0 st) => ?_) (fun st hl => hW st _ hl ?_)
    · clear hW
      repeat' (first | exact tree_nil | (refine tree_br (fun K' hK' => ?_) ?_) | (refine tree_leaf (tl _ ?_); clear tl) | ((first | refine call_ownE (hc) ?_); (try simp (maxSteps := 1000000) (disch := omega) only [go_sem]); (repeat' (refine And.intro ?_ ?_)); (all_goals first | (refine hK' _ ?_; clear hK' K') | trivial | omega | exact Nat.le_of_ble_eq_true rfl | exact auto_cl | skip)) | (simp (maxSteps := 1000000) (disch := omega) only [go_sem]; (repeat' (refine And.intro ?_ ?_)); (all_goals first | (refine hK' _ ?_; clear hK' K') | trivial | omega | exact Nat.le_of_ble_eq_true rfl | exact auto_cl | skip)))
      all_goals
        rw [← ho, hun]
        refine le_of [(1, some 5)] rfl (by decide) rfl ?_ ?_
        all_goals simp (maxSteps := 1000000) (disch := omega) only [go_sem]
        repeat' (refine And.intro ?_ ?_)
        all_goals first | rfl | omega | exact .inl rfl | trivial | skip
      all_goals
        refine .inr (app1_le fun j hj => ?_)
        have hivl : j = 0 ∨ j = 1 ∨ j = 2 ∨ j = 3 ∨ j = 4 ∨ j = 5 ∨ j = 6 ∨ j = 7 ∨ j = 8 ∨ j = 9 ∨ j = 10 ∨ j = 11 := by omega
        rcases hivl with rfl | rfl | rfl | rfl | rfl | rfl | rfl | rfl | rfl | rfl | rfl | rfl <;> rfl
    clear hW
    repeat' (first | refine cw_assoc ?_ | refine cw_skips ?_ | refine cw_labels ?_ | ((first | refine cw_step (fun K hK => ?_) | refine cw_last (fun K hK => ?_) | refine cw_stepD (by decide +kernel) (by decide +kernel) (fun K hK => ?_) | refine cw_lastD (by decide +kernel) (by decide +kernel) (fun K hK => ?_) | refine rgB_some ?_); (try simp (maxSteps := 1000000) (disch := omega) only [go_sem]); (repeat' (refine And.intro ?_ ?_)); (all_goals first | (refine hK _ ?_; clear hK K) | exact auto_cl | skip)) | ((first | apply cw_ite | apply cw_iteN); (case hf => rfl); (case hc => simp (maxSteps := 1000000) (disch := omega) only [go_sem]; rfl); (all_goals first | (intro hb; (try simp only [hbs] at hb)) | skip)) | exact atN_intro | ((first | apply cw_if | apply cw_cond); (case hc => simp (maxSteps := 1000000) (disch := omega) only [go_sem]; rfl); (all_goals (intro hb; (try simp only [hbs] at hb); try (exfalso; omega)))) | (refine cw_blocks (fun KB hB => ?_)) | (refine cw_block ?_) | ((first | refine cw_exits ?_ | refine cw_exit ?_ | refine cw_skip ?_); simp (maxSteps := 1000000) (disch := omega) only [go_sem]) | (refine hB _ ?_; clear hB KB) | (refine exit_by (S := Sg) (by assumption) ?_) | ((first | refine cw_rets ?_ | refine cw_ret ?_); simp (maxSteps := 1000000) (disch := omega) only [go_sem]; (try clear hB KB); (try clear hK K)))
    exact sle_b (ble_c (unw_fin W hi hge hel))
end Go.Proofs.YtkjdljcbpbeehaaDoor

/- The rules as one: where a rule applies, all redexes, the first one, rewriting. -/
set_option linter.unusedSimpArgs false
set_option linter.unusedVariables false
set_option maxRecDepth 8000
set_option maxHeartbeats 2000000
namespace Go.Proofs.YtkjdljcbpbeehaaDoor
open Go Go.SL
open Go.RowKit (wrap64)
attribute [local go_sem] Int.toNat_natCast vP vf0 vf1 vf2 vf3 vf4 vf5 vf6 vf7 vf8 vf9 vf10 vf11 vf12 vf13 vf14 tiF1 tiF2 tiF3

theorem flR0 : Sg.fld 131 0 = some (0, 1, false) := by kernel_rfl
theorem flR1 : Sg.fld 131 1 = some (1, 1, false) := by kernel_rfl
theorem elR : Sg.el 94 = some (none, 131, 2, true) := by kernel_rfl
attribute [local go_sem] flR0 flR1 elR
theorem applies_sp (s : Script) (V : VOps s) (hs : ScriptLen s) (n i : Int) : Pure Sg 42 [vP s, I n, I i] (fun x => x = .b (B (apM s n i))) := by
  have hn := V.cnt
  refine pure_of Tryd.func42 rfl (rs := [.tmp 6]) rfl rfl mixed (by decide +kernel) (Nat.le_of_ble_eq_true rfl) (argsLt_mem (by simp (maxSteps := 1000000) (disch := omega) only [go_sem])) ?_
  repeat' (first | refine cw_assoc ?_ | refine cw_skips ?_ | refine cw_labels ?_ | ((first | refine cw_step (fun K hK => ?_) | refine cw_last (fun K hK => ?_) | refine cw_stepD (by decide +kernel) (by decide +kernel) (fun K hK => ?_) | refine cw_lastD (by decide +kernel) (by decide +kernel) (fun K hK => ?_) | refine rgB_some ?_ | refine call_a (table_sp) ?_ | refine gcall_a (fun hg => table_sp) ?_); (try simp (maxSteps := 1000000) (disch := omega) only [go_sem]); (repeat' (refine And.intro ?_ ?_)); (all_goals first | (refine hK _ ?_; clear hK K) | exact auto_cl | skip)) | ((first | apply cw_ite | apply cw_iteN); (case hf => rfl); (case hc => simp (maxSteps := 1000000) (disch := omega) only [go_sem]; rfl); (all_goals first | (intro hb; (try simp only [hbs] at hb)) | skip)) | exact atN_intro | ((first | apply cw_if | apply cw_cond); (case hc => simp (maxSteps := 1000000) (disch := omega) only [go_sem]; rfl); (all_goals (intro hb; (try simp only [hbs] at hb); try (exfalso; omega)))) | (refine cw_blocks (fun KB hB => ?_)) | (refine cw_block ?_) | ((first | refine cw_exits ?_ | refine cw_exit ?_ | refine cw_skip ?_); simp (maxSteps := 1000000) (disch := omega) only [go_sem]) | (refine hB _ ?_; clear hB KB) | (refine exit_by (S := Sg) (by assumption) ?_) | ((first | refine cw_rets ?_ | refine cw_ret ?_); simp (maxSteps := 1000000) (disch := omega) only [go_sem]; (try clear hB KB); (try clear hK K)))
  refine rgs_split (B false) ?_ ?_ trivial ?_ (fun hg => ?_) (fun hg => ?_)
  · rfl
  · rfl
  · first | (simp (maxSteps := 1000000) (disch := omega) only [go_sem]; done) | (simp (maxSteps := 1000000) (disch := omega) only [go_sem]; rfl)
  · simp only [Bool.and_eq_true, decide_eq_true_eq, bne_iff_ne, ne_eq, ge_iff_le] at hg
    obtain ⟨⟨⟨⟨g1, g2⟩, g3⟩, g4⟩, h3⟩ := hg
    obtain ⟨k, rfl⟩ := Int.eq_ofNat_of_zero_le g3
    have hk : k < s.ops.length := by omega
    have h3 : (opAt s.ops k).kind ≠ 3 := h3
    have g2 : n < 10 := g2
    have hv : n = 1 ∨ n = 2 ∨ n = 3 ∨ n = 4 ∨ n = 5 ∨ n = 6 ∨ n = 7 ∨ n = 8 ∨ n = 9 := by omega
    rcases hv with rfl | rfl | rfl | rfl | rfl | rfl | rfl | rfl | rfl
    · have hsp := invisible_sp s V hs k hk h3
      have ht : tblF (Int.toNat 1) 0 = fnV 69 := rfl
      simp (maxSteps := 1000000) (disch := omega) only [go_sem, ht, fnV]
      refine ⟨⟨⟨⟨⟨by decide, by decide⟩, g3⟩, g4⟩, h3⟩, ?_⟩
      refine call_a hsp ?_
      simp (maxSteps := 1000000) (disch := omega) only [go_sem]
      refine hK _ ?_
      clear hK
      repeat' (first | refine cw_assoc ?_ | refine cw_skips ?_ | refine cw_labels ?_ | ((first | refine cw_step (fun K hK => ?_) | refine cw_last (fun K hK => ?_) | refine cw_stepD (by decide +kernel) (by decide +kernel) (fun K hK => ?_) | refine cw_lastD (by decide +kernel) (by decide +kernel) (fun K hK => ?_) | refine rgB_some ?_); (try simp (maxSteps := 1000000) (disch := omega) only [go_sem]); (repeat' (refine And.intro ?_ ?_)); (all_goals first | (refine hK _ ?_; clear hK K) | exact auto_cl | skip)) | ((first | apply cw_ite | apply cw_iteN); (case hf => rfl); (case hc => simp (maxSteps := 1000000) (disch := omega) only [go_sem]; rfl); (all_goals first | (intro hb; (try simp only [hbs] at hb)) | skip)) | exact atN_intro | ((first | apply cw_if | apply cw_cond); (case hc => simp (maxSteps := 1000000) (disch := omega) only [go_sem]; rfl); (all_goals (intro hb; (try simp only [hbs] at hb); try (exfalso; omega)))) | (refine cw_blocks (fun KB hB => ?_)) | (refine cw_block ?_) | ((first | refine cw_exits ?_ | refine cw_exit ?_ | refine cw_skip ?_); simp (maxSteps := 1000000) (disch := omega) only [go_sem]) | (refine hB _ ?_; clear hB KB) | (refine exit_by (S := Sg) (by assumption) ?_) | ((first | refine cw_rets ?_ | refine cw_ret ?_); simp (maxSteps := 1000000) (disch := omega) only [go_sem]; (try clear hB KB); (try clear hK K)))
      exact vb rfl
    · have hsp := dst_sp s V k hk
      have ht : tblF (Int.toNat 2) 0 = fnV 71 := rfl
      simp (maxSteps := 1000000) (disch := omega) only [go_sem, ht, fnV]
      refine ⟨⟨⟨⟨⟨by decide, by decide⟩, g3⟩, g4⟩, h3⟩, ?_⟩
      refine call_a hsp ?_
      simp (maxSteps := 1000000) (disch := omega) only [go_sem]
      refine hK _ ?_
      clear hK
      repeat' (first | refine cw_assoc ?_ | refine cw_skips ?_ | refine cw_labels ?_ | ((first | refine cw_step (fun K hK => ?_) | refine cw_last (fun K hK => ?_) | refine cw_stepD (by decide +kernel) (by decide +kernel) (fun K hK => ?_) | refine cw_lastD (by decide +kernel) (by decide +kernel) (fun K hK => ?_) | refine rgB_some ?_); (try simp (maxSteps := 1000000) (disch := omega) only [go_sem]); (repeat' (refine And.intro ?_ ?_)); (all_goals first | (refine hK _ ?_; clear hK K) | exact auto_cl | skip)) | ((first | apply cw_ite | apply cw_iteN); (case hf => rfl); (case hc => simp (maxSteps := 1000000) (disch := omega) only [go_sem]; rfl); (all_goals first | (intro hb; (try simp only [hbs] at hb)) | skip)) | exact atN_intro | ((first | apply cw_if | apply cw_cond); (case hc => simp (maxSteps := 1000000) (disch := omega) only [go_sem]; rfl); (all_goals (intro hb; (try simp only [hbs] at hb); try (exfalso; omega)))) | (refine cw_blocks (fun KB hB => ?_)) | (refine cw_block ?_) | ((first | refine cw_exits ?_ | refine cw_exit ?_ | refine cw_skip ?_); simp (maxSteps := 1000000) (disch := omega) only [go_sem]) | (refine hB _ ?_; clear hB KB) | (refine exit_by (S := Sg) (by assumption) ?_) | ((first | refine cw_rets ?_ | refine cw_ret ?_); simp (maxSteps := 1000000) (disch := omega) only [go_sem]; (try clear hB KB); (try clear hK K)))
      exact vb rfl
    · have hsp := nothing_sp s V k hk
      have ht : tblF (Int.toNat 3) 0 = fnV 72 := rfl
      simp (maxSteps := 1000000) (disch := omega) only [go_sem, ht, fnV]
      refine ⟨⟨⟨⟨⟨by decide, by decide⟩, g3⟩, g4⟩, h3⟩, ?_⟩
      refine call_a hsp ?_
      simp (maxSteps := 1000000) (disch := omega) only [go_sem]
      refine hK _ ?_
      clear hK
      repeat' (first | refine cw_assoc ?_ | refine cw_skips ?_ | refine cw_labels ?_ | ((first | refine cw_step (fun K hK => ?_) | refine cw_last (fun K hK => ?_) | refine cw_stepD (by decide +kernel) (by decide +kernel) (fun K hK => ?_) | refine cw_lastD (by decide +kernel) (by decide +kernel) (fun K hK => ?_) | refine rgB_some ?_); (try simp (maxSteps := 1000000) (disch := omega) only [go_sem]); (repeat' (refine And.intro ?_ ?_)); (all_goals first | (refine hK _ ?_; clear hK K) | exact auto_cl | skip)) | ((first | apply cw_ite | apply cw_iteN); (case hf => rfl); (case hc => simp (maxSteps := 1000000) (disch := omega) only [go_sem]; rfl); (all_goals first | (intro hb; (try simp only [hbs] at hb)) | skip)) | exact atN_intro | ((first | apply cw_if | apply cw_cond); (case hc => simp (maxSteps := 1000000) (disch := omega) only [go_sem]; rfl); (all_goals (intro hb; (try simp only [hbs] at hb); try (exfalso; omega)))) | (refine cw_blocks (fun KB hB => ?_)) | (refine cw_block ?_) | ((first | refine cw_exits ?_ | refine cw_exit ?_ | refine cw_skip ?_); simp (maxSteps := 1000000) (disch := omega) only [go_sem]) | (refine hB _ ?_; clear hB KB) | (refine exit_by (S := Sg) (by assumption) ?_) | ((first | refine cw_rets ?_ | refine cw_ret ?_); simp (maxSteps := 1000000) (disch := omega) only [go_sem]; (try clear hB KB); (try clear hK K)))
      exact vb rfl
    · have hsp := covered_sp s V hs k hk
      have ht : tblF (Int.toNat 4) 0 = fnV 73 := rfl
      simp (maxSteps := 1000000) (disch := omega) only [go_sem, ht, fnV]
      refine ⟨⟨⟨⟨⟨by decide, by decide⟩, g3⟩, g4⟩, h3⟩, ?_⟩
      refine call_a hsp ?_
      simp (maxSteps := 1000000) (disch := omega) only [go_sem]
      refine hK _ ?_
      clear hK
      repeat' (first | refine cw_assoc ?_ | refine cw_skips ?_ | refine cw_labels ?_ | ((first | refine cw_step (fun K hK => ?_) | refine cw_last (fun K hK => ?_) | refine cw_stepD (by decide +kernel) (by decide +kernel) (fun K hK => ?_) | refine cw_lastD (by decide +kernel) (by decide +kernel) (fun K hK => ?_) | refine rgB_some ?_); (try simp (maxSteps := 1000000) (disch := omega) only [go_sem]); (repeat' (refine And.intro ?_ ?_)); (all_goals first | (refine hK _ ?_; clear hK K) | exact auto_cl | skip)) | ((first | apply cw_ite | apply cw_iteN); (case hf => rfl); (case hc => simp (maxSteps := 1000000) (disch := omega) only [go_sem]; rfl); (all_goals first | (intro hb; (try simp only [hbs] at hb)) | skip)) | exact atN_intro | ((first | apply cw_if | apply cw_cond); (case hc => simp (maxSteps := 1000000) (disch := omega) only [go_sem]; rfl); (all_goals (intro hb; (try simp only [hbs] at hb); try (exfalso; omega)))) | (refine cw_blocks (fun KB hB => ?_)) | (refine cw_block ?_) | ((first | refine cw_exits ?_ | refine cw_exit ?_ | refine cw_skip ?_); simp (maxSteps := 1000000) (disch := omega) only [go_sem]) | (refine hB _ ?_; clear hB KB) | (refine exit_by (S := Sg) (by assumption) ?_) | ((first | refine cw_rets ?_ | refine cw_ret ?_); simp (maxSteps := 1000000) (disch := omega) only [go_sem]; (try clear hB KB); (try clear hK K)))
      exact vb rfl
    · have hsp := mask_sp s V hs k hk
      have ht : tblF (Int.toNat 5) 0 = fnV 74 := rfl
      simp (maxSteps := 1000000) (disch := omega) only [go_sem, ht, fnV]
      refine ⟨⟨⟨⟨⟨by decide, by decide⟩, g3⟩, g4⟩, h3⟩, ?_⟩
      refine call_a hsp ?_
      simp (maxSteps := 1000000) (disch := omega) only [go_sem]
      refine hK _ ?_
      clear hK
      repeat' (first | refine cw_assoc ?_ | refine cw_skips ?_ | refine cw_labels ?_ | ((first | refine cw_step (fun K hK => ?_) | refine cw_last (fun K hK => ?_) | refine cw_stepD (by decide +kernel) (by decide +kernel) (fun K hK => ?_) | refine cw_lastD (by decide +kernel) (by decide +kernel) (fun K hK => ?_) | refine rgB_some ?_); (try simp (maxSteps := 1000000) (disch := omega) only [go_sem]); (repeat' (refine And.intro ?_ ?_)); (all_goals first | (refine hK _ ?_; clear hK K) | exact auto_cl | skip)) | ((first | apply cw_ite | apply cw_iteN); (case hf => rfl); (case hc => simp (maxSteps := 1000000) (disch := omega) only [go_sem]; rfl); (all_goals first | (intro hb; (try simp only [hbs] at hb)) | skip)) | exact atN_intro | ((first | apply cw_if | apply cw_cond); (case hc => simp (maxSteps := 1000000) (disch := omega) only [go_sem]; rfl); (all_goals (intro hb; (try simp only [hbs] at hb); try (exfalso; omega)))) | (refine cw_blocks (fun KB hB => ?_)) | (refine cw_block ?_) | ((first | refine cw_exits ?_ | refine cw_exit ?_ | refine cw_skip ?_); simp (maxSteps := 1000000) (disch := omega) only [go_sem]) | (refine hB _ ?_; clear hB KB) | (refine exit_by (S := Sg) (by assumption) ?_) | ((first | refine cw_rets ?_ | refine cw_ret ?_); simp (maxSteps := 1000000) (disch := omega) only [go_sem]; (try clear hB KB); (try clear hK K)))
      exact vb rfl
    · have hsp := isolate_sp s V k hk
      have ht : tblF (Int.toNat 6) 0 = fnV 77 := rfl
      simp (maxSteps := 1000000) (disch := omega) only [go_sem, ht, fnV]
      refine ⟨⟨⟨⟨⟨by decide, by decide⟩, g3⟩, g4⟩, h3⟩, ?_⟩
      refine call_a hsp ?_
      simp (maxSteps := 1000000) (disch := omega) only [go_sem]
      refine hK _ ?_
      clear hK
      repeat' (first | refine cw_assoc ?_ | refine cw_skips ?_ | refine cw_labels ?_ | ((first | refine cw_step (fun K hK => ?_) | refine cw_last (fun K hK => ?_) | refine cw_stepD (by decide +kernel) (by decide +kernel) (fun K hK => ?_) | refine cw_lastD (by decide +kernel) (by decide +kernel) (fun K hK => ?_) | refine rgB_some ?_); (try simp (maxSteps := 1000000) (disch := omega) only [go_sem]); (repeat' (refine And.intro ?_ ?_)); (all_goals first | (refine hK _ ?_; clear hK K) | exact auto_cl | skip)) | ((first | apply cw_ite | apply cw_iteN); (case hf => rfl); (case hc => simp (maxSteps := 1000000) (disch := omega) only [go_sem]; rfl); (all_goals first | (intro hb; (try simp only [hbs] at hb)) | skip)) | exact atN_intro | ((first | apply cw_if | apply cw_cond); (case hc => simp (maxSteps := 1000000) (disch := omega) only [go_sem]; rfl); (all_goals (intro hb; (try simp only [hbs] at hb); try (exfalso; omega)))) | (refine cw_blocks (fun KB hB => ?_)) | (refine cw_block ?_) | ((first | refine cw_exits ?_ | refine cw_exit ?_ | refine cw_skip ?_); simp (maxSteps := 1000000) (disch := omega) only [go_sem]) | (refine hB _ ?_; clear hB KB) | (refine exit_by (S := Sg) (by assumption) ?_) | ((first | refine cw_rets ?_ | refine cw_ret ?_); simp (maxSteps := 1000000) (disch := omega) only [go_sem]; (try clear hB KB); (try clear hK K)))
      exact vb rfl
    · have hsp := normal_sp s V k hk
      have ht : tblF (Int.toNat 7) 0 = fnV 79 := rfl
      simp (maxSteps := 1000000) (disch := omega) only [go_sem, ht, fnV]
      refine ⟨⟨⟨⟨⟨by decide, by decide⟩, g3⟩, g4⟩, h3⟩, ?_⟩
      refine call_a hsp ?_
      simp (maxSteps := 1000000) (disch := omega) only [go_sem]
      refine hK _ ?_
      clear hK
      repeat' (first | refine cw_assoc ?_ | refine cw_skips ?_ | refine cw_labels ?_ | ((first | refine cw_step (fun K hK => ?_) | refine cw_last (fun K hK => ?_) | refine cw_stepD (by decide +kernel) (by decide +kernel) (fun K hK => ?_) | refine cw_lastD (by decide +kernel) (by decide +kernel) (fun K hK => ?_) | refine rgB_some ?_); (try simp (maxSteps := 1000000) (disch := omega) only [go_sem]); (repeat' (refine And.intro ?_ ?_)); (all_goals first | (refine hK _ ?_; clear hK K) | exact auto_cl | skip)) | ((first | apply cw_ite | apply cw_iteN); (case hf => rfl); (case hc => simp (maxSteps := 1000000) (disch := omega) only [go_sem]; rfl); (all_goals first | (intro hb; (try simp only [hbs] at hb)) | skip)) | exact atN_intro | ((first | apply cw_if | apply cw_cond); (case hc => simp (maxSteps := 1000000) (disch := omega) only [go_sem]; rfl); (all_goals (intro hb; (try simp only [hbs] at hb); try (exfalso; omega)))) | (refine cw_blocks (fun KB hB => ?_)) | (refine cw_block ?_) | ((first | refine cw_exits ?_ | refine cw_exit ?_ | refine cw_skip ?_); simp (maxSteps := 1000000) (disch := omega) only [go_sem]) | (refine hB _ ?_; clear hB KB) | (refine exit_by (S := Sg) (by assumption) ?_) | ((first | refine cw_rets ?_ | refine cw_ret ?_); simp (maxSteps := 1000000) (disch := omega) only [go_sem]; (try clear hB KB); (try clear hK K)))
      exact vb rfl
    · have hsp := single_sp s V k hk
      have ht : tblF (Int.toNat 8) 0 = fnV 81 := rfl
      simp (maxSteps := 1000000) (disch := omega) only [go_sem, ht, fnV]
      refine ⟨⟨⟨⟨⟨by decide, by decide⟩, g3⟩, g4⟩, h3⟩, ?_⟩
      refine call_a hsp ?_
      simp (maxSteps := 1000000) (disch := omega) only [go_sem]
      refine hK _ ?_
      clear hK
      repeat' (first | refine cw_assoc ?_ | refine cw_skips ?_ | refine cw_labels ?_ | ((first | refine cw_step (fun K hK => ?_) | refine cw_last (fun K hK => ?_) | refine cw_stepD (by decide +kernel) (by decide +kernel) (fun K hK => ?_) | refine cw_lastD (by decide +kernel) (by decide +kernel) (fun K hK => ?_) | refine rgB_some ?_); (try simp (maxSteps := 1000000) (disch := omega) only [go_sem]); (repeat' (refine And.intro ?_ ?_)); (all_goals first | (refine hK _ ?_; clear hK K) | exact auto_cl | skip)) | ((first | apply cw_ite | apply cw_iteN); (case hf => rfl); (case hc => simp (maxSteps := 1000000) (disch := omega) only [go_sem]; rfl); (all_goals first | (intro hb; (try simp only [hbs] at hb)) | skip)) | exact atN_intro | ((first | apply cw_if | apply cw_cond); (case hc => simp (maxSteps := 1000000) (disch := omega) only [go_sem]; rfl); (all_goals (intro hb; (try simp only [hbs] at hb); try (exfalso; omega)))) | (refine cw_blocks (fun KB hB => ?_)) | (refine cw_block ?_) | ((first | refine cw_exits ?_ | refine cw_exit ?_ | refine cw_skip ?_); simp (maxSteps := 1000000) (disch := omega) only [go_sem]) | (refine hB _ ?_; clear hB KB) | (refine exit_by (S := Sg) (by assumption) ?_) | ((first | refine cw_rets ?_ | refine cw_ret ?_); simp (maxSteps := 1000000) (disch := omega) only [go_sem]; (try clear hB KB); (try clear hK K)))
      exact vb rfl
    · have hsp := unwrap_sp s V k hk
      have ht : tblF (Int.toNat 9) 0 = fnV 83 := rfl
      simp (maxSteps := 1000000) (disch := omega) only [go_sem, ht, fnV]
      refine ⟨⟨⟨⟨⟨by decide, by decide⟩, g3⟩, g4⟩, h3⟩, ?_⟩
      refine call_a hsp ?_
      simp (maxSteps := 1000000) (disch := omega) only [go_sem]
      refine hK _ ?_
      clear hK
      repeat' (first | refine cw_assoc ?_ | refine cw_skips ?_ | refine cw_labels ?_ | ((first | refine cw_step (fun K hK => ?_) | refine cw_last (fun K hK => ?_) | refine cw_stepD (by decide +kernel) (by decide +kernel) (fun K hK => ?_) | refine cw_lastD (by decide +kernel) (by decide +kernel) (fun K hK => ?_) | refine rgB_some ?_); (try simp (maxSteps := 1000000) (disch := omega) only [go_sem]); (repeat' (refine And.intro ?_ ?_)); (all_goals first | (refine hK _ ?_; clear hK K) | exact auto_cl | skip)) | ((first | apply cw_ite | apply cw_iteN); (case hf => rfl); (case hc => simp (maxSteps := 1000000) (disch := omega) only [go_sem]; rfl); (all_goals first | (intro hb; (try simp only [hbs] at hb)) | skip)) | exact atN_intro | ((first | apply cw_if | apply cw_cond); (case hc => simp (maxSteps := 1000000) (disch := omega) only [go_sem]; rfl); (all_goals (intro hb; (try simp only [hbs] at hb); try (exfalso; omega)))) | (refine cw_blocks (fun KB hB => ?_)) | (refine cw_block ?_) | ((first | refine cw_exits ?_ | refine cw_exit ?_ | refine cw_skip ?_); simp (maxSteps := 1000000) (disch := omega) only [go_sem]) | (refine hB _ ?_; clear hB KB) | (refine exit_by (S := Sg) (by assumption) ?_) | ((first | refine cw_rets ?_ | refine cw_ret ?_); simp (maxSteps := 1000000) (disch := omega) only [go_sem]; (try clear hB KB); (try clear hK K)))
      exact vb rfl
  · simp (maxSteps := 1000000) (disch := omega) only [go_sem]
    refine hK _ ?_
    clear hK
    repeat' (first | refine cw_assoc ?_ | refine cw_skips ?_ | refine cw_labels ?_ | ((first | refine cw_step (fun K hK => ?_) | refine cw_last (fun K hK => ?_) | refine cw_stepD (by decide +kernel) (by decide +kernel) (fun K hK => ?_) | refine cw_lastD (by decide +kernel) (by decide +kernel) (fun K hK => ?_) | refine rgB_some ?_); (try simp (maxSteps := 1000000) (disch := omega) only [go_sem]); (repeat' (refine And.intro ?_ ?_)); (all_goals first | (refine hK _ ?_; clear hK K) | exact auto_cl | skip)) | ((first | apply cw_ite | apply cw_iteN); (case hf => rfl); (case hc => simp (maxSteps := 1000000) (disch := omega) only [go_sem]; rfl); (all_goals first | (intro hb; (try simp only [hbs] at hb)) | skip)) | exact atN_intro | ((first | apply cw_if | apply cw_cond); (case hc => simp (maxSteps := 1000000) (disch := omega) only [go_sem]; rfl); (all_goals (intro hb; (try simp only [hbs] at hb); try (exfalso; omega)))) | (refine cw_blocks (fun KB hB => ?_)) | (refine cw_block ?_) | ((first | refine cw_exits ?_ | refine cw_exit ?_ | refine cw_skip ?_); simp (maxSteps := 1000000) (disch := omega) only [go_sem]) | (refine hB _ ?_; clear hB KB) | (refine exit_by (S := Sg) (by assumption) ?_) | ((first | refine cw_rets ?_ | refine cw_ret ?_); simp (maxSteps := 1000000) (disch := omega) only [go_sem]; (try clear hB KB); (try clear hK K)))
    refine vb ?_
    rw [apM, show (decide (1 ≤ n) && decide (n < 10) && decide (0 ≤ i) && decide (i < s.ops.length) && !decide ((opAt s.ops i.toNat).kind = 3)) = false from hg, Bool.and_false]
    rfl
theorem cnt_step (l : List Op) {i : Nat} (hi : i < l.length) : cntM (l.take (i + 1)) = cntM (l.take i) + if (opAt l i).kind = 1 ∨ (opAt l i).kind = 2 then 1 else 0 := by
  have e : l.take (i + 1) = l.take i ++ [opAt l i] := by rw [opAt_eq hi, List.take_add_one, List.getElem?_eq_getElem hi]; rfl
  rw [e, cnt_sum, cnt_sum, sumW_app, sumW_cons, sumW_nil]
  rfl
theorem cnt_bnd (l : List Op) (i : Nat) : cntM (l.take i) ≤ i := by
  rw [cntM]
  have := List.length_filter_le (fun o : Op => decide (o.kind = 1 ∨ o.kind = 2)) (l.take i)
  have := List.length_take_le i l
  omega
theorem count_sp (s : Script) (hs : ScriptLen s) : Pure Sg 17 [ag (scriptE s)] (fun x => x = .b (I (cntM s.ops))) := by
  obtain ⟨l1, l2, l3⟩ := id hs
  refine pure_of Tryd.func17 rfl (rs := [.tmp 2]) rfl rfl mixed (by decide +kernel) (Nat.le_of_ble_eq_true rfl) (argsLt_mem (by simp (maxSteps := 1000000) (disch := omega) only [go_sem])) ?_
  repeat' (first | refine cw_assoc ?_ | refine cw_skips ?_ | refine cw_labels ?_ | ((first | refine cw_step (fun K hK => ?_) | refine cw_last (fun K hK => ?_) | refine cw_stepD (by decide +kernel) (by decide +kernel) (fun K hK => ?_) | refine cw_lastD (by decide +kernel) (by decide +kernel) (fun K hK => ?_) | refine rgB_some ?_); (try simp (maxSteps := 1000000) (disch := omega) only [go_sem]); (repeat' (refine And.intro ?_ ?_)); (all_goals first | (refine hK _ ?_; clear hK K) | exact auto_cl | skip)) | ((first | apply cw_ite | apply cw_iteN); (case hf => rfl); (case hc => simp (maxSteps := 1000000) (disch := omega) only [go_sem]; rfl); (all_goals first | (intro hb; (try simp only [hbs] at hb)) | skip)) | exact atN_intro | ((first | apply cw_if | apply cw_cond); (case hc => simp (maxSteps := 1000000) (disch := omega) only [go_sem]; rfl); (all_goals (intro hb; (try simp only [hbs] at hb); try (exfalso; omega)))) | (refine cw_blocks (fun KB hB => ?_)) | (refine cw_block ?_) | ((first | refine cw_exits ?_ | refine cw_exit ?_ | refine cw_skip ?_); simp (maxSteps := 1000000) (disch := omega) only [go_sem]) | (refine hB _ ?_; clear hB KB) | (refine exit_by (S := Sg) (by assumption) ?_) | ((first | refine cw_rets ?_ | refine cw_ret ?_); simp (maxSteps := 1000000) (disch := omega) only [go_sem]; (try clear hB KB); (try clear hK K)))
  refine cw_loop (X := Nat) (fun i => mkSt [(3, .b (I (cntM (s.ops.take i)))), (7, .b (.c (.p (opL s.ops)))), (8, .b (I s.ops.length)), (9, .b (I i))] [] 1) (fun i => i ≤ s.ops.length) (fun i => s.ops.length - i) 0 ?_ ?_ ?_
  · exact Nat.zero_le _
  · refine le_of [] rfl (by decide) rfl ?_ ?_
    all_goals simp (maxSteps := 1000000) (disch := omega) only [go_sem]
    repeat' (refine And.intro ?_ ?_)
    all_goals first | rfl | omega | exact .inl rfl | trivial | skip
  · intro i hi
    rcases Nat.lt_or_ge i s.ops.length with hlt | hge
    · have hbn := cnt_bnd s.ops i
      have hst := cnt_step s.ops hlt
      by_cases hk : (opAt s.ops i).kind = 1 ∨ (opAt s.ops i).kind = 2
      · have hq : ((s.ops.getD i default).kind == 1 || (s.ops.getD i default).kind == 2) = true := by rw [Bool.or_eq_true, beq_iff_eq, beq_iff_eq]; exact hk
        rw [if_pos hk] at hst
        repeat' (first | ((first | apply cw_ifT | apply cw_condT); (case hc => simp (maxSteps := 1000000) (disch := omega) only [go_sem]; rfl); (case ht => (simp only [Int.toNat_natCast, Int.reduceBEq, Int.reduceBNe, Int.reduceLT, Int.reduceLE, decide_true, decide_false, Bool.not_true, Bool.not_false, Bool.and_true, Bool.true_and, Bool.and_false, Bool.false_and, Bool.or_true, Bool.true_or, Bool.or_false, Bool.false_or, hq]; done))) | ((first | apply cw_ifF | apply cw_condF); (case hc => simp (maxSteps := 1000000) (disch := omega) only [go_sem]; rfl); (case ht => (simp only [Int.toNat_natCast, Int.reduceBEq, Int.reduceBNe, Int.reduceLT, Int.reduceLE, decide_true, decide_false, Bool.not_true, Bool.not_false, Bool.and_true, Bool.true_and, Bool.and_false, Bool.false_and, Bool.or_true, Bool.true_or, Bool.or_false, Bool.false_or, hq]; done))) | refine cw_assoc ?_ | refine cw_skips ?_ | refine cw_labels ?_ | ((first | refine cw_step (fun K hK => ?_) | refine cw_last (fun K hK => ?_) | refine cw_stepD (by decide +kernel) (by decide +kernel) (fun K hK => ?_) | refine cw_lastD (by decide +kernel) (by decide +kernel) (fun K hK => ?_) | refine rgB_some ?_); (try simp (maxSteps := 1000000) (disch := omega) only [go_sem]); (repeat' (refine And.intro ?_ ?_)); (all_goals first | (refine hK _ ?_; clear hK K) | exact auto_cl | skip)) | ((first | apply cw_ite | apply cw_iteN); (case hf => rfl); (case hc => simp (maxSteps := 1000000) (disch := omega) only [go_sem]; rfl); (all_goals first | (intro hb; (try simp only [hbs] at hb)) | skip)) | exact atN_intro | ((first | apply cw_if | apply cw_cond); (case hc => simp (maxSteps := 1000000) (disch := omega) only [go_sem]; rfl); (all_goals (intro hb; (try simp only [hbs] at hb); try (exfalso; omega)))) | (refine cw_blocks (fun KB hB => ?_)) | (refine cw_block ?_) | ((first | refine cw_exits ?_ | refine cw_exit ?_ | refine cw_skip ?_); simp (maxSteps := 1000000) (disch := omega) only [go_sem]) | (refine hB _ ?_; clear hB KB) | (refine exit_by (S := Sg) (by assumption) ?_) | ((first | refine cw_rets ?_ | refine cw_ret ?_); simp (maxSteps := 1000000) (disch := omega) only [go_sem]; (try clear hB KB); (try clear hK K)))
        rw [thenQ_normal]
        refine wk_loop (i + 1) ?_ (by omega) (by omega)
        rw [hst]
        refine le_of [] rfl (by decide) rfl ?_ ?_
        all_goals simp (maxSteps := 1000000) (disch := omega) only [go_sem]
        repeat' (refine And.intro ?_ ?_)
        all_goals first | rfl | omega | exact .inl rfl | trivial | skip
      · have hq : ((s.ops.getD i default).kind == 1 || (s.ops.getD i default).kind == 2) = false := by
          rw [Bool.or_eq_false_iff, beq_eq_false_iff_ne, beq_eq_false_iff_ne]
          exact ⟨fun q => hk (.inl q), fun q => hk (.inr q)⟩
        rw [if_neg hk] at hst
        repeat' (first | ((first | apply cw_ifT | apply cw_condT); (case hc => simp (maxSteps := 1000000) (disch := omega) only [go_sem]; rfl); (case ht => (simp only [Int.toNat_natCast, Int.reduceBEq, Int.reduceBNe, Int.reduceLT, Int.reduceLE, decide_true, decide_false, Bool.not_true, Bool.not_false, Bool.and_true, Bool.true_and, Bool.and_false, Bool.false_and, Bool.or_true, Bool.true_or, Bool.or_false, Bool.false_or, hq]; done))) | ((first | apply cw_ifF | apply cw_condF); (case hc => simp (maxSteps := 1000000) (disch := omega) only [go_sem]; rfl); (case ht => (simp only [Int.toNat_natCast, Int.reduceBEq, Int.reduceBNe, Int.reduceLT, Int.reduceLE, decide_true, decide_false, Bool.not_true, Bool.not_false, Bool.and_true, Bool.true_and, Bool.and_false, Bool.false_and, Bool.or_true, Bool.true_or, Bool.or_false, Bool.false_or, hq]; done))) | refine cw_assoc ?_ | refine cw_skips ?_ | refine cw_labels ?_ | ((first | refine cw_step (fun K hK => ?_) | refine cw_last (fun K hK => ?_) | refine cw_stepD (by decide +kernel) (by decide +kernel) (fun K hK => ?_) | refine cw_lastD (by decide +kernel) (by decide +kernel) (fun K hK => ?_) | refine rgB_some ?_); (try simp (maxSteps := 1000000) (disch := omega) only [go_sem]); (repeat' (refine And.intro ?_ ?_)); (all_goals first | (refine hK _ ?_; clear hK K) | exact auto_cl | skip)) | ((first | apply cw_ite | apply cw_iteN); (case hf => rfl); (case hc => simp (maxSteps := 1000000) (disch := omega) only [go_sem]; rfl); (all_goals first | (intro hb; (try simp only [hbs] at hb)) | skip)) | exact atN_intro | ((first | apply cw_if | apply cw_cond); (case hc => simp (maxSteps := 1000000) (disch := omega) only [go_sem]; rfl); (all_goals (intro hb; (try simp only [hbs] at hb); try (exfalso; omega)))) | (refine cw_blocks (fun KB hB => ?_)) | (refine cw_block ?_) | ((first | refine cw_exits ?_ | refine cw_exit ?_ | refine cw_skip ?_); simp (maxSteps := 1000000) (disch := omega) only [go_sem]) | (refine hB _ ?_; clear hB KB) | (refine exit_by (S := Sg) (by assumption) ?_) | ((first | refine cw_rets ?_ | refine cw_ret ?_); simp (maxSteps := 1000000) (disch := omega) only [go_sem]; (try clear hB KB); (try clear hK K)))
        rw [thenQ_normal]
        refine wk_loop (i + 1) ?_ (by omega) (by omega)
        rw [hst, Nat.add_zero]
        refine le_of [] rfl (by decide) rfl ?_ ?_
        all_goals simp (maxSteps := 1000000) (disch := omega) only [go_sem]
        repeat' (refine And.intro ?_ ?_)
        all_goals first | rfl | omega | exact .inl rfl | trivial | skip
    · have hi2 : i = s.ops.length := by omega
      subst hi2
      repeat' (first | refine cw_assoc ?_ | refine cw_skips ?_ | refine cw_labels ?_ | ((first | refine cw_step (fun K hK => ?_) | refine cw_last (fun K hK => ?_) | refine cw_stepD (by decide +kernel) (by decide +kernel) (fun K hK => ?_) | refine cw_lastD (by decide +kernel) (by decide +kernel) (fun K hK => ?_) | refine rgB_some ?_); (try simp (maxSteps := 1000000) (disch := omega) only [go_sem]); (repeat' (refine And.intro ?_ ?_)); (all_goals first | (refine hK _ ?_; clear hK K) | exact auto_cl | skip)) | ((first | apply cw_ite | apply cw_iteN); (case hf => rfl); (case hc => simp (maxSteps := 1000000) (disch := omega) only [go_sem]; rfl); (all_goals first | (intro hb; (try simp only [hbs] at hb)) | skip)) | exact atN_intro | ((first | apply cw_if | apply cw_cond); (case hc => simp (maxSteps := 1000000) (disch := omega) only [go_sem]; rfl); (all_goals (intro hb; (try simp only [hbs] at hb); try (exfalso; omega)))) | (refine cw_blocks (fun KB hB => ?_)) | (refine cw_block ?_) | ((first | refine cw_exits ?_ | refine cw_exit ?_ | refine cw_skip ?_); simp (maxSteps := 1000000) (disch := omega) only [go_sem]) | (refine hB _ ?_; clear hB KB) | (refine exit_by (S := Sg) (by assumption) ?_) | ((first | refine cw_rets ?_ | refine cw_ret ?_); simp (maxSteps := 1000000) (disch := omega) only [go_sem]; (try clear hB KB); (try clear hK K)))
      rw [List.take_length]
theorem rcount_sp (s : Script) (hs : ScriptLen s) : Pure Sg 20 [ag (scriptE s)] (fun x => x = .b (I (cntM s.ops))) := by
  obtain ⟨l1, l2, l3⟩ := id hs
  refine pure_of Tryd.func20 rfl (rs := [.tmp 2]) rfl rfl mixed (by decide +kernel) (Nat.le_of_ble_eq_true rfl) (argsLt_mem (by simp (maxSteps := 1000000) (disch := omega) only [go_sem])) ?_
  repeat' (first | refine cw_assoc ?_ | refine cw_skips ?_ | refine cw_labels ?_ | ((first | refine cw_step (fun K hK => ?_) | refine cw_last (fun K hK => ?_) | refine cw_stepD (by decide +kernel) (by decide +kernel) (fun K hK => ?_) | refine cw_lastD (by decide +kernel) (by decide +kernel) (fun K hK => ?_) | refine rgB_some ?_); (try simp (maxSteps := 1000000) (disch := omega) only [go_sem]); (repeat' (refine And.intro ?_ ?_)); (all_goals first | (refine hK _ ?_; clear hK K) | exact auto_cl | skip)) | ((first | apply cw_ite | apply cw_iteN); (case hf => rfl); (case hc => simp (maxSteps := 1000000) (disch := omega) only [go_sem]; rfl); (all_goals first | (intro hb; (try simp only [hbs] at hb)) | skip)) | exact atN_intro | ((first | apply cw_if | apply cw_cond); (case hc => simp (maxSteps := 1000000) (disch := omega) only [go_sem]; rfl); (all_goals (intro hb; (try simp only [hbs] at hb); try (exfalso; omega)))) | (refine cw_blocks (fun KB hB => ?_)) | (refine cw_block ?_) | ((first | refine cw_exits ?_ | refine cw_exit ?_ | refine cw_skip ?_); simp (maxSteps := 1000000) (disch := omega) only [go_sem]) | (refine hB _ ?_; clear hB KB) | (refine exit_by (S := Sg) (by assumption) ?_) | ((first | refine cw_rets ?_ | refine cw_ret ?_); simp (maxSteps := 1000000) (disch := omega) only [go_sem]; (try clear hB KB); (try clear hK K)))
  refine cw_loop (X := Nat) (fun i => mkSt [(1, .b (.c (.ptr 0 0))), (3, .b (I (cntM (s.ops.take i)))), (4, .b (I i))] [(0, .fix ((scriptE s).map CV.p))] 1) (fun i => i ≤ s.ops.length) (fun i => s.ops.length - i) 0 ?_ ?_ ?_
  · exact Nat.zero_le _
  · refine le_of [] rfl (by decide) rfl ?_ ?_
    all_goals simp (maxSteps := 1000000) (disch := omega) only [go_sem]
    repeat' (refine And.intro ?_ ?_)
    all_goals first | rfl | omega | exact .inl rfl | trivial | skip
  · intro i hi
    rcases Nat.lt_or_ge i s.ops.length with hlt | hge
    · have hbn := cnt_bnd s.ops i
      have hst := cnt_step s.ops hlt
      by_cases hk : (opAt s.ops i).kind = 1 ∨ (opAt s.ops i).kind = 2
      · have hq : ((s.ops.getD i default).kind == 1 || (s.ops.getD i default).kind == 2) = true := by rw [Bool.or_eq_true, beq_iff_eq, beq_iff_eq]; exact hk
        rw [if_pos hk] at hst
        repeat' (first | ((first | apply cw_ifT | apply cw_condT); (case hc => simp (maxSteps := 1000000) (disch := omega) only [go_sem]; rfl); (case ht => (simp only [Int.toNat_natCast, Int.reduceBEq, Int.reduceBNe, Int.reduceLT, Int.reduceLE, decide_true, decide_false, Bool.not_true, Bool.not_false, Bool.and_true, Bool.true_and, Bool.and_false, Bool.false_and, Bool.or_true, Bool.true_or, Bool.or_false, Bool.false_or, hq]; done))) | ((first | apply cw_ifF | apply cw_condF); (case hc => simp (maxSteps := 1000000) (disch := omega) only [go_sem]; rfl); (case ht => (simp only [Int.toNat_natCast, Int.reduceBEq, Int.reduceBNe, Int.reduceLT, Int.reduceLE, decide_true, decide_false, Bool.not_true, Bool.not_false, Bool.and_true, Bool.true_and, Bool.and_false, Bool.false_and, Bool.or_true, Bool.true_or, Bool.or_false, Bool.false_or, hq]; done))) | refine cw_assoc ?_ | refine cw_skips ?_ | refine cw_labels ?_ | ((first | refine cw_step (fun K hK => ?_) | refine cw_last (fun K hK => ?_) | refine cw_stepD (by decide +kernel) (by decide +kernel) (fun K hK => ?_) | refine cw_lastD (by decide +kernel) (by decide +kernel) (fun K hK => ?_) | refine rgB_some ?_); (try simp (maxSteps := 1000000) (disch := omega) only [go_sem]); (repeat' (refine And.intro ?_ ?_)); (all_goals first | (refine hK _ ?_; clear hK K) | exact auto_cl | skip)) | ((first | apply cw_ite | apply cw_iteN); (case hf => rfl); (case hc => simp (maxSteps := 1000000) (disch := omega) only [go_sem]; rfl); (all_goals first | (intro hb; (try simp only [hbs] at hb)) | skip)) | exact atN_intro | ((first | apply cw_if | apply cw_cond); (case hc => simp (maxSteps := 1000000) (disch := omega) only [go_sem]; rfl); (all_goals (intro hb; (try simp only [hbs] at hb); try (exfalso; omega)))) | (refine cw_blocks (fun KB hB => ?_)) | (refine cw_block ?_) | ((first | refine cw_exits ?_ | refine cw_exit ?_ | refine cw_skip ?_); simp (maxSteps := 1000000) (disch := omega) only [go_sem]) | (refine hB _ ?_; clear hB KB) | (refine exit_by (S := Sg) (by assumption) ?_) | ((first | refine cw_rets ?_ | refine cw_ret ?_); simp (maxSteps := 1000000) (disch := omega) only [go_sem]; (try clear hB KB); (try clear hK K)))
        rw [thenQ_normal]
        refine wk_loop (i + 1) ?_ (by omega) (by omega)
        rw [hst]
        refine le_of [] rfl (by decide) rfl ?_ ?_
        all_goals simp (maxSteps := 1000000) (disch := omega) only [go_sem]
        repeat' (refine And.intro ?_ ?_)
        all_goals first | rfl | omega | exact .inl rfl | trivial | skip
      · have hq : ((s.ops.getD i default).kind == 1 || (s.ops.getD i default).kind == 2) = false := by
          rw [Bool.or_eq_false_iff, beq_eq_false_iff_ne, beq_eq_false_iff_ne]
          exact ⟨fun q => hk (.inl q), fun q => hk (.inr q)⟩
        rw [if_neg hk] at hst
        repeat' (first | ((first | apply cw_ifT | apply cw_condT); (case hc => simp (maxSteps := 1000000) (disch := omega) only [go_sem]; rfl); (case ht => (simp only [Int.toNat_natCast, Int.reduceBEq, Int.reduceBNe, Int.reduceLT, Int.reduceLE, decide_true, decide_false, Bool.not_true, Bool.not_false, Bool.and_true, Bool.true_and, Bool.and_false, Bool.false_and, Bool.or_true, Bool.true_or, Bool.or_false, Bool.false_or, hq]; done))) | ((first | apply cw_ifF | apply cw_condF); (case hc => simp (maxSteps := 1000000) (disch := omega) only [go_sem]; rfl); (case ht => (simp only [Int.toNat_natCast, Int.reduceBEq, Int.reduceBNe, Int.reduceLT, Int.reduceLE, decide_true, decide_false, Bool.not_true, Bool.not_false, Bool.and_true, Bool.true_and, Bool.and_false, Bool.false_and, Bool.or_true, Bool.true_or, Bool.or_false, Bool.false_or, hq]; done))) | refine cw_assoc ?_ | refine cw_skips ?_ | refine cw_labels ?_ | ((first | refine cw_step (fun K hK => ?_) | refine cw_last (fun K hK => ?_) | refine cw_stepD (by decide +kernel) (by decide +kernel) (fun K hK => ?_) | refine cw_lastD (by decide +kernel) (by decide +kernel) (fun K hK => ?_) | refine rgB_some ?_); (try simp (maxSteps := 1000000) (disch := omega) only [go_sem]); (repeat' (refine And.intro ?_ ?_)); (all_goals first | (refine hK _ ?_; clear hK K) | exact auto_cl | skip)) | ((first | apply cw_ite | apply cw_iteN); (case hf => rfl); (case hc => simp (maxSteps := 1000000) (disch := omega) only [go_sem]; rfl); (all_goals first | (intro hb; (try simp only [hbs] at hb)) | skip)) | exact atN_intro | ((first | apply cw_if | apply cw_cond); (case hc => simp (maxSteps := 1000000) (disch := omega) only [go_sem]; rfl); (all_goals (intro hb; (try simp only [hbs] at hb); try (exfalso; omega)))) | (refine cw_blocks (fun KB hB => ?_)) | (refine cw_block ?_) | ((first | refine cw_exits ?_ | refine cw_exit ?_ | refine cw_skip ?_); simp (maxSteps := 1000000) (disch := omega) only [go_sem]) | (refine hB _ ?_; clear hB KB) | (refine exit_by (S := Sg) (by assumption) ?_) | ((first | refine cw_rets ?_ | refine cw_ret ?_); simp (maxSteps := 1000000) (disch := omega) only [go_sem]; (try clear hB KB); (try clear hK K)))
        rw [thenQ_normal]
        refine wk_loop (i + 1) ?_ (by omega) (by omega)
        rw [hst, Nat.add_zero]
        refine le_of [] rfl (by decide) rfl ?_ ?_
        all_goals simp (maxSteps := 1000000) (disch := omega) only [go_sem]
        repeat' (refine And.intro ?_ ?_)
        all_goals first | rfl | omega | exact .inl rfl | trivial | skip
    · have hi2 : i = s.ops.length := by omega
      subst hi2
      repeat' (first | refine cw_assoc ?_ | refine cw_skips ?_ | refine cw_labels ?_ | ((first | refine cw_step (fun K hK => ?_) | refine cw_last (fun K hK => ?_) | refine cw_stepD (by decide +kernel) (by decide +kernel) (fun K hK => ?_) | refine cw_lastD (by decide +kernel) (by decide +kernel) (fun K hK => ?_) | refine rgB_some ?_); (try simp (maxSteps := 1000000) (disch := omega) only [go_sem]); (repeat' (refine And.intro ?_ ?_)); (all_goals first | (refine hK _ ?_; clear hK K) | exact auto_cl | skip)) | ((first | apply cw_ite | apply cw_iteN); (case hf => rfl); (case hc => simp (maxSteps := 1000000) (disch := omega) only [go_sem]; rfl); (all_goals first | (intro hb; (try simp only [hbs] at hb)) | skip)) | exact atN_intro | ((first | apply cw_if | apply cw_cond); (case hc => simp (maxSteps := 1000000) (disch := omega) only [go_sem]; rfl); (all_goals (intro hb; (try simp only [hbs] at hb); try (exfalso; omega)))) | (refine cw_blocks (fun KB hB => ?_)) | (refine cw_block ?_) | ((first | refine cw_exits ?_ | refine cw_exit ?_ | refine cw_skip ?_); simp (maxSteps := 1000000) (disch := omega) only [go_sem]) | (refine hB _ ?_; clear hB KB) | (refine exit_by (S := Sg) (by assumption) ?_) | ((first | refine cw_rets ?_ | refine cw_ret ?_); simp (maxSteps := 1000000) (disch := omega) only [go_sem]; (try clear hB KB); (try clear hK K)))
      rw [List.take_length]
end Go.Proofs.YtkjdljcbpbeehaaDoor
