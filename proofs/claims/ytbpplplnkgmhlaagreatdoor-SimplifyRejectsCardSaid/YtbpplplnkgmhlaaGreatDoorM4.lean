/- Part 4 of the proof: E3, E4, E5, E6, E7, E8, E9, EA. -/
import Derived.Test.YtbpplplnkgmhlaaGreatDoorM0
import Derived.Test.YtbpplplnkgmhlaaGreatDoorM1
import Derived.Test.YtbpplplnkgmhlaaGreatDoorM2
import Derived.Test.YtbpplplnkgmhlaaGreatDoorM3
/- The walks of the questions that the rules ask of a view. -/
set_option linter.unusedSimpArgs false
set_option linter.unusedVariables false
set_option maxHeartbeats 2000000
set_option maxRecDepth 16000
namespace Go.Proofs.YtbpplplnkgmhlaaGreatDoor
open Go Go.SL
open Go.RowKit (wrap64)

theorem op_rng {s : Script} (V : VOps s) {i : Nat} (hi : i < s.ops.length) : (0 ≤ (opAt s.ops i).mask ∧ (opAt s.ops i).mask ≤ s.images.length) ∧ ((opAt s.ops i).kind = 1 → 0 ≤ (opAt s.ops i).image ∧ (opAt s.ops i).image < s.images.length) := by
  have h := opErr_zero.1 (V.ok i hi)
  by_cases h3 : (opAt s.ops i).kind = 3
  · have hf := h.2.1
    rw [fieldsM, if_pos h3, decide_eq_true_eq] at hf
    refine ⟨by omega, fun h => by omega⟩
  · have := (h.2.2.2 h3).1
    refine ⟨by omega, fun h => by omega⟩
theorem grp_lt (ops : List Op) {i : Nat} (h : i < ops.length) : -1 ≤ grpM ops i ∧ grpM ops i < ops.length := by
  unfold grpM
  split
  · rename_i hk
    have e : topAt ops (i + 1) < i := by
      cases hs : stk ops i with
      | nil => rw [topAt_nil (by rw [stk_pop hk, hs]; rfl)]; omega
      | cons p t =>
        have h1 : stk ops (i + 1) = t := by rw [stk_pop hk, hs]; rfl
        cases ht : t with
        | nil => rw [topAt_nil (by rw [h1, ht])]; omega
        | cons q r =>
          have hq : q < i := stk_lt (ops := ops) (by rw [hs, ht]; exact List.mem_cons_of_mem _ (List.mem_cons_self ..))
          rw [topAt_cons (by rw [h1, ht])]; omega
    have := topAt_lt ops (i + 1)
    omega
  · have := topAt_lt ops i
    omega
theorem vb {x y : Bool} (h : x = y) : SV.b (BV.c (CV.p (PV.val (Value.bool x)))) = .b (B y) := by rw [h]
theorem kbeq (n m : Nat) : ((n : Int) == (m : Int)) = decide (n = m) := by
  by_cases h : n = m
  · rw [h, decide_eq_true rfl]; exact beq_self_eq_true _
  · rw [decide_eq_false h]; exact beq_eq_false_iff_ne.2 (by omega)
attribute [local go_sem] Int.toNat_natCast vP vf0 vf1 vf2 vf3 vf4 vf5 vf6 vf7 vf8 vf9 vf10 vf11 vf12 vf13 vf14
theorem frame_sp (s : Script) (V : VOps s) (i : Nat) (hi : i < s.ops.length) : Pure Sg 186 [vP s, I i] (fun x => x = .tup [B (isoM s i), B (koM s i)]) := by
  have hn := V.cnt
  have hg := grp_lt s.ops hi
  refine pure_of Tryz.func186 rfl (rs := [.tmp 4, .tmp 5]) rfl rfl mixed (by decide +kernel) (Nat.le_of_ble_eq_true rfl) (argsLt_mem (by simp (maxSteps := 1000000) (disch := omega) only [go_sem])) ?_
  repeat' (first | with_reducible exact tr_a | refine un_a ?_ | ((first | refine st_a (fun K hK => ?_) | refine rg_a ?_); (repeat' (refine And.intro ?_ ?_)); (all_goals first | (refine hK _ ?_; clear hK K) | exact auto_cl | skip)) | ((first | apply cw_ite | apply cw_iteN); (case hf => rfl); (case hc => exact ev_a); (all_goals first | (intro hb; (try simp only [hbs] at hb)) | skip)) | exact atN_intro | (refine if_a (fun hb => ?_) (fun hb => ?_); (all_goals (try first | with_reducible exact True.intro | (exfalso; omega)))) | refine cw_blocks (fun KB hB => ?_) | (refine hB _ ?_; clear hB KB) | refine exit_by (S := Sg) (by assumption) ?_ | (refine ret_a ?_; (try clear hB KB); (try clear hK K)))
  · rw [isoM, koM, decide_eq_false (by omega)]; rfl
  · rw [isoM, koM, decide_eq_true hb]; rfl
theorem plain_sp (s : Script) (V : VOps s) (i : Nat) (hi : i < s.ops.length) : Pure Sg 182 [vP s, I i] (fun x => x = .b (B (plnM s i))) := by
  have h1 := frame_sp s V i hi
  refine pure_of Tryz.func182 rfl (rs := [.tmp 4]) rfl rfl mixed (by decide +kernel) (Nat.le_of_ble_eq_true rfl) (argsLt_mem (by simp (maxSteps := 1000000) (disch := omega) only [go_sem])) ?_
  repeat' (first | with_reducible exact tr_a | refine un_a ?_ | ((first | refine st_a (fun K hK => ?_) | refine rg_a ?_ | refine call_c (h1) ?_ | refine gcall_c (fun hg => h1) ?_); (repeat' (refine And.intro ?_ ?_)); (all_goals first | (refine hK _ ?_; clear hK K) | exact auto_cl | skip)) | ((first | apply cw_ite | apply cw_iteN); (case hf => rfl); (case hc => exact ev_a); (all_goals first | (intro hb; (try simp only [hbs] at hb)) | skip)) | exact atN_intro | (refine if_a (fun hb => ?_) (fun hb => ?_); (all_goals (try first | with_reducible exact True.intro | (exfalso; omega)))) | refine cw_blocks (fun KB hB => ?_) | (refine hB _ ?_; clear hB KB) | refine exit_by (S := Sg) (by assumption) ?_ | (refine ret_a ?_; (try clear hB KB); (try clear hK K)))
  rfl
theorem unscaled_sp (s : Script) (o : Op) : Pure Sg 188 [vP s, ag (opE o)] (fun x => x = .b (B (unscM s o))) := by
  refine pure_of Tryz.func188 rfl (rs := [.tmp 4]) rfl rfl mixed (by decide +kernel) (Nat.le_of_ble_eq_true rfl) (argsLt_mem (by simp (maxSteps := 1000000) (disch := omega) only [go_sem])) ?_
  repeat' (first | with_reducible exact tr_a | refine un_a ?_ | ((first | refine st_a (fun K hK => ?_) | refine rg_a ?_); (repeat' (refine And.intro ?_ ?_)); (all_goals first | (refine hK _ ?_; clear hK K) | exact auto_cl | skip)) | ((first | apply cw_ite | apply cw_iteN); (case hf => rfl); (case hc => exact ev_a); (all_goals first | (intro hb; (try simp only [hbs] at hb)) | skip)) | exact atN_intro | (refine if_a (fun hb => ?_) (fun hb => ?_); (all_goals (try first | with_reducible exact True.intro | (exfalso; omega)))) | refine cw_blocks (fun KB hB => ?_) | (refine hB _ ?_; clear hB KB) | refine exit_by (S := Sg) (by assumption) ?_ | (refine ret_a ?_; (try clear hB KB); (try clear hK K)))
  rfl
theorem solidMask_sp (s : Script) (V : VOps s) (o : Op) (ho : 0 ≤ o.mask ∧ o.mask ≤ s.images.length) : Pure Sg 201 [vP s, ag (opE o)] (fun x => x = .tup [U (smA s o), B (smB s o)]) := by
  have hn := V.imgs
  refine pure_of Tryz.func201 rfl (rs := [.tmp 4, .tmp 5]) rfl rfl mixed (by decide +kernel) (Nat.le_of_ble_eq_true rfl) (argsLt_mem (by simp (maxSteps := 1000000) (disch := omega) only [go_sem])) ?_
  repeat' (first | with_reducible exact tr_a | ((first | ((with_reducible refine cw_stepDK (id := 3) [(13, 3), (15, 1), (18, 3)] (by decide +kernel) (by decide +kernel) ?_ (fun K hK => ?_)); exact wf_a) | ((with_reducible refine cw_lastDK (id := 3) [(13, 3), (15, 1), (18, 3)] (by decide +kernel) (by decide +kernel) ?_ (fun K hK => ?_)); exact wf_a)); (try simp (maxSteps := 1000000) (disch := omega) only [go_sem]); (repeat' (refine And.intro ?_ ?_)); (all_goals first | (refine hK _ (by simp (maxSteps := 1000000) (disch := omega) only [go_sem]) ?_; clear hK K) | exact auto_cl | skip)) | refine un_a ?_ | ((first | refine st_a (fun K hK => ?_) | refine rg_a ?_); (repeat' (refine And.intro ?_ ?_)); (all_goals first | (refine hK _ ?_; clear hK K) | exact auto_cl | skip)) | ((first | apply cw_ite | apply cw_iteN); (case hf => rfl); (case hc => exact ev_a); (all_goals first | (intro hb; (try simp only [hbs] at hb)) | skip)) | exact atN_intro | (refine if_a (fun hb => ?_) (fun hb => ?_); (all_goals (try first | with_reducible exact True.intro | (exfalso; omega)))) | refine cw_blocks (fun KB hB => ?_) | (refine hB _ ?_; clear hB KB) | refine exit_by (S := Sg) (by assumption) ?_ | (refine ret_a ?_; (try clear hB KB); (try clear hK K)))
  · rw [smA, smB, if_pos hb, decide_eq_true hb]; rfl
  · rw [smA, smB, if_neg hb, decide_eq_false hb]; rfl
theorem full_sp (s : Script) (V : VOps s) (hs : ScriptLen s) (o : Op) (ho : 0 ≤ o.mask ∧ o.mask ≤ s.images.length) : Pure Sg 184 [vP s, ag (opE o)] (fun x => x = .b (B (fullM s o))) := by
  have hn := V.imgs
  have h1 := solidMask_sp s V o ho
  have h2 := maskRect_spec s o hs ⟨ho.1, by omega⟩
  have h3 := covers_spec (maskRectM s o) s.canvas
  refine pure_of Tryz.func184 rfl (rs := [.tmp 4]) rfl rfl mixed (by decide +kernel) (Nat.le_of_ble_eq_true rfl) (argsLt_mem (by simp (maxSteps := 1000000) (disch := omega) only [go_sem])) ?_
  repeat' (first | with_reducible exact tr_a | refine un_a ?_ | ((first | refine st_a (fun K hK => ?_) | refine rg_a ?_ | refine call_c (h1) ?_ | refine gcall_c (fun hg => h1) ?_ | refine call_c (h2) ?_ | refine gcall_c (fun hg => h2) ?_ | refine call_c (h3) ?_ | refine gcall_c (fun hg => h3) ?_); (repeat' (refine And.intro ?_ ?_)); (all_goals first | (refine hK _ ?_; clear hK K) | exact auto_cl | skip)) | ((first | apply cw_ite | apply cw_iteN); (case hf => rfl); (case hc => exact ev_a); (all_goals first | (intro hb; (try simp only [hbs] at hb)) | skip)) | exact atN_intro | (refine if_a (fun hb => ?_) (fun hb => ?_); (all_goals (try first | with_reducible exact True.intro | (exfalso; omega)))) | refine cw_blocks (fun KB hB => ?_) | (refine hB _ ?_; clear hB KB) | refine exit_by (S := Sg) (by assumption) ?_ | (refine ret_a ?_; (try clear hB KB); (try clear hK K)))
  rfl
theorem void_sp (s : Script) (V : VOps s) (hs : ScriptLen s) (o : Op) (ho : 0 ≤ o.mask ∧ o.mask ≤ s.images.length) : Pure Sg 180 [vP s, ag (opE o)] (fun x => x = .b (B (voidM s o))) := by
  have hn := V.imgs
  have h1 := solidMask_sp s V o ho
  have h2 := maskRect_spec s o hs ⟨ho.1, by omega⟩
  have h3 := rempty_spec (maskRectM s o)
  refine pure_of Tryz.func180 rfl (rs := [.tmp 4]) rfl rfl mixed (by decide +kernel) (Nat.le_of_ble_eq_true rfl) (argsLt_mem (by simp (maxSteps := 1000000) (disch := omega) only [go_sem])) ?_
  repeat' (first | with_reducible exact tr_a | refine un_a ?_ | ((first | refine st_a (fun K hK => ?_) | refine rg_a ?_ | refine call_c (h1) ?_ | refine gcall_c (fun hg => h1) ?_ | refine call_c (h2) ?_ | refine gcall_c (fun hg => h2) ?_ | refine call_c (h3) ?_ | refine gcall_c (fun hg => h3) ?_); (repeat' (refine And.intro ?_ ?_)); (all_goals first | (refine hK _ ?_; clear hK K) | exact auto_cl | skip)) | ((first | apply cw_ite | apply cw_iteN); (case hf => rfl); (case hc => exact ev_a); (all_goals first | (intro hb; (try simp only [hbs] at hb)) | skip)) | exact atN_intro | (refine if_a (fun hb => ?_) (fun hb => ?_); (all_goals (try first | with_reducible exact True.intro | (exfalso; omega)))) | refine cw_blocks (fun KB hB => ?_) | (refine hB _ ?_; clear hB KB) | refine exit_by (S := Sg) (by assumption) ?_ | (refine ret_a ?_; (try clear hB KB); (try clear hK K)))
  rfl
theorem invisible_sp (s : Script) (V : VOps s) (hs : ScriptLen s) (i : Nat) (hi : i < s.ops.length) (h3 : (opAt s.ops i).kind ≠ 3) : Pure Sg 128 [vP s, I i] (fun x => x = .b (B (invM s i))) := by
  have hn := V.cnt
  have hm := V.imgs
  obtain ⟨ho, hm2⟩ := op_rng V hi
  have h1 := neutral_spec (opAt s.ops i).operator
  have h2 := void_sp s V hs (opAt s.ops i) ho
  have h4 := imageRect_spec s (opAt s.ops i) hs
  have h5 := rempty_spec (imageRectM s (opAt s.ops i))
  have h6 := transparent_spec (imgM s (opAt s.ops i).image).color
  unfold opAt at h1 h2 h4 h5 h6 hm2 h3
  refine pure_of Tryz.func128 rfl (rs := [.tmp 4]) rfl rfl mixed (by decide +kernel) (Nat.le_of_ble_eq_true rfl) (argsLt_mem (by simp (maxSteps := 1000000) (disch := omega) only [go_sem])) ?_
  repeat' (first | with_reducible exact tr_a | ((first | ((with_reducible refine cw_stepDK (id := 8) [(41, 3), (43, 1), (45, 3)] (by decide +kernel) (by decide +kernel) ?_ (fun K hK => ?_)); exact wf_a) | ((with_reducible refine cw_lastDK (id := 8) [(41, 3), (43, 1), (45, 3)] (by decide +kernel) (by decide +kernel) ?_ (fun K hK => ?_)); exact wf_a)); (try simp (maxSteps := 1000000) (disch := omega) only [go_sem]); (repeat' (refine And.intro ?_ ?_)); (all_goals first | (refine hK _ (by simp (maxSteps := 1000000) (disch := omega) only [go_sem]) ?_; clear hK K) | exact auto_cl | skip)) | refine un_a ?_ | ((first | refine st_a (fun K hK => ?_) | refine rg_a ?_ | refine call_c (h1) ?_ | refine gcall_c (fun hg => h1) ?_ | refine call_c (h2) ?_ | refine gcall_c (fun hg => h2) ?_ | refine call_c (h4) ?_ | refine gcall_c (fun hg => h4) ?_ | refine call_c (h5) ?_ | refine gcall_c (fun hg => h5) ?_ | refine call_c (h6) ?_ | refine gcall_c (fun hg => h6) ?_); (repeat' (refine And.intro ?_ ?_)); (all_goals first | (refine hK _ ?_; clear hK K) | exact auto_cl | skip)) | ((first | apply cw_ite | apply cw_iteN); (case hf => rfl); (case hc => exact ev_a); (all_goals first | (intro hb; (try simp only [hbs] at hb)) | skip)) | exact atN_intro | (refine if_a (fun hb => ?_) (fun hb => ?_); (all_goals (try first | with_reducible exact True.intro | (exfalso; omega)))) | refine cw_blocks (fun KB hB => ?_) | (refine hB _ ?_; clear hB KB) | refine exit_by (S := Sg) (by assumption) ?_ | (refine ret_a ?_; (try clear hB KB); (try clear hK K)))
  · refine vb ?_
    rw [invM, opAt, hb]; rfl
  · refine vb ?_
    rw [invM, opAt, ‹neutralM _ = true›]
    rcases hb with hb | hb
    · rw [decide_eq_true hb]; rfl
    · rw [hb, Bool.or_true]; rfl
  · refine vb ?_
    obtain ⟨q1, q2⟩ := ‹_ ∧ voidM _ _ = false›
    rw [invM, opAt, ‹neutralM _ = true›, decide_eq_false q1, q2, if_pos hb]
    exact kbeq _ 0
  · have := V.wf.kinds i hi
    unfold opAt at this
    exact (hm2 (by omega)).1
  · have := V.wf.kinds i hi
    unfold opAt at this
    exact (hm2 (by omega)).2
  · refine vb ?_
    obtain ⟨q1, q2⟩ := ‹_ ∧ voidM _ _ = false›
    rw [invM, opAt, ‹neutralM _ = true›, decide_eq_false q1, q2, if_neg hb]
    rfl
theorem dst_sp (s : Script) (V : VOps s) (i : Nat) (hi : i < s.ops.length) : Pure Sg 130 [vP s, I i] (fun x => x = .b (B (dstM s i))) := by
  have hn := V.cnt
  refine pure_of Tryz.func130 rfl (rs := [.tmp 4]) rfl rfl mixed (by decide +kernel) (Nat.le_of_ble_eq_true rfl) (argsLt_mem (by simp (maxSteps := 1000000) (disch := omega) only [go_sem])) ?_
  repeat' (first | with_reducible exact tr_a | refine un_a ?_ | ((first | refine st_a (fun K hK => ?_) | refine rg_a ?_); (repeat' (refine And.intro ?_ ?_)); (all_goals first | (refine hK _ ?_; clear hK K) | exact auto_cl | skip)) | ((first | apply cw_ite | apply cw_iteN); (case hf => rfl); (case hc => exact ev_a); (all_goals first | (intro hb; (try simp only [hbs] at hb)) | skip)) | exact atN_intro | (refine if_a (fun hb => ?_) (fun hb => ?_); (all_goals (try first | with_reducible exact True.intro | (exfalso; omega)))) | refine cw_blocks (fun KB hB => ?_) | (refine hB _ ?_; clear hB KB) | refine exit_by (S := Sg) (by assumption) ?_ | (refine ret_a ?_; (try clear hB KB); (try clear hK K)))
  rfl
theorem nothing_sp (s : Script) (V : VOps s) (i : Nat) (hi : i < s.ops.length) : Pure Sg 131 [vP s, I i] (fun x => x = .b (B (nthM s i))) := by
  have hn := V.cnt
  have h1 := plain_sp s V i hi
  refine pure_of Tryz.func131 rfl (rs := [.tmp 4]) rfl rfl mixed (by decide +kernel) (Nat.le_of_ble_eq_true rfl) (argsLt_mem (by simp (maxSteps := 1000000) (disch := omega) only [go_sem])) ?_
  repeat' (first | with_reducible exact tr_a | refine un_a ?_ | ((first | refine st_a (fun K hK => ?_) | refine rg_a ?_ | refine call_c (h1) ?_ | refine gcall_c (fun hg => h1) ?_); (repeat' (refine And.intro ?_ ?_)); (all_goals first | (refine hK _ ?_; clear hK K) | exact auto_cl | skip)) | ((first | apply cw_ite | apply cw_iteN); (case hf => rfl); (case hc => exact ev_a); (all_goals first | (intro hb; (try simp only [hbs] at hb)) | skip)) | exact atN_intro | (refine if_a (fun hb => ?_) (fun hb => ?_); (all_goals (try first | with_reducible exact True.intro | (exfalso; omega)))) | refine cw_blocks (fun KB hB => ?_) | (refine hB _ ?_; clear hB KB) | refine exit_by (S := Sg) (by assumption) ?_ | (refine ret_a ?_; (try clear hB KB); (try clear hK K)))
  · refine vb ?_
    rw [nthM, opAt, decide_eq_true (by omega)]; rfl
  · refine vb ?_
    rw [nthM, opAt, decide_eq_false (by omega)]; rfl
theorem covers_sp (s : Script) (V : VOps s) (hs : ScriptLen s) (i : Nat) (hi : i < s.ops.length) (h3 : (opAt s.ops i).kind = 1) : Pure Sg 183 [vP s, I i] (fun x => x = .b (B (cvM s i))) := by
  have hn := V.cnt
  have hm := V.imgs
  obtain ⟨ho, hm2⟩ := op_rng V hi
  have h1 := frame_sp s V i hi
  have h2 := unscaled_sp s (opAt s.ops i)
  have h4 := imageRect_spec s (opAt s.ops i) hs
  have h5 := covers_spec (imageRectM s (opAt s.ops i)) s.canvas
  have hm3 := hm2 h3
  unfold opAt at h2 h4 h5 hm3
  refine pure_of Tryz.func183 rfl (rs := [.tmp 4]) rfl rfl mixed (by decide +kernel) (Nat.le_of_ble_eq_true rfl) (argsLt_mem (by simp (maxSteps := 1000000) (disch := omega) only [go_sem])) ?_
  repeat' (first | with_reducible exact tr_a | ((first | ((with_reducible refine cw_stepDK (id := 5) [(33, 3), (35, 1), (37, 3)] (by decide +kernel) (by decide +kernel) ?_ (fun K hK => ?_)); exact wf_a) | ((with_reducible refine cw_lastDK (id := 5) [(33, 3), (35, 1), (37, 3)] (by decide +kernel) (by decide +kernel) ?_ (fun K hK => ?_)); exact wf_a)); (try simp (maxSteps := 1000000) (disch := omega) only [go_sem]); (repeat' (refine And.intro ?_ ?_)); (all_goals first | (refine hK _ (by simp (maxSteps := 1000000) (disch := omega) only [go_sem]) ?_; clear hK K) | exact auto_cl | skip)) | refine un_a ?_ | ((first | refine st_a (fun K hK => ?_) | refine rg_a ?_ | refine call_c (h1) ?_ | refine gcall_c (fun hg => h1) ?_ | refine call_c (h2) ?_ | refine gcall_c (fun hg => h2) ?_ | refine call_c (h4) ?_ | refine gcall_c (fun hg => h4) ?_ | refine call_c (h5) ?_ | refine gcall_c (fun hg => h5) ?_); (repeat' (refine And.intro ?_ ?_)); (all_goals first | (refine hK _ ?_; clear hK K) | exact auto_cl | skip)) | ((first | apply cw_ite | apply cw_iteN); (case hf => rfl); (case hc => exact ev_a); (all_goals first | (intro hb; (try simp only [hbs] at hb)) | skip)) | exact atN_intro | (refine if_a (fun hb => ?_) (fun hb => ?_); (all_goals (try first | with_reducible exact True.intro | (exfalso; omega)))) | refine cw_blocks (fun KB hB => ?_) | (refine hB _ ?_; clear hB KB) | refine exit_by (S := Sg) (by assumption) ?_ | (refine ret_a ?_; (try clear hB KB); (try clear hK K)))
  · refine vb ?_
    rw [cvM, opAt, decide_eq_true hb.1, hb.2]; rfl
  · rename_i q1
    refine vb ?_
    have e1 : (decide ((s.ops.getD i default).operator = 1) && !koM s i) = false := by
      by_cases h : (s.ops.getD i default).operator = 1
      · rw [q1 h]; simp
      · rw [decide_eq_false h]; rfl
    rw [cvM, opAt, e1, Bool.false_or]
    have hb : (unscM s (s.ops.getD i default) = false ∨ (imgM s (s.ops.getD i default).image).solid = false) ∨ coversR (imageRectM s (s.ops.getD i default)) s.canvas = false := hb
    rcases hb with (hb | hb) | hb <;> rw [hb] <;> simp
  · rename_i q2 q1
    refine vb ?_
    have e1 : (decide ((s.ops.getD i default).operator = 1) && !koM s i) = false := by rw [hb]; simp
    have q1 : (unscM s (s.ops.getD i default) = true ∧ (imgM s (s.ops.getD i default).image).solid = true) ∧ coversR (imageRectM s (s.ops.getD i default)) s.canvas = true := q1
    rw [cvM, opAt, e1, Bool.false_or, q1.1.1, q1.1.2, q1.2, if_pos hb]
    rfl
  · rename_i q3 q2 q1
    refine vb ?_
    have e1 : (decide ((s.ops.getD i default).operator = 1) && !koM s i) = false := by
      by_cases h : (s.ops.getD i default).operator = 1
      · rw [q3 h]; simp
      · rw [decide_eq_false h]; rfl
    have q2 : (unscM s (s.ops.getD i default) = true ∧ (imgM s (s.ops.getD i default).image).solid = true) ∧ coversR (imageRectM s (s.ops.getD i default)) s.canvas = true := q2
    rw [cvM, opAt, e1, Bool.false_or, q2.1.1, q2.1.2, q2.2, if_neg (by rw [q1]; decide), decide_eq_false hb]
    rfl
  · rename_i q3 q2 q1
    refine vb ?_
    have e1 : (decide ((s.ops.getD i default).operator = 1) && !koM s i) = false := by
      by_cases h : (s.ops.getD i default).operator = 1
      · rw [q3 h]; simp
      · rw [decide_eq_false h]; rfl
    have q2 : (unscM s (s.ops.getD i default) = true ∧ (imgM s (s.ops.getD i default).image).solid = true) ∧ coversR (imageRectM s (s.ops.getD i default)) s.canvas = true := q2
    rw [cvM, opAt, e1, Bool.false_or, q2.1.1, q2.1.2, q2.2, if_neg (by rw [q1]; decide), decide_eq_true hb]
    rfl
theorem mask_sp (s : Script) (V : VOps s) (hs : ScriptLen s) (i : Nat) (hi : i < s.ops.length) : Pure Sg 133 [vP s, I i] (fun x => x = .b (B (mskM s i))) := by
  have hn := V.cnt
  obtain ⟨ho, hm2⟩ := op_rng V hi
  have h1 := full_sp s V hs (opAt s.ops i) ho
  unfold opAt at h1
  refine pure_of Tryz.func133 rfl (rs := [.tmp 4]) rfl rfl mixed (by decide +kernel) (Nat.le_of_ble_eq_true rfl) (argsLt_mem (by simp (maxSteps := 1000000) (disch := omega) only [go_sem])) ?_
  repeat' (first | with_reducible exact tr_a | refine un_a ?_ | ((first | refine st_a (fun K hK => ?_) | refine rg_a ?_ | refine call_c (h1) ?_ | refine gcall_c (fun hg => h1) ?_); (repeat' (refine And.intro ?_ ?_)); (all_goals first | (refine hK _ ?_; clear hK K) | exact auto_cl | skip)) | ((first | apply cw_ite | apply cw_iteN); (case hf => rfl); (case hc => exact ev_a); (all_goals first | (intro hb; (try simp only [hbs] at hb)) | skip)) | exact atN_intro | (refine if_a (fun hb => ?_) (fun hb => ?_); (all_goals (try first | with_reducible exact True.intro | (exfalso; omega)))) | refine cw_blocks (fun KB hB => ?_) | (refine hB _ ?_; clear hB KB) | refine exit_by (S := Sg) (by assumption) ?_ | (refine ret_a ?_; (try clear hB KB); (try clear hK K)))
  rfl
theorem isolate_sp (s : Script) (V : VOps s) (i : Nat) (hi : i < s.ops.length) : Pure Sg 136 [vP s, I i] (fun x => x = .b (B (iseM s i))) := by
  have hn := V.cnt
  have h1 := frame_sp s V i hi
  refine pure_of Tryz.func136 rfl (rs := [.tmp 4]) rfl rfl mixed (by decide +kernel) (Nat.le_of_ble_eq_true rfl) (argsLt_mem (by simp (maxSteps := 1000000) (disch := omega) only [go_sem])) ?_
  repeat' (first | with_reducible exact tr_a | refine un_a ?_ | ((first | refine st_a (fun K hK => ?_) | refine rg_a ?_ | refine call_c (h1) ?_ | refine gcall_c (fun hg => h1) ?_); (repeat' (refine And.intro ?_ ?_)); (all_goals first | (refine hK _ ?_; clear hK K) | exact auto_cl | skip)) | ((first | apply cw_ite | apply cw_iteN); (case hf => rfl); (case hc => exact ev_a); (all_goals first | (intro hb; (try simp only [hbs] at hb)) | skip)) | exact atN_intro | (refine if_a (fun hb => ?_) (fun hb => ?_); (all_goals (try first | with_reducible exact True.intro | (exfalso; omega)))) | refine cw_blocks (fun KB hB => ?_) | (refine hB _ ?_; clear hB KB) | refine exit_by (S := Sg) (by assumption) ?_ | (refine ret_a ?_; (try clear hB KB); (try clear hK K)))
  rfl
theorem normal_sp (s : Script) (V : VOps s) (i : Nat) (hi : i < s.ops.length) : Pure Sg 138 [vP s, I i] (fun x => x = .b (B (nrmM s i))) := by
  have hn := V.cnt
  have h1 := frame_sp s V i hi
  have h2 := fresh_spec (opAt s.ops i).operator
  unfold opAt at h2
  refine pure_of Tryz.func138 rfl (rs := [.tmp 4]) rfl rfl mixed (by decide +kernel) (Nat.le_of_ble_eq_true rfl) (argsLt_mem (by simp (maxSteps := 1000000) (disch := omega) only [go_sem])) ?_
  repeat' (first | with_reducible exact tr_a | refine un_a ?_ | ((first | refine st_a (fun K hK => ?_) | refine rg_a ?_ | refine call_c (h1) ?_ | refine gcall_c (fun hg => h1) ?_ | refine call_c (h2) ?_ | refine gcall_c (fun hg => h2) ?_); (repeat' (refine And.intro ?_ ?_)); (all_goals first | (refine hK _ ?_; clear hK K) | exact auto_cl | skip)) | ((first | apply cw_ite | apply cw_iteN); (case hf => rfl); (case hc => exact ev_a); (all_goals first | (intro hb; (try simp only [hbs] at hb)) | skip)) | exact atN_intro | (refine if_a (fun hb => ?_) (fun hb => ?_); (all_goals (try first | with_reducible exact True.intro | (exfalso; omega)))) | refine cw_blocks (fun KB hB => ?_) | (refine hB _ ?_; clear hB KB) | refine exit_by (S := Sg) (by assumption) ?_ | (refine ret_a ?_; (try clear hB KB); (try clear hK K)))
  · rw [nrmM, hb]; rfl
  · rw [nrmM, ‹isoM s i = true›, if_pos hb]; rfl
  · rw [nrmM, ‹isoM s i = true›, if_neg (by rw [hb]; decide)]; rfl
theorem single_sp (s : Script) (V : VOps s) (i : Nat) (hi : i < s.ops.length) : Pure Sg 140 [vP s, I i] (fun x => x = .b (B (sngM s i))) := by
  have hn := V.cnt
  refine pure_of Tryz.func140 rfl (rs := [.tmp 4]) rfl rfl mixed (by decide +kernel) (Nat.le_of_ble_eq_true rfl) (argsLt_mem (by simp (maxSteps := 1000000) (disch := omega) only [go_sem])) ?_
  repeat' (first | with_reducible exact tr_a | refine un_a ?_ | ((first | refine st_a (fun K hK => ?_) | refine rg_a ?_); (repeat' (refine And.intro ?_ ?_)); (all_goals first | (refine hK _ ?_; clear hK K) | exact auto_cl | skip)) | ((first | apply cw_ite | apply cw_iteN); (case hf => rfl); (case hc => exact ev_a); (all_goals first | (intro hb; (try simp only [hbs] at hb)) | skip)) | exact atN_intro | (refine if_a (fun hb => ?_) (fun hb => ?_); (all_goals (try first | with_reducible exact True.intro | (exfalso; omega)))) | refine cw_blocks (fun KB hB => ?_) | (refine hB _ ?_; clear hB KB) | refine exit_by (S := Sg) (by assumption) ?_ | (refine ret_a ?_; (try clear hB KB); (try clear hK K)))
  rw [sngM]
  exact vb (congrArg (fun b => _ && _ && b) (kbeq _ 1))
theorem unwrap_sp (s : Script) (V : VOps s) (i : Nat) (hi : i < s.ops.length) : Pure Sg 142 [vP s, I i] (fun x => x = .b (B (unwM s i))) := by
  have hn := V.cnt
  have W := V.wf
  have h1 := unscaled_sp s (opAt s.ops i)
  have h2 := unscaled_sp s (opAt s.ops (i + 1))
  unfold opAt at h1 h2
  refine pure_of Tryz.func142 rfl (rs := [.tmp 4]) rfl rfl mixed (by decide +kernel) (Nat.le_of_ble_eq_true rfl) (argsLt_mem (by simp (maxSteps := 1000000) (disch := omega) only [go_sem])) ?_
  repeat' (first | with_reducible exact tr_a | refine un_a ?_ | ((first | refine st_a (fun K hK => ?_) | refine rg_a ?_ | refine call_c (h2) ?_ | refine gcall_c (fun hg => h2) ?_ | refine call_c (h1) ?_ | refine gcall_c (fun hg => h1) ?_); (repeat' (refine And.intro ?_ ?_)); (all_goals first | (refine hK _ ?_; clear hK K) | exact auto_cl | skip)) | ((first | apply cw_ite | apply cw_iteN); (case hf => rfl); (case hc => exact ev_a); (all_goals first | (intro hb; (try simp only [hbs] at hb)) | skip)) | exact atN_intro | (refine if_a (fun hb => ?_) (fun hb => ?_); (all_goals (try first | with_reducible exact True.intro | (exfalso; omega)))) | refine cw_blocks (fun KB hB => ?_) | (refine hB _ ?_; clear hB KB) | refine exit_by (S := Sg) (by assumption) ?_ | (refine ret_a ?_; (try clear hB KB); (try clear hK K)))
  · refine vb ?_
    have e : (decide ((opAt s.ops i).kind = 2) && (opAt s.ops i).isolated && decide (kidsM s.ops i = 1)) = false := by
      unfold opAt
      rcases hb with (hb | hb) | hb
      · rw [decide_eq_false hb]; rfl
      · rw [hb, Bool.and_false]; rfl
      · rw [decide_eq_false (show ¬ kidsM s.ops i = 1 by omega), Bool.and_false]
    rw [unwM, e]; rfl
  · obtain ⟨⟨b1, b2⟩, b3⟩ := hb
    have := (kid_next W hi b1 (by omega)).1
    have := ends_lt W hi
    omega
  · refine vb ?_
    obtain ⟨⟨b1, b2⟩, b3⟩ := hb
    rw [unwM, show (opAt s.ops i).isolated = true from b2, decide_eq_true (show (opAt s.ops i).kind = 2 from b1), decide_eq_true (show kidsM s.ops i = 1 by omega), show ((i : Int) + 1).toNat = i + 1 by omega]
    rfl
theorem covered_sp (s : Script) (V : VOps s) (hs : ScriptLen s) (i : Nat) (hi : i < s.ops.length) : Pure Sg 132 [vP s, I i] (fun x => x = .b (B (cdM s i))) := by
  have hn := V.cnt
  have W := V.wf
  have hel := ends_lt W hi
  have hge := ends_ge W hi
  refine pure_of Tryz.func132 rfl (rs := [.tmp 4]) rfl rfl mixed (by decide +kernel) (Nat.le_of_ble_eq_true rfl) (argsLt_mem (by simp (maxSteps := 1000000) (disch := omega) only [go_sem])) ?_
  repeat' (first | with_reducible exact tr_a | refine un_a ?_ | ((first | refine st_a (fun K hK => ?_) | refine rg_a ?_); (repeat' (refine And.intro ?_ ?_)); (all_goals first | (refine hK _ ?_; clear hK K) | exact auto_cl | skip)) | ((first | apply cw_ite | apply cw_iteN); (case hf => rfl); (case hc => exact ev_a); (all_goals first | (intro hb; (try simp only [hbs] at hb)) | skip)) | exact atN_intro | (refine if_a (fun hb => ?_) (fun hb => ?_); (all_goals (try first | with_reducible exact True.intro | (exfalso; omega)))) | refine cw_blocks (fun KB hB => ?_) | (refine hB _ ?_; clear hB KB) | refine exit_by (S := Sg) (by assumption) ?_ | (refine ret_a ?_; (try clear hB KB); (try clear hK K)))
  refine cw_loop (X := Nat × Nat) (fun x => mkSt [(0, .b (vP s)), (1, .b (I i)), (5, .b (I x.2))] [] 1)
    (fun x => s.ops.length ≤ x.1 + x.2 ∧ x.2 ≤ s.ops.length ∧ cdM s i = cdGo s x.1 x.2) (fun x => s.ops.length - x.2) (s.ops.length, endsM s.ops i + 1) ?_ ?_ ?_
  · exact ⟨by dsimp only; omega, by dsimp only; omega, rfl⟩
  · refine le_a [] ?_ ?_
    repeat' (refine And.intro ?_ ?_)
    all_goals first | exact le_cl | skip
  · rintro ⟨f, j⟩ ⟨hf, hj, hc⟩
    dsimp only at hf hj hc ⊢
    rcases Nat.lt_or_ge j s.ops.length with hlt | hge
    · obtain ⟨f, rfl⟩ : ∃ f', f = f' + 1 := ⟨f - 1, by omega⟩
      rw [cdGo] at hc
      have hjl := ends_lt W hlt
      have hjg := ends_ge W hlt
      repeat' (first | with_reducible exact tr_a | refine un_a ?_ | ((first | refine st_a (fun K hK => ?_) | refine rg_a ?_ | refine call_c (covers_sp s V hs j hlt (by simpa [opAt] using hg)) ?_ | refine gcall_c (fun hg => covers_sp s V hs j hlt (by simpa [opAt] using hg)) ?_); (repeat' (refine And.intro ?_ ?_)); (all_goals first | (refine hK _ ?_; clear hK K) | exact auto_cl | skip)) | ((first | apply cw_ite | apply cw_iteN); (case hf => rfl); (case hc => exact ev_a); (all_goals first | (intro hb; (try simp only [hbs] at hb)) | skip)) | exact atN_intro | (refine if_a (fun hb => ?_) (fun hb => ?_); (all_goals (try first | with_reducible exact True.intro | (exfalso; omega)))) | refine cw_blocks (fun KB hB => ?_) | (refine hB _ ?_; clear hB KB) | refine exit_by (S := Sg) (by assumption) ?_ | (refine ret_a ?_; (try clear hB KB); (try clear hK K)))
      · refine vb ?_
        rw [hc, opAt, decide_eq_true hlt, decide_eq_false (‹_ ∧ ¬ _ = (3 : Int)›).2, decide_eq_true hb.1, hb.2]; rfl
      · rw [thenQ_normal]
        have hk3 := (‹_ ∧ ¬ _ = (3 : Int)›).2
        refine wk_loop (f, endsM s.ops j + 1) ?_ ⟨by dsimp only; omega, by dsimp only; omega, ?_⟩ (by dsimp only; omega)
        · refine le_a [] ?_ ?_
          repeat' (refine And.intro ?_ ?_)
          all_goals first | exact le_cl | skip
        · dsimp only
          rw [hc, opAt, decide_eq_true hlt, decide_eq_false hk3]
          have e : (decide ((s.ops.getD j default).kind = 1) && cvM s j) = false := by
            by_cases h : (s.ops.getD j default).kind = 1
            · rw [hb h, Bool.and_false]
            · rw [decide_eq_false h]; rfl
          rw [e]; rfl
      · refine vb ?_
        rw [hc, opAt, decide_eq_true (hb (by omega)), Bool.not_true, Bool.and_false]; rfl
    · have he : j = s.ops.length := by omega
      subst he
      have hc2 : cdM s i = false := by
        rw [hc]
        cases f with
        | zero => rfl
        | succ f => rw [cdGo, decide_eq_false (Nat.lt_irrefl _)]; rfl
      repeat' (first | with_reducible exact tr_a | refine un_a ?_ | ((first | refine st_a (fun K hK => ?_) | refine rg_a ?_); (repeat' (refine And.intro ?_ ?_)); (all_goals first | (refine hK _ ?_; clear hK K) | exact auto_cl | skip)) | ((first | apply cw_ite | apply cw_iteN); (case hf => rfl); (case hc => exact ev_a); (all_goals first | (intro hb; (try simp only [hbs] at hb)) | skip)) | exact atN_intro | (refine if_a (fun hb => ?_) (fun hb => ?_); (all_goals (try first | with_reducible exact True.intro | (exfalso; omega)))) | refine cw_blocks (fun KB hB => ?_) | (refine hB _ ?_; clear hB KB) | refine exit_by (S := Sg) (by assumption) ?_ | (refine ret_a ?_; (try clear hB KB); (try clear hK K)))
      rw [hc2]
end Go.Proofs.YtbpplplnkgmhlaaGreatDoor

/- Copies of slices. -/
set_option maxHeartbeats 2000000
set_option maxRecDepth 16000
namespace Go.Proofs.YtbpplplnkgmhlaaGreatDoor
open Go Go.SL
open Go.RowKit (wrap64)

theorem appF0 {n : Nat} {f g : Nat → Nat → PV} {sz : Nat} : PV.le (.lst sz (0 + n) (appF 0 f g)) (.lst sz n g) := by
  rw [Nat.zero_add]
  exact lst_le fun i hi j hj => by unfold appF; rw [if_neg (Nat.not_lt_zero i), Nat.sub_zero]
theorem appF0v {f g : Nat → Nat → PV} (i j : Nat) : appF 0 f g i j = g i j := by unfold appF; rw [if_neg (Nat.not_lt_zero i), Nat.sub_zero]
theorem cloneU_spec (n : Nat) (g : Nat → Nat → PV) (hn : n ≤ 1000000000) : Pure Sg 125 [.c (.p (.lst 1 n g))] (fun x => x = .b (.c (.p (.lst 1 n g)))) := by
  rcases Nat.eq_zero_or_pos n with h0 | h0
  · subst h0
    refine pure_lst0 fun a c => ?_
    cases a with
    | none =>
      refine pure_le ?_
      refine pure_of Tryz.func125 rfl (rs := [.tmp 2]) rfl rfl mixed (by decide +kernel) (Nat.le_of_ble_eq_true rfl) (argsLt_mem (by simp (maxSteps := 1000000) (disch := omega) only [go_sem])) ?_
      repeat' (first | with_reducible exact tr_a | refine un_a ?_ | ((first | refine st_a (fun K hK => ?_) | refine rg_a ?_); (repeat' (refine And.intro ?_ ?_)); (all_goals first | (refine hK _ ?_; clear hK K) | exact auto_cl | skip)) | ((first | apply cw_ite | apply cw_iteN); (case hf => rfl); (case hc => exact ev_a); (all_goals first | (intro hb; (try simp only [hbs] at hb)) | skip)) | exact atN_intro | (refine if_a (fun hb => ?_) (fun hb => ?_); (all_goals (try first | with_reducible exact True.intro | (exfalso; omega)))) | refine cw_blocks (fun KB hB => ?_) | (refine hB _ ?_; clear hB KB) | refine exit_by (S := Sg) (by assumption) ?_ | (refine ret_a ?_; (try clear hB KB); (try clear hK K)))
      exact sle_b (ble_c nil_le)
    | some a =>
      refine pure_le ?_
      refine pure_of Tryz.func125 rfl (rs := [.tmp 2]) rfl rfl mixed (by decide +kernel) (Nat.le_of_ble_eq_true rfl) (argsLt_mem (by simp (maxSteps := 1000000) (disch := omega) only [go_sem])) ?_
      repeat' (first | with_reducible exact tr_a | refine un_a ?_ | ((with_reducible refine cw_stepV (id := 1) (fun K hW => ?_)); (try simp (maxSteps := 1000000) (disch := omega) only [go_sem]); (repeat' (refine And.intro ?_ ?_)); (all_goals first | (refine hK _ ?_; clear hK K) | exact auto_cl | skip)) | ((first | refine st_a (fun K hK => ?_) | refine rg_a ?_); (repeat' (refine And.intro ?_ ?_)); (all_goals first | (refine hK _ ?_; clear hK K) | exact auto_cl | skip)) | ((first | apply cw_ite | apply cw_iteN); (case hf => rfl); (case hc => exact ev_a); (all_goals first | (intro hb; (try simp only [hbs] at hb)) | skip)) | exact atN_intro | (refine if_a (fun hb => ?_) (fun hb => ?_); (all_goals (try first | with_reducible exact True.intro | (exfalso; omega)))) | refine cw_blocks (fun KB hB => ?_) | (refine hB _ ?_; clear hB KB) | refine exit_by (S := Sg) (by assumption) ?_ | (refine ret_a ?_; (try clear hB KB); (try clear hK K)))
      refine hW _ (mkSt [(0, .b (.c (.p (.lst 1 0 g)))), (4, .b (B false))] [] 1) ?_ ?_
      · refine le_a [] ?_ ?_
        repeat' (refine And.intro ?_ ?_)
        all_goals first | exact le_cl | skip
        exact le_lst0
      clear hW
      repeat' (first | with_reducible exact tr_a | refine un_a ?_ | ((first | refine st_a (fun K hK => ?_) | refine rg_a ?_); (repeat' (refine And.intro ?_ ?_)); (all_goals first | (refine hK _ ?_; clear hK K) | exact auto_cl | skip)) | ((first | apply cw_ite | apply cw_iteN); (case hf => rfl); (case hc => exact ev_a); (all_goals first | (intro hb; (try simp only [hbs] at hb)) | skip)) | exact atN_intro | (refine if_a (fun hb => ?_) (fun hb => ?_); (all_goals (try first | with_reducible exact True.intro | (exfalso; omega)))) | refine cw_blocks (fun KB hB => ?_) | (refine hB _ ?_; clear hB KB) | refine exit_by (S := Sg) (by assumption) ?_ | (refine ret_a ?_; (try clear hB KB); (try clear hK K)))
      · exact absurd hb (by decide)
      · first | exact sle_b (ble_c appF0) | exact sle_b (ble_c lst_le0)
  · refine pure_le ?_
    refine pure_of Tryz.func125 rfl (rs := [.tmp 2]) rfl rfl mixed (by decide +kernel) (Nat.le_of_ble_eq_true rfl) (argsLt_mem (by simp (maxSteps := 1000000) (disch := omega) only [go_sem])) ?_
    repeat' (first | with_reducible exact tr_a | refine un_a ?_ | ((first | refine st_a (fun K hK => ?_) | refine rg_a ?_); (repeat' (refine And.intro ?_ ?_)); (all_goals first | (refine hK _ ?_; clear hK K) | exact auto_cl | skip)) | ((first | apply cw_ite | apply cw_iteN); (case hf => rfl); (case hc => exact ev_a); (all_goals first | (intro hb; (try simp only [hbs] at hb)) | skip)) | exact atN_intro | (refine if_a (fun hb => ?_) (fun hb => ?_); (all_goals (try first | with_reducible exact True.intro | (exfalso; omega)))) | refine cw_blocks (fun KB hB => ?_) | (refine hB _ ?_; clear hB KB) | refine exit_by (S := Sg) (by assumption) ?_ | (refine ret_a ?_; (try clear hB KB); (try clear hK K)))
    · exact absurd hb (by decide)
    · exact sle_b (ble_c appF0)
theorem cloneI_spec (n : Nat) (g : Nat → Nat → PV) (hn : n ≤ 1000000000) : Pure Sg 123 [.c (.p (.lst 1 n g))] (fun x => x = .b (.c (.p (.lst 1 n g)))) := by
  rcases Nat.eq_zero_or_pos n with h0 | h0
  · subst h0
    refine pure_lst0 fun a c => ?_
    cases a with
    | none =>
      refine pure_le ?_
      refine pure_of Tryz.func123 rfl (rs := [.tmp 2]) rfl rfl mixed (by decide +kernel) (Nat.le_of_ble_eq_true rfl) (argsLt_mem (by simp (maxSteps := 1000000) (disch := omega) only [go_sem])) ?_
      repeat' (first | with_reducible exact tr_a | refine un_a ?_ | ((first | refine st_a (fun K hK => ?_) | refine rg_a ?_); (repeat' (refine And.intro ?_ ?_)); (all_goals first | (refine hK _ ?_; clear hK K) | exact auto_cl | skip)) | ((first | apply cw_ite | apply cw_iteN); (case hf => rfl); (case hc => exact ev_a); (all_goals first | (intro hb; (try simp only [hbs] at hb)) | skip)) | exact atN_intro | (refine if_a (fun hb => ?_) (fun hb => ?_); (all_goals (try first | with_reducible exact True.intro | (exfalso; omega)))) | refine cw_blocks (fun KB hB => ?_) | (refine hB _ ?_; clear hB KB) | refine exit_by (S := Sg) (by assumption) ?_ | (refine ret_a ?_; (try clear hB KB); (try clear hK K)))
      exact sle_b (ble_c nil_le)
    | some a =>
      refine pure_le ?_
      refine pure_of Tryz.func123 rfl (rs := [.tmp 2]) rfl rfl mixed (by decide +kernel) (Nat.le_of_ble_eq_true rfl) (argsLt_mem (by simp (maxSteps := 1000000) (disch := omega) only [go_sem])) ?_
      repeat' (first | with_reducible exact tr_a | refine un_a ?_ | ((with_reducible refine cw_stepV (id := 1) (fun K hW => ?_)); (try simp (maxSteps := 1000000) (disch := omega) only [go_sem]); (repeat' (refine And.intro ?_ ?_)); (all_goals first | (refine hK _ ?_; clear hK K) | exact auto_cl | skip)) | ((first | refine st_a (fun K hK => ?_) | refine rg_a ?_); (repeat' (refine And.intro ?_ ?_)); (all_goals first | (refine hK _ ?_; clear hK K) | exact auto_cl | skip)) | ((first | apply cw_ite | apply cw_iteN); (case hf => rfl); (case hc => exact ev_a); (all_goals first | (intro hb; (try simp only [hbs] at hb)) | skip)) | exact atN_intro | (refine if_a (fun hb => ?_) (fun hb => ?_); (all_goals (try first | with_reducible exact True.intro | (exfalso; omega)))) | refine cw_blocks (fun KB hB => ?_) | (refine hB _ ?_; clear hB KB) | refine exit_by (S := Sg) (by assumption) ?_ | (refine ret_a ?_; (try clear hB KB); (try clear hK K)))
      refine hW _ (mkSt [(0, .b (.c (.p (.lst 1 0 g)))), (4, .b (B false))] [] 1) ?_ ?_
      · refine le_a [] ?_ ?_
        repeat' (refine And.intro ?_ ?_)
        all_goals first | exact le_cl | skip
        exact le_lst0
      clear hW
      repeat' (first | with_reducible exact tr_a | refine un_a ?_ | ((first | refine st_a (fun K hK => ?_) | refine rg_a ?_); (repeat' (refine And.intro ?_ ?_)); (all_goals first | (refine hK _ ?_; clear hK K) | exact auto_cl | skip)) | ((first | apply cw_ite | apply cw_iteN); (case hf => rfl); (case hc => exact ev_a); (all_goals first | (intro hb; (try simp only [hbs] at hb)) | skip)) | exact atN_intro | (refine if_a (fun hb => ?_) (fun hb => ?_); (all_goals (try first | with_reducible exact True.intro | (exfalso; omega)))) | refine cw_blocks (fun KB hB => ?_) | (refine hB _ ?_; clear hB KB) | refine exit_by (S := Sg) (by assumption) ?_ | (refine ret_a ?_; (try clear hB KB); (try clear hK K)))
      · exact absurd hb (by decide)
      · first | exact sle_b (ble_c appF0) | exact sle_b (ble_c lst_le0)
  · refine pure_le ?_
    refine pure_of Tryz.func123 rfl (rs := [.tmp 2]) rfl rfl mixed (by decide +kernel) (Nat.le_of_ble_eq_true rfl) (argsLt_mem (by simp (maxSteps := 1000000) (disch := omega) only [go_sem])) ?_
    repeat' (first | with_reducible exact tr_a | refine un_a ?_ | ((first | refine st_a (fun K hK => ?_) | refine rg_a ?_); (repeat' (refine And.intro ?_ ?_)); (all_goals first | (refine hK _ ?_; clear hK K) | exact auto_cl | skip)) | ((first | apply cw_ite | apply cw_iteN); (case hf => rfl); (case hc => exact ev_a); (all_goals first | (intro hb; (try simp only [hbs] at hb)) | skip)) | exact atN_intro | (refine if_a (fun hb => ?_) (fun hb => ?_); (all_goals (try first | with_reducible exact True.intro | (exfalso; omega)))) | refine cw_blocks (fun KB hB => ?_) | (refine hB _ ?_; clear hB KB) | refine exit_by (S := Sg) (by assumption) ?_ | (refine ret_a ?_; (try clear hB KB); (try clear hK K)))
    · exact absurd hb (by decide)
    · exact sle_b (ble_c appF0)
theorem cloneOps_spec (n : Nat) (g : Nat → Nat → PV) (hn : n ≤ 1000000000) : Pure Sg 144 [.c (.p (.lst 12 n g))] (fun x => x = .b (.c (.p (.lst 12 n g)))) := by
  rcases Nat.eq_zero_or_pos n with h0 | h0
  · subst h0
    refine pure_lst0 fun a c => ?_
    cases a with
    | none =>
      refine pure_le ?_
      refine pure_of Tryz.func144 rfl (rs := [.tmp 2]) rfl rfl mixed (by decide +kernel) (Nat.le_of_ble_eq_true rfl) (argsLt_mem (by simp (maxSteps := 1000000) (disch := omega) only [go_sem])) ?_
      repeat' (first | with_reducible exact tr_a | refine un_a ?_ | ((first | refine st_a (fun K hK => ?_) | refine rg_a ?_); (repeat' (refine And.intro ?_ ?_)); (all_goals first | (refine hK _ ?_; clear hK K) | exact auto_cl | skip)) | ((first | apply cw_ite | apply cw_iteN); (case hf => rfl); (case hc => exact ev_a); (all_goals first | (intro hb; (try simp only [hbs] at hb)) | skip)) | exact atN_intro | (refine if_a (fun hb => ?_) (fun hb => ?_); (all_goals (try first | with_reducible exact True.intro | (exfalso; omega)))) | refine cw_blocks (fun KB hB => ?_) | (refine hB _ ?_; clear hB KB) | refine exit_by (S := Sg) (by assumption) ?_ | (refine ret_a ?_; (try clear hB KB); (try clear hK K)))
      exact sle_b (ble_c nil_le)
    | some a =>
      refine pure_le ?_
      refine pure_of Tryz.func144 rfl (rs := [.tmp 2]) rfl rfl mixed (by decide +kernel) (Nat.le_of_ble_eq_true rfl) (argsLt_mem (by simp (maxSteps := 1000000) (disch := omega) only [go_sem])) ?_
      repeat' (first | with_reducible exact tr_a | refine un_a ?_ | ((with_reducible refine cw_stepV (id := 1) (fun K hW => ?_)); (try simp (maxSteps := 1000000) (disch := omega) only [go_sem]); (repeat' (refine And.intro ?_ ?_)); (all_goals first | (refine hK _ ?_; clear hK K) | exact auto_cl | skip)) | ((first | refine st_a (fun K hK => ?_) | refine rg_a ?_); (repeat' (refine And.intro ?_ ?_)); (all_goals first | (refine hK _ ?_; clear hK K) | exact auto_cl | skip)) | ((first | apply cw_ite | apply cw_iteN); (case hf => rfl); (case hc => exact ev_a); (all_goals first | (intro hb; (try simp only [hbs] at hb)) | skip)) | exact atN_intro | (refine if_a (fun hb => ?_) (fun hb => ?_); (all_goals (try first | with_reducible exact True.intro | (exfalso; omega)))) | refine cw_blocks (fun KB hB => ?_) | (refine hB _ ?_; clear hB KB) | refine exit_by (S := Sg) (by assumption) ?_ | (refine ret_a ?_; (try clear hB KB); (try clear hK K)))
      refine hW _ (mkSt [(0, .b (.c (.p (.lst 12 0 g)))), (4, .b (B false))] [] 1) ?_ ?_
      · refine le_a [] ?_ ?_
        repeat' (refine And.intro ?_ ?_)
        all_goals first | exact le_cl | skip
        exact le_lst0
      clear hW
      repeat' (first | with_reducible exact tr_a | refine un_a ?_ | ((first | refine st_a (fun K hK => ?_) | refine rg_a ?_); (repeat' (refine And.intro ?_ ?_)); (all_goals first | (refine hK _ ?_; clear hK K) | exact auto_cl | skip)) | ((first | apply cw_ite | apply cw_iteN); (case hf => rfl); (case hc => exact ev_a); (all_goals first | (intro hb; (try simp only [hbs] at hb)) | skip)) | exact atN_intro | (refine if_a (fun hb => ?_) (fun hb => ?_); (all_goals (try first | with_reducible exact True.intro | (exfalso; omega)))) | refine cw_blocks (fun KB hB => ?_) | (refine hB _ ?_; clear hB KB) | refine exit_by (S := Sg) (by assumption) ?_ | (refine ret_a ?_; (try clear hB KB); (try clear hK K)))
      · exact absurd hb (by decide)
      · first | exact sle_b (ble_c appF0) | exact sle_b (ble_c lst_le0)
  · refine pure_le ?_
    refine pure_of Tryz.func144 rfl (rs := [.tmp 2]) rfl rfl mixed (by decide +kernel) (Nat.le_of_ble_eq_true rfl) (argsLt_mem (by simp (maxSteps := 1000000) (disch := omega) only [go_sem])) ?_
    repeat' (first | with_reducible exact tr_a | refine un_a ?_ | ((first | refine st_a (fun K hK => ?_) | refine rg_a ?_); (repeat' (refine And.intro ?_ ?_)); (all_goals first | (refine hK _ ?_; clear hK K) | exact auto_cl | skip)) | ((first | apply cw_ite | apply cw_iteN); (case hf => rfl); (case hc => exact ev_a); (all_goals first | (intro hb; (try simp only [hbs] at hb)) | skip)) | exact atN_intro | (refine if_a (fun hb => ?_) (fun hb => ?_); (all_goals (try first | with_reducible exact True.intro | (exfalso; omega)))) | refine cw_blocks (fun KB hB => ?_) | (refine hB _ ?_; clear hB KB) | refine exit_by (S := Sg) (by assumption) ?_ | (refine ret_a ?_; (try clear hB KB); (try clear hK K)))
    · exact absurd hb (by decide)
    · exact sle_b (ble_c appF0)
theorem cloneOps_own (n : Nat) (g : Nat → Nat → PV) (hn : n ≤ 1000000000) (hv : ∀ i, i < n → ∀ j, j < 12 → ∃ u, g i j = .val u) :
    PureOwn Sg 144 [.c (.p (.lst 12 n g))] 73 12 n g := by
  rcases Nat.eq_zero_or_pos n with h0 | h0
  · subst h0
    refine own_lst0 fun a c => ?_
    cases a with
    | none =>
      refine own_nil (by decide) ?_
      refine pure_of Tryz.func144 rfl (rs := [.tmp 2]) rfl rfl mixed (by decide +kernel) (Nat.le_of_ble_eq_true rfl) (argsLt_mem (by simp (maxSteps := 1000000) (disch := omega) only [go_sem])) ?_
      repeat' (first | with_reducible exact tr_a | refine un_a ?_ | ((first | refine st_a (fun K hK => ?_) | refine rg_a ?_); (repeat' (refine And.intro ?_ ?_)); (all_goals first | (refine hK _ ?_; clear hK K) | exact auto_cl | skip)) | ((first | apply cw_ite | apply cw_iteN); (case hf => rfl); (case hc => exact ev_a); (all_goals first | (intro hb; (try simp only [hbs] at hb)) | skip)) | exact atN_intro | (refine if_a (fun hb => ?_) (fun hb => ?_); (all_goals (try first | with_reducible exact True.intro | (exfalso; omega)))) | refine cw_blocks (fun KB hB => ?_) | (refine hB _ ?_; clear hB KB) | refine exit_by (S := Sg) (by assumption) ?_ | (refine ret_a ?_; (try clear hB KB); (try clear hK K)))
      all_goals rfl
    | some a =>
      refine own_of Tryz.func144 rfl (rs := [.tmp 2]) rfl rfl mixed (by decide +kernel) (Nat.le_of_ble_eq_true rfl) (argsLt_mem (by simp (maxSteps := 1000000) (disch := omega) only [go_sem])) ?_
      repeat' (first | with_reducible exact tr_a | refine un_a ?_ | ((with_reducible refine cw_stepV (id := 1) (fun K hW => ?_)); (try simp (maxSteps := 1000000) (disch := omega) only [go_sem]); (repeat' (refine And.intro ?_ ?_)); (all_goals first | (refine hK _ ?_; clear hK K) | exact auto_cl | skip)) | ((first | refine st_a (fun K hK => ?_) | refine rg_a ?_); (repeat' (refine And.intro ?_ ?_)); (all_goals first | (refine hK _ ?_; clear hK K) | exact auto_cl | skip)) | ((first | apply cw_ite | apply cw_iteN); (case hf => rfl); (case hc => exact ev_a); (all_goals first | (intro hb; (try simp only [hbs] at hb)) | skip)) | exact atN_intro | (refine if_a (fun hb => ?_) (fun hb => ?_); (all_goals (try first | with_reducible exact True.intro | (exfalso; omega)))) | refine cw_blocks (fun KB hB => ?_) | (refine hB _ ?_; clear hB KB) | refine exit_by (S := Sg) (by assumption) ?_ | (refine ret_a ?_; (try clear hB KB); (try clear hK K)))
      refine hW _ (mkSt [(0, .b (.c (.p (.lst 12 0 g)))), (4, .b (B false))] [] 1) ?_ ?_
      · refine le_a [] ?_ ?_
        repeat' (refine And.intro ?_ ?_)
        all_goals first | exact le_cl | skip
        exact le_lst0
      clear hW
      repeat' (first | with_reducible exact tr_a | refine un_a ?_ | ((first | refine st_a (fun K hK => ?_) | refine rg_a ?_); (repeat' (refine And.intro ?_ ?_)); (all_goals first | (refine hK _ ?_; clear hK K) | exact auto_cl | skip)) | ((first | apply cw_ite | apply cw_iteN); (case hf => rfl); (case hc => exact ev_a); (all_goals first | (intro hb; (try simp only [hbs] at hb)) | skip)) | exact atN_intro | (refine if_a (fun hb => ?_) (fun hb => ?_); (all_goals (try first | with_reducible exact True.intro | (exfalso; omega)))) | refine cw_blocks (fun KB hB => ?_) | (refine hB _ ?_; clear hB KB) | refine exit_by (S := Sg) (by assumption) ?_ | (refine ret_a ?_; (try clear hB KB); (try clear hK K)))
      · exact absurd hb (by decide)
      · exact ⟨_, rfl, fun i hi => absurd hi (Nat.not_lt_zero i)⟩
  · refine own_of Tryz.func144 rfl (rs := [.tmp 2]) rfl rfl mixed (by decide +kernel) (Nat.le_of_ble_eq_true rfl) (argsLt_mem (by simp (maxSteps := 1000000) (disch := omega) only [go_sem])) ?_
    repeat' (first | with_reducible exact tr_a | refine un_a ?_ | ((first | refine st_a (fun K hK => ?_) | refine rg_a ?_); (repeat' (refine And.intro ?_ ?_)); (all_goals first | (refine hK _ ?_; clear hK K) | exact auto_cl | skip)) | ((first | apply cw_ite | apply cw_iteN); (case hf => rfl); (case hc => exact ev_a); (all_goals first | (intro hb; (try simp only [hbs] at hb)) | skip)) | exact atN_intro | (refine if_a (fun hb => ?_) (fun hb => ?_); (all_goals (try first | with_reducible exact True.intro | (exfalso; omega)))) | refine cw_blocks (fun KB hB => ?_) | (refine hB _ ?_; clear hB KB) | refine exit_by (S := Sg) (by assumption) ?_ | (refine ret_a ?_; (try clear hB KB); (try clear hK K)))
    · exact absurd hb (by decide)
    · simp only [Nat.zero_add]
      exact ⟨_, rfl, trivial, fun i hi j hj => by
        obtain ⟨u, hu⟩ := hv i hi j hj
        exact ⟨u, by rw [appF0v]; exact hu, hu⟩⟩
theorem cloneImg_inl (bx : Nat → Option Bx) (nx n : Nat) (g : Nat → Nat → PV) (h0 : 0 < n) (hn : n ≤ 1000000000) (hw : ∀ i, nx ≤ i → bx i = none) :
    ∃ F, (∀ i j, F i j = g i j) ∧ ∃ G, InlP Sg bx nx 124 [.c (.p (.lst 28 n g))] (.b (.c (.own (nx + 1) n)))
      (bxIns (nx + 1) (.arr 79 28 n F) (bxDel nx (bxIns nx (.arr 79 28 0 G) bx))) (nx + 2) := by
  refine ⟨?F, ?hF, ?G, ?hI⟩
  case hI =>
    refine inl_of Tryz.func124 rfl (rs := [.tmp 2]) rfl rfl mixed (by decide +kernel) (Nat.le_of_ble_eq_true rfl) ?_ (fun kf => ?_)
    · intro v hv
      simp only [List.mem_cons, List.not_mem_nil, or_false] at hv
      rcases hv with rfl
      trivial
    repeat' (first | with_reducible exact tr_a | refine un_a ?_ | ((first | refine st_a (fun K hK => ?_) | refine rg_a ?_); (repeat' (refine And.intro ?_ ?_)); (all_goals first | (refine hK _ ?_; clear hK K) | exact auto_cl | skip)) | ((first | apply cw_ite | apply cw_iteN); (case hf => rfl); (case hc => exact ev_a); (all_goals first | (intro hb; (try simp only [hbs] at hb)) | skip)) | exact atN_intro | (refine if_a (fun hb => ?_) (fun hb => ?_); (all_goals (try first | with_reducible exact True.intro | (exfalso; omega)))) | refine cw_blocks (fun KB hB => ?_) | (refine hB _ ?_; clear hB KB) | refine exit_by (S := Sg) (by assumption) ?_ | (refine ret_a ?_; (try clear hB KB); (try clear hK K)))
    · exact absurd hb (by decide)
    · refine ⟨by rw [Nat.zero_add], ?_, ?_⟩
      · simp only [Nat.zero_add, bxf_set, bxf_setBox, bxf_newBox, bxf_delBox, nx_set, nx_newBox, nx_setBox, nx_delBox, bx_stI, nx_stI]
        rfl
      · omega
  exact fun i j => appF0v i j
end Go.Proofs.YtbpplplnkgmhlaaGreatDoor

/- The table of the rules, and what they do. -/
set_option maxHeartbeats 2000000
set_option maxRecDepth 16000
namespace Go.Proofs.YtbpplplnkgmhlaaGreatDoor
open Go Go.SL
open Go.RowKit (wrap64)
def fnV (f : Nat) : PV := .val (.func (.func f) #[] #[])
theorem tn1 (e : Nat) : ((e : Int) + 1).toNat = e + 1 := by omega
theorem tn2 (e : Nat) : ((e : Int) + 2).toNat = e + 2 := by omega
theorem tiF1 : Sg.ti 207 = some (1, false) := by kernel_rfl
theorem tiF2 : Sg.ti 192 = some (1, false) := by kernel_rfl
theorem tiF3 : Sg.ti 193 = some (1, false) := by kernel_rfl
attribute [local go_sem] tn1 tn2 Nat.sub_zero tiF1 tiF2 tiF3 fnV
attribute [local go_sem] Int.toNat_natCast vP vf0 vf1 vf2 vf3 vf4 vf5 vf6 vf7 vf8 vf9 vf10 vf11 vf12 vf13 vf14

def chgV (g : Nat) : PV := .fn 185 1 (fun _ => 1) (fun _ _ => fnV g)
theorem fn_le {g n : Nat} {sz sz' : Nat → Nat} {f f' : Nat → Nat → PV} (h : ∀ i, i < n → sz i = sz' i ∧ ∀ j, j < sz i → PV.le (f i j) (f' i j)) : PV.le (.fn g n sz f) (.fn g n sz' f') := fun _ _ u ⟨vs, e, hs, hb⟩ => by
  refine ⟨vs, e, hs, fun i hi => ?_⟩
  obtain ⟨b, o, h1, h2, h3⟩ := hb i hi
  obtain ⟨q1, q2⟩ := h i hi
  refine ⟨b, o, h1, h2, fun j hj => ?_⟩
  rw [← q1] at hj
  obtain ⟨x, x1, x2, x3⟩ := h3 j hj
  exact ⟨x, x1, x2, q2 j hj _ _ _ x3⟩
theorem changed_sp (g : Nat) : Pure Sg 134 [.c (.p (.val (.func (.func g) #[] #[])))] (fun x => x = .b (.c (.p (chgV g)))) := by
  refine pure_le ?_
  refine pure_ofO Tryz.func134 rfl (rs := [.tmp 2]) rfl rfl mixed (by decide +kernel) (Nat.le_of_ble_eq_true rfl) (argsLt_mem (by simp (maxSteps := 1000000) (disch := omega) only [go_sem])) ?_
  repeat' (first | with_reducible exact tr_a | refine un_a ?_ | ((first | refine st_a (fun K hK => ?_) | refine rg_a ?_); (repeat' (refine And.intro ?_ ?_)); (all_goals first | (refine hK _ ?_; clear hK K) | exact auto_cl | skip)) | ((first | apply cw_ite | apply cw_iteN); (case hf => rfl); (case hc => exact ev_a); (all_goals first | (intro hb; (try simp only [hbs] at hb)) | skip)) | exact atN_intro | (refine if_a (fun hb => ?_) (fun hb => ?_); (all_goals (try first | with_reducible exact True.intro | (exfalso; omega)))) | refine cw_blocks (fun KB hB => ?_) | (refine hB _ ?_; clear hB KB) | refine exit_by (S := Sg) (by assumption) ?_ | (refine ret_a ?_; (try clear hB KB); (try clear hK K)))
  simp only [Option.isSome_some, if_true, CV.lt, true_and]
  refine sle_b (ble_c (fn_le fun i hi => ?_))
  have h0 : i = 0 := by omega
  subst h0
  refine ⟨rfl, fun j hj => ?_⟩
  have h0 : j = 0 := by have : j < 1 := hj; omega
  subst h0
  exact fun _ _ _ h => h
def tblL : List (List PV) := [[.val .nilFunc, .val .nilFunc], [fnV 128, fnV 129], [fnV 130, fnV 129],
  [fnV 131, fnV 129], [fnV 132, fnV 129], [fnV 133, chgV 135],
  [fnV 136, chgV 137], [fnV 138, chgV 139], [fnV 140, chgV 141],
  [fnV 142, fnV 143]]
def tblF (i j : Nat) : PV := (tblL.getD i []).getD j .any
theorem table_sp : Pure Sg 75 [] (fun x => x = .b (.c (.p (.lst 2 10 tblF)))) := by
  have h1 := changed_sp 135
  have h2 := changed_sp 137
  have h3 := changed_sp 139
  have h4 := changed_sp 141
  refine pure_le ?_
  refine pure_of Tryz.func75 rfl (rs := [.tmp 0]) rfl rfl mixed (by decide +kernel) (Nat.le_of_ble_eq_true rfl) (argsLt_mem (by simp (maxSteps := 1000000) (disch := omega) only [go_sem])) ?_
  repeat' (first | with_reducible exact tr_a | refine un_a ?_ | ((first | refine st_a (fun K hK => ?_) | refine rg_a ?_ | refine call_c (h1) ?_ | refine gcall_c (fun hg => h1) ?_ | refine call_c (h2) ?_ | refine gcall_c (fun hg => h2) ?_ | refine call_c (h3) ?_ | refine gcall_c (fun hg => h3) ?_ | refine call_c (h4) ?_ | refine gcall_c (fun hg => h4) ?_); (repeat' (refine And.intro ?_ ?_)); (all_goals first | (refine hK _ ?_; clear hK K) | exact auto_cl | skip)) | ((first | apply cw_ite | apply cw_iteN); (case hf => rfl); (case hc => exact ev_a); (all_goals first | (intro hb; (try simp only [hbs] at hb)) | skip)) | exact atN_intro | (refine if_a (fun hb => ?_) (fun hb => ?_); (all_goals (try first | with_reducible exact True.intro | (exfalso; omega)))) | refine cw_blocks (fun KB hB => ?_) | (refine hB _ ?_; clear hB KB) | refine exit_by (S := Sg) (by assumption) ?_ | (refine ret_a ?_; (try clear hB KB); (try clear hK K)))
  refine sle_b (ble_c (lst_leE (sz := 2) (n := 10) fun a ha j hj => ?_))
  have hj2 : j = 0 ∨ j = 1 := by omega
  rcases hj2 with rfl | rfl
  · skip
    have hivl : a = 0 ∨ a = 1 ∨ a = 2 ∨ a = 3 ∨ a = 4 ∨ a = 5 ∨ a = 6 ∨ a = 7 ∨ a = 8 ∨ a = 9 := by omega
    rcases hivl with rfl | rfl | rfl | rfl | rfl | rfl | rfl | rfl | rfl | rfl <;> exact fun _ _ _ h => h
  · skip
    have hivl : a = 0 ∨ a = 1 ∨ a = 2 ∨ a = 3 ∨ a = 4 ∨ a = 5 ∨ a = 6 ∨ a = 7 ∨ a = 8 ∨ a = 9 := by omega
    rcases hivl with rfl | rfl | rfl | rfl | rfl | rfl | rfl | rfl | rfl | rfl <;> exact fun _ _ _ h => h
theorem set_le {l : List Op} {i : Nat} {o : Op} {F : Nat → Nat → PV} (hi : i < l.length) (h1 : ∀ j, j < 12 → F i j = (opE o).getD j .any) (h2 : ∀ a, a ≠ i → ∀ j, F a j = fnOf opE l a j) : PV.le (.lst 12 l.length F) (opL (l.set i o)) := by
  show PV.le _ (PV.lst 12 (l.set i o).length (fnOf opE (l.set i o)))
  rw [List.length_set]
  refine lst_le fun a ha j hj => ?_
  show _ = (opE ((l.set i o).getD a default)).getD j .any
  have e : (l.set i o).getD a default = opAt (l.set i o) a := rfl
  rw [e, opAt_set]
  by_cases h : a = i
  · rw [if_pos ⟨h.symm, ha⟩, h]; exact h1 j hj
  · rw [if_neg (fun q => h q.1.symm)]; exact h2 a h j
theorem bxIns2 (id : Nat) (x y : Bx) (b : Nat → Option Bx) : bxIns id x (bxIns id y b) = bxIns id x b := by
  funext i
  simp only [bxIns]
  split <;> rfl
theorem tab1_inl (bx : Nat → Option Bx) (nx id n i : Nat) (f : Nat → Nat → PV) (o : Op) (hb : bx id = some (.arr 73 12 n f)) (hi : i < n) (hid : id < nx) (hf : ∀ j, j < 12 → f i j = (opE o).getD j .any) :
    ∃ F : Nat → Nat → PV, ((∀ j, j < 12 → F i j = (opE (chgOp 5 o)).getD j .any) ∧ ∀ a, a ≠ i → ∀ j, F a j = f a j) ∧ InlP Sg bx nx 135 [.c (.pel id 12 i 0)] (.tup []) (bxIns id (.arr 73 12 n F) bx) nx := by
  refine ⟨?F, ⟨?h1, ?h2⟩, ?hI⟩
  case hI =>
    refine inl_of Tryz.func135 rfl (rs := []) rfl rfl mixed (by decide +kernel) (Nat.le_of_ble_eq_true rfl) ?_ (fun kf => ?_)
    · intro v hv
      simp only [List.mem_cons, List.not_mem_nil, or_false] at hv
      rcases hv with rfl
      exact hid
    refine cw_last fun K hK => ?_
    simp (maxSteps := 1000000) (disch := omega) only [go_sem, hb]
    repeat' (refine And.intro ?_ ?_)
    all_goals first | exact hi | skip
    refine hK _ ?_
    clear hK
    simp (maxSteps := 1000000) (disch := omega) only [go_sem]
    simp only [bxf_set, bxf_setBox, bxf_newBox, bxf_delBox, nx_set, nx_newBox, nx_setBox, nx_delBox, bx_stI, nx_stI, bxIns2]
    rfl
  case h1 =>
    intro j hj
    show (if i = i then _ else _) = _
    rw [if_pos rfl]
    have hivl : j = 0 ∨ j = 1 ∨ j = 2 ∨ j = 3 ∨ j = 4 ∨ j = 5 ∨ j = 6 ∨ j = 7 ∨ j = 8 ∨ j = 9 ∨ j = 10 ∨ j = 11 := by omega
    rcases hivl with rfl | rfl | rfl | rfl | rfl | rfl | rfl | rfl | rfl | rfl | rfl | rfl <;> first | rfl | exact hf 0 (by decide) | exact hf 1 (by decide) | exact hf 2 (by decide) | exact hf 3 (by decide) | exact hf 4 (by decide) | exact hf 5 (by decide) | exact hf 6 (by decide) | exact hf 7 (by decide) | exact hf 8 (by decide) | exact hf 9 (by decide) | exact hf 10 (by decide) | exact hf 11 (by decide)
  case h2 =>
    intro a ha j
    simp only [if_neg ha]
theorem call_tab1 {st : St} {K : SV → St → Prop} (id n i : Nat) (f : Nat → Nat → PV) (o : Op) (hb : st.bx id = some (.arr 73 12 n f)) (hi : i < n) (hid : id < st.nx) (hf : ∀ j, j < 12 → f i j = (opE o).getD j .any) (hw : WfN 0 st)
    (hK : ∀ F : Nat → Nat → PV, (∀ j, j < 12 → F i j = (opE (chgOp 5 o)).getD j .any) → (∀ a, a ≠ i → ∀ j, F a j = f a j) → K (.tup []) (st.turn (bxIns id (.arr 73 12 n F) st.bx) st.nx)) :
    CallS Sg st 135 [.c (.pel id 12 i 0)] (Sl.of K) := by
  obtain ⟨F, ⟨h1, h2⟩, hI⟩ := tab1_inl st.bx st.nx id n i f o hb hi hid hf
  refine call_inl hI rfl (fun j hj => ?_) (Nat.le_refl _) (hK F h1 h2)
  simp only [bxIns]
  rw [if_neg (by omega)]
  exact hw.1 j hj
theorem chg1_sp (s : Script) (V : VOps s) (i : Nat) (hi : i < s.ops.length) :
    Pure Sg 185 [vP s, I i, .c (.ipt 1 (fun _ => fnV 135) 0)] (fun x => x = .b (.c (.p (opL (s.ops.set i (chgOp 5 (opAt s.ops i))))))) := by
  have hn := V.cnt
  have hc := cloneOps_own s.ops.length (fnOf opE s.ops) (by omega) (fun a ha j hj => by
    have hivl : j = 0 ∨ j = 1 ∨ j = 2 ∨ j = 3 ∨ j = 4 ∨ j = 5 ∨ j = 6 ∨ j = 7 ∨ j = 8 ∨ j = 9 ∨ j = 10 ∨ j = 11 := by omega
    rcases hivl with rfl | rfl | rfl | rfl | rfl | rfl | rfl | rfl | rfl | rfl | rfl | rfl <;> exact ⟨_, rfl⟩)
  refine pure_le ?_
  refine pure_of Tryz.func185 rfl (rs := [.tmp 5]) rfl rfl mixed (by decide +kernel) (Nat.le_of_ble_eq_true rfl) (argsLt_mem (by simp (maxSteps := 1000000) (disch := omega) only [go_sem])) ?_
  repeat' (first | with_reducible exact tr_a | refine un_a ?_ | ((with_reducible refine cw_stepV (id := 1) (fun K hW => ?_)); (try simp (maxSteps := 1000000) (disch := omega) only [go_sem]); (repeat' (refine And.intro ?_ ?_)); (all_goals first | (refine hK _ ?_; clear hK K) | exact auto_cl | skip)) | ((first | refine st_a (fun K hK => ?_) | refine rg_a ?_ | refine call_o (hc) ?_); (repeat' (refine And.intro ?_ ?_)); (all_goals first | (refine hK _ ?_; clear hK K) | exact auto_cl | skip)) | ((first | apply cw_ite | apply cw_iteN); (case hf => rfl); (case hc => exact ev_a); (all_goals first | (intro hb; (try simp only [hbs] at hb)) | skip)) | exact atN_intro | (refine if_a (fun hb => ?_) (fun hb => ?_); (all_goals (try first | with_reducible exact True.intro | (exfalso; omega)))) | refine cw_blocks (fun KB hB => ?_) | (refine hB _ ?_; clear hB KB) | refine exit_by (S := Sg) (by assumption) ?_ | (refine ret_a ?_; (try clear hB KB); (try clear hK K)))
  refine hW _ (mkSt [(0, .b (vP s)), (1, .b (I i)), (2, .b (.c (.ipt 1 (fun _ => fnV 135) 0))), (6, .b (.c (.own 1 s.ops.length)))] [(1, .arr 73 12 s.ops.length (fnOf opE s.ops))] 2) ?_ ?_
  · refine le_a [(1, some 0)] ?_ ?_
    repeat' (refine And.intro ?_ ?_)
    all_goals first | exact le_cl | skip
  clear hW
  refine cw_stepD (by decide +kernel) (by decide +kernel) (fun K hK => ?_)
  simp (maxSteps := 1000000) (disch := omega) only [go_sem]
  refine ⟨⟨by omega, by omega⟩, ?_⟩
  refine call_tab1 1 s.ops.length i (fnOf opE s.ops) (opAt s.ops i) (by simp (maxSteps := 1000000) (disch := omega) only [go_sem]) hi (by simp (maxSteps := 1000000) (disch := omega) only [go_sem]) (fun j hj => rfl) ?_ ?_
  · exact wf_a
  intro F hF1 hF2
  refine hK _ ?_
  clear hK
  repeat' (first | with_reducible exact tr_a | refine un_a ?_ | ((first | refine st_a (fun K hK => ?_) | refine rg_a ?_); (repeat' (refine And.intro ?_ ?_)); (all_goals first | (refine hK _ ?_; clear hK K) | exact auto_cl | skip)) | ((first | apply cw_ite | apply cw_iteN); (case hf => rfl); (case hc => exact ev_a); (all_goals first | (intro hb; (try simp only [hbs] at hb)) | skip)) | exact atN_intro | (refine if_a (fun hb => ?_) (fun hb => ?_); (all_goals (try first | with_reducible exact True.intro | (exfalso; omega)))) | refine cw_blocks (fun KB hB => ?_) | (refine hB _ ?_; clear hB KB) | refine exit_by (S := Sg) (by assumption) ?_ | (refine ret_a ?_; (try clear hB KB); (try clear hK K)))
  refine sle_b (ble_c ?_)
  exact set_le hi hF1 hF2
theorem tab2_inl (bx : Nat → Option Bx) (nx id n i : Nat) (f : Nat → Nat → PV) (o : Op) (hb : bx id = some (.arr 73 12 n f)) (hi : i < n) (hid : id < nx) (hf : ∀ j, j < 12 → f i j = (opE o).getD j .any) :
    ∃ F : Nat → Nat → PV, ((∀ j, j < 12 → F i j = (opE (chgOp 6 o)).getD j .any) ∧ ∀ a, a ≠ i → ∀ j, F a j = f a j) ∧ InlP Sg bx nx 137 [.c (.pel id 12 i 0)] (.tup []) (bxIns id (.arr 73 12 n F) bx) nx := by
  refine ⟨?F, ⟨?h1, ?h2⟩, ?hI⟩
  case hI =>
    refine inl_of Tryz.func137 rfl (rs := []) rfl rfl mixed (by decide +kernel) (Nat.le_of_ble_eq_true rfl) ?_ (fun kf => ?_)
    · intro v hv
      simp only [List.mem_cons, List.not_mem_nil, or_false] at hv
      rcases hv with rfl
      exact hid
    refine cw_last fun K hK => ?_
    simp (maxSteps := 1000000) (disch := omega) only [go_sem, hb]
    repeat' (refine And.intro ?_ ?_)
    all_goals first | exact hi | skip
    refine hK _ ?_
    clear hK
    simp (maxSteps := 1000000) (disch := omega) only [go_sem]
    simp only [bxf_set, bxf_setBox, bxf_newBox, bxf_delBox, nx_set, nx_newBox, nx_setBox, nx_delBox, bx_stI, nx_stI, bxIns2]
    rfl
  case h1 =>
    intro j hj
    show (if i = i then _ else _) = _
    rw [if_pos rfl]
    have hivl : j = 0 ∨ j = 1 ∨ j = 2 ∨ j = 3 ∨ j = 4 ∨ j = 5 ∨ j = 6 ∨ j = 7 ∨ j = 8 ∨ j = 9 ∨ j = 10 ∨ j = 11 := by omega
    rcases hivl with rfl | rfl | rfl | rfl | rfl | rfl | rfl | rfl | rfl | rfl | rfl | rfl <;> first | rfl | exact hf 0 (by decide) | exact hf 1 (by decide) | exact hf 2 (by decide) | exact hf 3 (by decide) | exact hf 4 (by decide) | exact hf 5 (by decide) | exact hf 6 (by decide) | exact hf 7 (by decide) | exact hf 8 (by decide) | exact hf 9 (by decide) | exact hf 10 (by decide) | exact hf 11 (by decide)
  case h2 =>
    intro a ha j
    simp only [if_neg ha]
theorem call_tab2 {st : St} {K : SV → St → Prop} (id n i : Nat) (f : Nat → Nat → PV) (o : Op) (hb : st.bx id = some (.arr 73 12 n f)) (hi : i < n) (hid : id < st.nx) (hf : ∀ j, j < 12 → f i j = (opE o).getD j .any) (hw : WfN 0 st)
    (hK : ∀ F : Nat → Nat → PV, (∀ j, j < 12 → F i j = (opE (chgOp 6 o)).getD j .any) → (∀ a, a ≠ i → ∀ j, F a j = f a j) → K (.tup []) (st.turn (bxIns id (.arr 73 12 n F) st.bx) st.nx)) :
    CallS Sg st 137 [.c (.pel id 12 i 0)] (Sl.of K) := by
  obtain ⟨F, ⟨h1, h2⟩, hI⟩ := tab2_inl st.bx st.nx id n i f o hb hi hid hf
  refine call_inl hI rfl (fun j hj => ?_) (Nat.le_refl _) (hK F h1 h2)
  simp only [bxIns]
  rw [if_neg (by omega)]
  exact hw.1 j hj
theorem chg2_sp (s : Script) (V : VOps s) (i : Nat) (hi : i < s.ops.length) :
    Pure Sg 185 [vP s, I i, .c (.ipt 1 (fun _ => fnV 137) 0)] (fun x => x = .b (.c (.p (opL (s.ops.set i (chgOp 6 (opAt s.ops i))))))) := by
  have hn := V.cnt
  have hc := cloneOps_own s.ops.length (fnOf opE s.ops) (by omega) (fun a ha j hj => by
    have hivl : j = 0 ∨ j = 1 ∨ j = 2 ∨ j = 3 ∨ j = 4 ∨ j = 5 ∨ j = 6 ∨ j = 7 ∨ j = 8 ∨ j = 9 ∨ j = 10 ∨ j = 11 := by omega
    rcases hivl with rfl | rfl | rfl | rfl | rfl | rfl | rfl | rfl | rfl | rfl | rfl | rfl <;> exact ⟨_, rfl⟩)
  refine pure_le ?_
  refine pure_of Tryz.func185 rfl (rs := [.tmp 5]) rfl rfl mixed (by decide +kernel) (Nat.le_of_ble_eq_true rfl) (argsLt_mem (by simp (maxSteps := 1000000) (disch := omega) only [go_sem])) ?_
  repeat' (first | with_reducible exact tr_a | refine un_a ?_ | ((with_reducible refine cw_stepV (id := 1) (fun K hW => ?_)); (try simp (maxSteps := 1000000) (disch := omega) only [go_sem]); (repeat' (refine And.intro ?_ ?_)); (all_goals first | (refine hK _ ?_; clear hK K) | exact auto_cl | skip)) | ((first | refine st_a (fun K hK => ?_) | refine rg_a ?_ | refine call_o (hc) ?_); (repeat' (refine And.intro ?_ ?_)); (all_goals first | (refine hK _ ?_; clear hK K) | exact auto_cl | skip)) | ((first | apply cw_ite | apply cw_iteN); (case hf => rfl); (case hc => exact ev_a); (all_goals first | (intro hb; (try simp only [hbs] at hb)) | skip)) | exact atN_intro | (refine if_a (fun hb => ?_) (fun hb => ?_); (all_goals (try first | with_reducible exact True.intro | (exfalso; omega)))) | refine cw_blocks (fun KB hB => ?_) | (refine hB _ ?_; clear hB KB) | refine exit_by (S := Sg) (by assumption) ?_ | (refine ret_a ?_; (try clear hB KB); (try clear hK K)))
  refine hW _ (mkSt [(0, .b (vP s)), (1, .b (I i)), (2, .b (.c (.ipt 1 (fun _ => fnV 137) 0))), (6, .b (.c (.own 1 s.ops.length)))] [(1, .arr 73 12 s.ops.length (fnOf opE s.ops))] 2) ?_ ?_
  · refine le_a [(1, some 0)] ?_ ?_
    repeat' (refine And.intro ?_ ?_)
    all_goals first | exact le_cl | skip
  clear hW
  refine cw_stepD (by decide +kernel) (by decide +kernel) (fun K hK => ?_)
  simp (maxSteps := 1000000) (disch := omega) only [go_sem]
  refine ⟨⟨by omega, by omega⟩, ?_⟩
  refine call_tab2 1 s.ops.length i (fnOf opE s.ops) (opAt s.ops i) (by simp (maxSteps := 1000000) (disch := omega) only [go_sem]) hi (by simp (maxSteps := 1000000) (disch := omega) only [go_sem]) (fun j hj => rfl) ?_ ?_
  · exact wf_a
  intro F hF1 hF2
  refine hK _ ?_
  clear hK
  repeat' (first | with_reducible exact tr_a | refine un_a ?_ | ((first | refine st_a (fun K hK => ?_) | refine rg_a ?_); (repeat' (refine And.intro ?_ ?_)); (all_goals first | (refine hK _ ?_; clear hK K) | exact auto_cl | skip)) | ((first | apply cw_ite | apply cw_iteN); (case hf => rfl); (case hc => exact ev_a); (all_goals first | (intro hb; (try simp only [hbs] at hb)) | skip)) | exact atN_intro | (refine if_a (fun hb => ?_) (fun hb => ?_); (all_goals (try first | with_reducible exact True.intro | (exfalso; omega)))) | refine cw_blocks (fun KB hB => ?_) | (refine hB _ ?_; clear hB KB) | refine exit_by (S := Sg) (by assumption) ?_ | (refine ret_a ?_; (try clear hB KB); (try clear hK K)))
  refine sle_b (ble_c ?_)
  exact set_le hi hF1 hF2
theorem tab3_inl (bx : Nat → Option Bx) (nx id n i : Nat) (f : Nat → Nat → PV) (o : Op) (hb : bx id = some (.arr 73 12 n f)) (hi : i < n) (hid : id < nx) (hf : ∀ j, j < 12 → f i j = (opE o).getD j .any) :
    ∃ F : Nat → Nat → PV, ((∀ j, j < 12 → F i j = (opE (chgOp 7 o)).getD j .any) ∧ ∀ a, a ≠ i → ∀ j, F a j = f a j) ∧ InlP Sg bx nx 139 [.c (.pel id 12 i 0)] (.tup []) (bxIns id (.arr 73 12 n F) bx) nx := by
  refine ⟨?F, ⟨?h1, ?h2⟩, ?hI⟩
  case hI =>
    refine inl_of Tryz.func139 rfl (rs := []) rfl rfl mixed (by decide +kernel) (Nat.le_of_ble_eq_true rfl) ?_ (fun kf => ?_)
    · intro v hv
      simp only [List.mem_cons, List.not_mem_nil, or_false] at hv
      rcases hv with rfl
      exact hid
    refine cw_last fun K hK => ?_
    simp (maxSteps := 1000000) (disch := omega) only [go_sem, hb]
    repeat' (refine And.intro ?_ ?_)
    all_goals first | exact hi | skip
    refine hK _ ?_
    clear hK
    simp (maxSteps := 1000000) (disch := omega) only [go_sem]
    simp only [bxf_set, bxf_setBox, bxf_newBox, bxf_delBox, nx_set, nx_newBox, nx_setBox, nx_delBox, bx_stI, nx_stI, bxIns2]
    rfl
  case h1 =>
    intro j hj
    show (if i = i then _ else _) = _
    rw [if_pos rfl]
    have hivl : j = 0 ∨ j = 1 ∨ j = 2 ∨ j = 3 ∨ j = 4 ∨ j = 5 ∨ j = 6 ∨ j = 7 ∨ j = 8 ∨ j = 9 ∨ j = 10 ∨ j = 11 := by omega
    rcases hivl with rfl | rfl | rfl | rfl | rfl | rfl | rfl | rfl | rfl | rfl | rfl | rfl <;> first | rfl | exact hf 0 (by decide) | exact hf 1 (by decide) | exact hf 2 (by decide) | exact hf 3 (by decide) | exact hf 4 (by decide) | exact hf 5 (by decide) | exact hf 6 (by decide) | exact hf 7 (by decide) | exact hf 8 (by decide) | exact hf 9 (by decide) | exact hf 10 (by decide) | exact hf 11 (by decide)
  case h2 =>
    intro a ha j
    simp only [if_neg ha]
theorem call_tab3 {st : St} {K : SV → St → Prop} (id n i : Nat) (f : Nat → Nat → PV) (o : Op) (hb : st.bx id = some (.arr 73 12 n f)) (hi : i < n) (hid : id < st.nx) (hf : ∀ j, j < 12 → f i j = (opE o).getD j .any) (hw : WfN 0 st)
    (hK : ∀ F : Nat → Nat → PV, (∀ j, j < 12 → F i j = (opE (chgOp 7 o)).getD j .any) → (∀ a, a ≠ i → ∀ j, F a j = f a j) → K (.tup []) (st.turn (bxIns id (.arr 73 12 n F) st.bx) st.nx)) :
    CallS Sg st 139 [.c (.pel id 12 i 0)] (Sl.of K) := by
  obtain ⟨F, ⟨h1, h2⟩, hI⟩ := tab3_inl st.bx st.nx id n i f o hb hi hid hf
  refine call_inl hI rfl (fun j hj => ?_) (Nat.le_refl _) (hK F h1 h2)
  simp only [bxIns]
  rw [if_neg (by omega)]
  exact hw.1 j hj
theorem chg3_sp (s : Script) (V : VOps s) (i : Nat) (hi : i < s.ops.length) :
    Pure Sg 185 [vP s, I i, .c (.ipt 1 (fun _ => fnV 139) 0)] (fun x => x = .b (.c (.p (opL (s.ops.set i (chgOp 7 (opAt s.ops i))))))) := by
  have hn := V.cnt
  have hc := cloneOps_own s.ops.length (fnOf opE s.ops) (by omega) (fun a ha j hj => by
    have hivl : j = 0 ∨ j = 1 ∨ j = 2 ∨ j = 3 ∨ j = 4 ∨ j = 5 ∨ j = 6 ∨ j = 7 ∨ j = 8 ∨ j = 9 ∨ j = 10 ∨ j = 11 := by omega
    rcases hivl with rfl | rfl | rfl | rfl | rfl | rfl | rfl | rfl | rfl | rfl | rfl | rfl <;> exact ⟨_, rfl⟩)
  refine pure_le ?_
  refine pure_of Tryz.func185 rfl (rs := [.tmp 5]) rfl rfl mixed (by decide +kernel) (Nat.le_of_ble_eq_true rfl) (argsLt_mem (by simp (maxSteps := 1000000) (disch := omega) only [go_sem])) ?_
  repeat' (first | with_reducible exact tr_a | refine un_a ?_ | ((with_reducible refine cw_stepV (id := 1) (fun K hW => ?_)); (try simp (maxSteps := 1000000) (disch := omega) only [go_sem]); (repeat' (refine And.intro ?_ ?_)); (all_goals first | (refine hK _ ?_; clear hK K) | exact auto_cl | skip)) | ((first | refine st_a (fun K hK => ?_) | refine rg_a ?_ | refine call_o (hc) ?_); (repeat' (refine And.intro ?_ ?_)); (all_goals first | (refine hK _ ?_; clear hK K) | exact auto_cl | skip)) | ((first | apply cw_ite | apply cw_iteN); (case hf => rfl); (case hc => exact ev_a); (all_goals first | (intro hb; (try simp only [hbs] at hb)) | skip)) | exact atN_intro | (refine if_a (fun hb => ?_) (fun hb => ?_); (all_goals (try first | with_reducible exact True.intro | (exfalso; omega)))) | refine cw_blocks (fun KB hB => ?_) | (refine hB _ ?_; clear hB KB) | refine exit_by (S := Sg) (by assumption) ?_ | (refine ret_a ?_; (try clear hB KB); (try clear hK K)))
  refine hW _ (mkSt [(0, .b (vP s)), (1, .b (I i)), (2, .b (.c (.ipt 1 (fun _ => fnV 139) 0))), (6, .b (.c (.own 1 s.ops.length)))] [(1, .arr 73 12 s.ops.length (fnOf opE s.ops))] 2) ?_ ?_
  · refine le_a [(1, some 0)] ?_ ?_
    repeat' (refine And.intro ?_ ?_)
    all_goals first | exact le_cl | skip
  clear hW
  refine cw_stepD (by decide +kernel) (by decide +kernel) (fun K hK => ?_)
  simp (maxSteps := 1000000) (disch := omega) only [go_sem]
  refine ⟨⟨by omega, by omega⟩, ?_⟩
  refine call_tab3 1 s.ops.length i (fnOf opE s.ops) (opAt s.ops i) (by simp (maxSteps := 1000000) (disch := omega) only [go_sem]) hi (by simp (maxSteps := 1000000) (disch := omega) only [go_sem]) (fun j hj => rfl) ?_ ?_
  · exact wf_a
  intro F hF1 hF2
  refine hK _ ?_
  clear hK
  repeat' (first | with_reducible exact tr_a | refine un_a ?_ | ((first | refine st_a (fun K hK => ?_) | refine rg_a ?_); (repeat' (refine And.intro ?_ ?_)); (all_goals first | (refine hK _ ?_; clear hK K) | exact auto_cl | skip)) | ((first | apply cw_ite | apply cw_iteN); (case hf => rfl); (case hc => exact ev_a); (all_goals first | (intro hb; (try simp only [hbs] at hb)) | skip)) | exact atN_intro | (refine if_a (fun hb => ?_) (fun hb => ?_); (all_goals (try first | with_reducible exact True.intro | (exfalso; omega)))) | refine cw_blocks (fun KB hB => ?_) | (refine hB _ ?_; clear hB KB) | refine exit_by (S := Sg) (by assumption) ?_ | (refine ret_a ?_; (try clear hB KB); (try clear hK K)))
  refine sle_b (ble_c ?_)
  exact set_le hi hF1 hF2
theorem tab4_inl (bx : Nat → Option Bx) (nx id n i : Nat) (f : Nat → Nat → PV) (o : Op) (hb : bx id = some (.arr 73 12 n f)) (hi : i < n) (hid : id < nx) (hf : ∀ j, j < 12 → f i j = (opE o).getD j .any) :
    ∃ F : Nat → Nat → PV, ((∀ j, j < 12 → F i j = (opE (chgOp 8 o)).getD j .any) ∧ ∀ a, a ≠ i → ∀ j, F a j = f a j) ∧ InlP Sg bx nx 141 [.c (.pel id 12 i 0)] (.tup []) (bxIns id (.arr 73 12 n F) bx) nx := by
  refine ⟨?F, ⟨?h1, ?h2⟩, ?hI⟩
  case hI =>
    refine inl_of Tryz.func141 rfl (rs := []) rfl rfl mixed (by decide +kernel) (Nat.le_of_ble_eq_true rfl) ?_ (fun kf => ?_)
    · intro v hv
      simp only [List.mem_cons, List.not_mem_nil, or_false] at hv
      rcases hv with rfl
      exact hid
    refine cw_last fun K hK => ?_
    simp (maxSteps := 1000000) (disch := omega) only [go_sem, hb]
    repeat' (refine And.intro ?_ ?_)
    all_goals first | exact hi | skip
    refine hK _ ?_
    clear hK
    simp (maxSteps := 1000000) (disch := omega) only [go_sem]
    simp only [bxf_set, bxf_setBox, bxf_newBox, bxf_delBox, nx_set, nx_newBox, nx_setBox, nx_delBox, bx_stI, nx_stI, bxIns2]
    rfl
  case h1 =>
    intro j hj
    show (if i = i then _ else _) = _
    rw [if_pos rfl]
    have hivl : j = 0 ∨ j = 1 ∨ j = 2 ∨ j = 3 ∨ j = 4 ∨ j = 5 ∨ j = 6 ∨ j = 7 ∨ j = 8 ∨ j = 9 ∨ j = 10 ∨ j = 11 := by omega
    rcases hivl with rfl | rfl | rfl | rfl | rfl | rfl | rfl | rfl | rfl | rfl | rfl | rfl <;> first | rfl | exact hf 0 (by decide) | exact hf 1 (by decide) | exact hf 2 (by decide) | exact hf 3 (by decide) | exact hf 4 (by decide) | exact hf 5 (by decide) | exact hf 6 (by decide) | exact hf 7 (by decide) | exact hf 8 (by decide) | exact hf 9 (by decide) | exact hf 10 (by decide) | exact hf 11 (by decide)
  case h2 =>
    intro a ha j
    simp only [if_neg ha]
theorem call_tab4 {st : St} {K : SV → St → Prop} (id n i : Nat) (f : Nat → Nat → PV) (o : Op) (hb : st.bx id = some (.arr 73 12 n f)) (hi : i < n) (hid : id < st.nx) (hf : ∀ j, j < 12 → f i j = (opE o).getD j .any) (hw : WfN 0 st)
    (hK : ∀ F : Nat → Nat → PV, (∀ j, j < 12 → F i j = (opE (chgOp 8 o)).getD j .any) → (∀ a, a ≠ i → ∀ j, F a j = f a j) → K (.tup []) (st.turn (bxIns id (.arr 73 12 n F) st.bx) st.nx)) :
    CallS Sg st 141 [.c (.pel id 12 i 0)] (Sl.of K) := by
  obtain ⟨F, ⟨h1, h2⟩, hI⟩ := tab4_inl st.bx st.nx id n i f o hb hi hid hf
  refine call_inl hI rfl (fun j hj => ?_) (Nat.le_refl _) (hK F h1 h2)
  simp only [bxIns]
  rw [if_neg (by omega)]
  exact hw.1 j hj
theorem chg4_sp (s : Script) (V : VOps s) (i : Nat) (hi : i < s.ops.length) :
    Pure Sg 185 [vP s, I i, .c (.ipt 1 (fun _ => fnV 141) 0)] (fun x => x = .b (.c (.p (opL (s.ops.set i (chgOp 8 (opAt s.ops i))))))) := by
  have hn := V.cnt
  have hc := cloneOps_own s.ops.length (fnOf opE s.ops) (by omega) (fun a ha j hj => by
    have hivl : j = 0 ∨ j = 1 ∨ j = 2 ∨ j = 3 ∨ j = 4 ∨ j = 5 ∨ j = 6 ∨ j = 7 ∨ j = 8 ∨ j = 9 ∨ j = 10 ∨ j = 11 := by omega
    rcases hivl with rfl | rfl | rfl | rfl | rfl | rfl | rfl | rfl | rfl | rfl | rfl | rfl <;> exact ⟨_, rfl⟩)
  refine pure_le ?_
  refine pure_of Tryz.func185 rfl (rs := [.tmp 5]) rfl rfl mixed (by decide +kernel) (Nat.le_of_ble_eq_true rfl) (argsLt_mem (by simp (maxSteps := 1000000) (disch := omega) only [go_sem])) ?_
  repeat' (first | with_reducible exact tr_a | refine un_a ?_ | ((with_reducible refine cw_stepV (id := 1) (fun K hW => ?_)); (try simp (maxSteps := 1000000) (disch := omega) only [go_sem]); (repeat' (refine And.intro ?_ ?_)); (all_goals first | (refine hK _ ?_; clear hK K) | exact auto_cl | skip)) | ((first | refine st_a (fun K hK => ?_) | refine rg_a ?_ | refine call_o (hc) ?_); (repeat' (refine And.intro ?_ ?_)); (all_goals first | (refine hK _ ?_; clear hK K) | exact auto_cl | skip)) | ((first | apply cw_ite | apply cw_iteN); (case hf => rfl); (case hc => exact ev_a); (all_goals first | (intro hb; (try simp only [hbs] at hb)) | skip)) | exact atN_intro | (refine if_a (fun hb => ?_) (fun hb => ?_); (all_goals (try first | with_reducible exact True.intro | (exfalso; omega)))) | refine cw_blocks (fun KB hB => ?_) | (refine hB _ ?_; clear hB KB) | refine exit_by (S := Sg) (by assumption) ?_ | (refine ret_a ?_; (try clear hB KB); (try clear hK K)))
  refine hW _ (mkSt [(0, .b (vP s)), (1, .b (I i)), (2, .b (.c (.ipt 1 (fun _ => fnV 141) 0))), (6, .b (.c (.own 1 s.ops.length)))] [(1, .arr 73 12 s.ops.length (fnOf opE s.ops))] 2) ?_ ?_
  · refine le_a [(1, some 0)] ?_ ?_
    repeat' (refine And.intro ?_ ?_)
    all_goals first | exact le_cl | skip
  clear hW
  refine cw_stepD (by decide +kernel) (by decide +kernel) (fun K hK => ?_)
  simp (maxSteps := 1000000) (disch := omega) only [go_sem]
  refine ⟨⟨by omega, by omega⟩, ?_⟩
  refine call_tab4 1 s.ops.length i (fnOf opE s.ops) (opAt s.ops i) (by simp (maxSteps := 1000000) (disch := omega) only [go_sem]) hi (by simp (maxSteps := 1000000) (disch := omega) only [go_sem]) (fun j hj => rfl) ?_ ?_
  · exact wf_a
  intro F hF1 hF2
  refine hK _ ?_
  clear hK
  repeat' (first | with_reducible exact tr_a | refine un_a ?_ | ((first | refine st_a (fun K hK => ?_) | refine rg_a ?_); (repeat' (refine And.intro ?_ ?_)); (all_goals first | (refine hK _ ?_; clear hK K) | exact auto_cl | skip)) | ((first | apply cw_ite | apply cw_iteN); (case hf => rfl); (case hc => exact ev_a); (all_goals first | (intro hb; (try simp only [hbs] at hb)) | skip)) | exact atN_intro | (refine if_a (fun hb => ?_) (fun hb => ?_); (all_goals (try first | with_reducible exact True.intro | (exfalso; omega)))) | refine cw_blocks (fun KB hB => ?_) | (refine hB _ ?_; clear hB KB) | refine exit_by (S := Sg) (by assumption) ?_ | (refine ret_a ?_; (try clear hB KB); (try clear hK K)))
  refine sle_b (ble_c ?_)
  exact set_le hi hF1 hF2
theorem removed_sp (s : Script) (V : VOps s) (i : Nat) (hi : i < s.ops.length) : Pure Sg 129 [vP s, I i] (fun x => x = .b (.c (.p (opL (cutOps s i))))) := by
  have hn := V.cnt
  have W := V.wf
  have hel := ends_lt W hi
  have hge := ends_ge W hi
  have hc := cloneOps_own i (fun a j => fnOf opE s.ops (0 + a) j) (by omega) (fun a ha j hj => by
    have hivl : j = 0 ∨ j = 1 ∨ j = 2 ∨ j = 3 ∨ j = 4 ∨ j = 5 ∨ j = 6 ∨ j = 7 ∨ j = 8 ∨ j = 9 ∨ j = 10 ∨ j = 11 := by omega
    rcases hivl with rfl | rfl | rfl | rfl | rfl | rfl | rfl | rfl | rfl | rfl | rfl | rfl <;> exact ⟨_, rfl⟩)
  refine pure_le ?_
  refine pure_of Tryz.func129 rfl (rs := [.tmp 4]) rfl rfl mixed (by decide +kernel) (Nat.le_of_ble_eq_true rfl) (argsLt_mem (by simp (maxSteps := 1000000) (disch := omega) only [go_sem])) ?_
  repeat' (first | with_reducible exact tr_a | refine un_a ?_ | ((with_reducible refine cw_stepV (id := 0) (fun K hW => ?_)); (try simp (maxSteps := 1000000) (disch := omega) only [go_sem]); (repeat' (refine And.intro ?_ ?_)); (all_goals first | (refine hK _ ?_; clear hK K) | exact auto_cl | skip)) | ((first | refine st_a (fun K hK => ?_) | refine rg_a ?_); (repeat' (refine And.intro ?_ ?_)); (all_goals first | (refine hK _ ?_; clear hK K) | exact auto_cl | skip)) | ((first | apply cw_ite | apply cw_iteN); (case hf => rfl); (case hc => exact ev_a); (all_goals first | (intro hb; (try simp only [hbs] at hb)) | skip)) | exact atN_intro | (refine if_a (fun hb => ?_) (fun hb => ?_); (all_goals (try first | with_reducible exact True.intro | (exfalso; omega)))) | refine cw_blocks (fun KB hB => ?_) | (refine hB _ ?_; clear hB KB) | refine exit_by (S := Sg) (by assumption) ?_ | (refine ret_a ?_; (try clear hB KB); (try clear hK K)))
  refine hW _ (mkSt [(0, .b (vP s)), (1, .b (I i))] [] 1) ?_ ?_
  · refine le_a [] ?_ ?_
    repeat' (refine And.intro ?_ ?_)
    all_goals first | exact le_cl | skip
  clear hW
  refine cw_stepR (id := 1) (.br 0 (.br 1 (.br 2 (.br 3 (.br 4 (.br 5 (.br 6 (.br 8 (.br 9 (.br 10 (.br 11 (.br 13 (.br 14 (.br 15 (.br 17 (.br 7 (.br 12 (.br 16 (.br 18 (.br 19 (.br 20 (.br 21 (.br 22 (.br 23 .leaf .nil) .nil) .nil) .nil) .nil) .nil) .nil) .nil) (.br 12 (.br 7 (.br 16 (.br 18 (.br 19 (.br 20 (.br 21 (.br 22 (.br 23 .leaf .nil) .nil) .nil) .nil) .nil) .nil) .nil) (.br 16 (.br 18 (.br 7 (.br 19 (.br 20 (.br 21 (.br 22 (.br 23 .leaf .nil) .nil) .nil) .nil) .nil) (.br 19 (.br 20 (.br 21 (.br 7 (.br 22 (.br 23 .leaf .nil) .nil) .nil) .nil) .nil) .nil)) .nil) .nil)) (.br 16 (.br 18 (.br 7 (.br 12 (.br 19 (.br 20 (.br 21 (.br 22 (.br 23 .leaf .nil) .nil) .nil) .nil) .nil) .nil) (.br 12 (.br 7 (.br 19 (.br 20 (.br 21 (.br 22 (.br 23 .leaf .nil) .nil) .nil) .nil) .nil) (.br 19 (.br 20 (.br 21 (.br 7 (.br 22 (.br 23 .leaf .nil) .nil) .nil) .nil) .nil) .nil)) (.br 19 (.br 20 (.br 7 (.br 12 (.br 21 (.br 22 (.br 23 .leaf .nil) .nil) .nil) .nil) (.br 12 (.br 21 (.br 7 (.br 22 (.br 23 .leaf .nil) .nil) .nil) .nil) .nil)) .nil) .nil))) .nil) .nil))) .nil) .nil) .nil) .nil) .nil) .nil) .nil) .nil) .nil) .nil) .nil) .nil) .nil) .nil) .nil) (by decide +kernel) (by exact wf_a) (fun K0 hW => ?_)
  refine (fun (tl : ∀ st, Le st (mkSt [(4, .b (.c (.own 1 (i + (s.ops.length - (endsM s.ops i + 1))))))] [(1, .arr 73 12 (i + (s.ops.length - (endsM s.ops i + 1))) (appF i (fun a j => fnOf opE s.ops (0 + a) j) (fun a j => fnOf opE s.ops (endsM s.ops i + 1 + a) j)))] 2) → K0 st) => ?_) (fun st hl => hW st _ hl ?_)
  · clear hW
    repeat' (first | exact tree_nil | (refine tree_br (fun K' hK' => ?_) ?_) | (refine tree_leaf (tl _ ?_); clear tl) | ((first | refine call_o (hc) ?_); (try simp (maxSteps := 1000000) (disch := omega) only [go_sem]); (repeat' (refine And.intro ?_ ?_)); (all_goals first | (refine hK' _ ?_; clear hK' K') | trivial | omega | exact Nat.le_of_ble_eq_true rfl | exact auto_cl | skip)) | (simp (maxSteps := 1000000) (disch := omega) only [go_sem]; (repeat' (refine And.intro ?_ ?_)); (all_goals first | (refine hK' _ ?_; clear hK' K') | trivial | omega | exact Nat.le_of_ble_eq_true rfl | exact auto_cl | skip)))
    all_goals
      refine le_a [(1, some 2)] ?_ ?_
      repeat' (refine And.intro ?_ ?_)
      all_goals first | exact le_cl | skip
  clear hW
  repeat' (first | with_reducible exact tr_a | refine un_a ?_ | ((first | refine st_a (fun K hK => ?_) | refine rg_a ?_); (repeat' (refine And.intro ?_ ?_)); (all_goals first | (refine hK _ ?_; clear hK K) | exact auto_cl | skip)) | ((first | apply cw_ite | apply cw_iteN); (case hf => rfl); (case hc => exact ev_a); (all_goals first | (intro hb; (try simp only [hbs] at hb)) | skip)) | exact atN_intro | (refine if_a (fun hb => ?_) (fun hb => ?_); (all_goals (try first | with_reducible exact True.intro | (exfalso; omega)))) | refine cw_blocks (fun KB hB => ?_) | (refine hB _ ?_; clear hB KB) | refine exit_by (S := Sg) (by assumption) ?_ | (refine ret_a ?_; (try clear hB KB); (try clear hK K)))
  refine sle_b (ble_c ?_)
  have hl : (cutOps s i).length = i + (s.ops.length - (endsM s.ops i + 1)) := by
    rw [cutOps, List.length_append, List.length_take, List.length_drop]; omega
  show PV.le _ (PV.lst 12 (cutOps s i).length (fnOf opE (cutOps s i)))
  rw [hl]
  refine lst_le fun a ha j hj => ?_
  have hg : (cutOps s i).getD a default = if a < i then s.ops.getD (0 + a) default else s.ops.getD (endsM s.ops i + 1 + (a - i)) default := by
    rw [cutOps, List.getD_eq_getElem?_getD, List.getElem?_append, List.length_take, Nat.min_eq_left (Nat.le_of_lt hi)]
    split
    · rename_i h; rw [List.getElem?_take_of_lt h, Nat.zero_add, List.getD_eq_getElem?_getD]
    · rw [List.getElem?_drop, List.getD_eq_getElem?_getD]
  show _ = (opE ((cutOps s i).getD a default)).getD j .any
  rw [hg]
  unfold appF
  split <;> rfl
theorem app_pt {n m : Nat} {f g : Nat → Nat → PV} {a b : List Op} (hn : a.length = n) (hf : ∀ x, x < n → ∀ j, j < 12 → f x j = fnOf opE a x j) (hg : ∀ x, x < m → ∀ j, j < 12 → g x j = fnOf opE b x j) (x : Nat) (hx : x < n + m) (j : Nat) (hj : j < 12) :
    appF n f g x j = fnOf opE (a ++ b) x j := by
  unfold appF
  by_cases h : x < n
  · rw [if_pos h, hf x h j hj]
    exact congrArg (fun o => (opE o).getD j .any) (show a.getD x default = (a ++ b).getD x default by rw [List.getD_eq_getElem?_getD, List.getD_eq_getElem?_getD, List.getElem?_append_left (by omega)])
  · rw [if_neg h, hg (x - n) (by omega) j hj]
    exact congrArg (fun o => (opE o).getD j .any) (show b.getD (x - n) default = (a ++ b).getD x default by rw [List.getD_eq_getElem?_getD, List.getD_eq_getElem?_getD, List.getElem?_append_right (by omega), hn])
theorem opL_pt {n : Nat} {f : Nat → Nat → PV} {l : List Op} (hn : n = l.length) (h : ∀ x, x < n → ∀ j, j < 12 → f x j = fnOf opE l x j) : PV.le (.lst 12 n f) (opL l) := by
  subst hn
  exact lst_le h
theorem take_pt {l : List Op} {i x j : Nat} (h : x < i) : fnOf opE l (0 + x) j = fnOf opE (l.take i) x j := by
  exact congrArg (fun o => (opE o).getD j .any) (show l.getD (0 + x) default = (l.take i).getD x default by rw [List.getD_eq_getElem?_getD, List.getD_eq_getElem?_getD, List.getElem?_take_of_lt h, Nat.zero_add])
theorem drop_pt {l : List Op} {k x j : Nat} : fnOf opE l (k + x) j = fnOf opE (l.drop k) x j := by
  exact congrArg (fun o => (opE o).getD j .any) (show l.getD (k + x) default = (l.drop k).getD x default by rw [List.getD_eq_getElem?_getD, List.getD_eq_getElem?_getD, List.getElem?_drop])
theorem one_pt {o : Op} {x j : Nat} (h : x < 1) : (opE o).getD j .any = fnOf opE [o] x j := by
  have : x = 0 := by omega
  subst this; rfl
theorem app1_le {i : Nat} {f g g' : Nat → Nat → PV} (h : ∀ j, j < 12 → g 0 j = g' 0 j) : ∀ a, a < i + 1 → ∀ j, j < 12 → PV.le (appF i f g a j) (appF i f g' a j) := fun a ha j hj => by
  unfold appF
  by_cases hi : a < i
  · rw [if_pos hi, if_pos hi]; exact fun _ _ _ h => h
  · rw [if_neg hi, if_neg hi, show a - i = 0 by omega, h j hj]; exact fun _ _ _ h => h
theorem unw_fin {s : Script} {i : Nat} (W : Wf s.ops) (hi : i < s.ops.length) (hge : i + 2 ≤ endsM s.ops i) (hel : endsM s.ops i < s.ops.length) :
    PV.le (.lst 12 (i + 1 + (endsM s.ops i - (i + 2)) + (s.ops.length - (endsM s.ops i + 1)))
      (appF (i + 1 + (endsM s.ops i - (i + 2))) (appF (i + 1) (appF i (fun a j => fnOf opE s.ops (0 + a) j) (fun _ j => (opE (unwOp s i)).getD j .any)) (fun a j => fnOf opE s.ops (i + 2 + a) j)) (fun a j => fnOf opE s.ops (endsM s.ops i + 1 + a) j))) (opL (unwOps s i)) := by
  have l1 : (s.ops.take i).length = i := by rw [List.length_take]; omega
  have l2 : (s.ops.take i ++ [unwOp s i]).length = i + 1 := by rw [List.length_append, l1]; rfl
  have l3 : (s.ops.take i ++ [unwOp s i] ++ (s.ops.take (endsM s.ops i)).drop (i + 2)).length = i + 1 + (endsM s.ops i - (i + 2)) := by rw [List.length_append, l2, List.length_drop, List.length_take]; omega
  refine opL_pt ?_ ?_
  · rw [unwOps, List.length_append, l3, List.length_drop]
  · refine app_pt l3 (app_pt l2 (app_pt l1 (fun x hx j hj => take_pt hx) (fun x hx j hj => one_pt hx)) (fun x hx j hj => ?_)) (fun x hx j hj => drop_pt)
    exact congrArg (fun o => (opE o).getD j .any) (show s.ops.getD (i + 2 + x) default = ((s.ops.take (endsM s.ops i)).drop (i + 2)).getD x default by
      rw [List.getD_eq_getElem?_getD, List.getD_eq_getElem?_getD, List.getElem?_drop, List.getElem?_take_of_lt (by omega)])
theorem unwrapped_sp (s : Script) (V : VOps s) (i : Nat) (hi : i < s.ops.length) (hk : (opAt s.ops i).kind = 2) (h1 : 1 ≤ kidsM s.ops i) : Pure Sg 143 [vP s, I i] (fun x => x = .b (.c (.p (opL (unwOps s i))))) := by
  have hn := V.cnt
  have W := V.wf
  have hel := ends_lt W hi
  obtain ⟨hge, hk3⟩ := kid_next W hi hk h1
  have hc := cloneOps_own i (fun a j => fnOf opE s.ops (0 + a) j) (by omega) (fun a ha j hj => by
    have hivl : j = 0 ∨ j = 1 ∨ j = 2 ∨ j = 3 ∨ j = 4 ∨ j = 5 ∨ j = 6 ∨ j = 7 ∨ j = 8 ∨ j = 9 ∨ j = 10 ∨ j = 11 := by omega
    rcases hivl with rfl | rfl | rfl | rfl | rfl | rfl | rfl | rfl | rfl | rfl | rfl | rfl <;> exact ⟨_, rfl⟩)
  have hu := unscaled_sp s (opAt s.ops (i + 1))
  refine pure_le ?_
  refine pure_of Tryz.func143 rfl (rs := [.tmp 4]) rfl rfl mixed (by decide +kernel) (Nat.le_of_ble_eq_true rfl) (argsLt_mem (by simp (maxSteps := 1000000) (disch := omega) only [go_sem])) ?_
  repeat' (first | with_reducible exact tr_a | refine un_a ?_ | ((with_reducible refine cw_stepV (id := 0) (fun K hW => ?_)); (try simp (maxSteps := 1000000) (disch := omega) only [go_sem]); (repeat' (refine And.intro ?_ ?_)); (all_goals first | (refine hK _ ?_; clear hK K) | exact auto_cl | skip)) | ((first | refine st_a (fun K hK => ?_) | refine rg_a ?_); (repeat' (refine And.intro ?_ ?_)); (all_goals first | (refine hK _ ?_; clear hK K) | exact auto_cl | skip)) | ((first | apply cw_ite | apply cw_iteN); (case hf => rfl); (case hc => exact ev_a); (all_goals first | (intro hb; (try simp only [hbs] at hb)) | skip)) | exact atN_intro | (refine if_a (fun hb => ?_) (fun hb => ?_); (all_goals (try first | with_reducible exact True.intro | (exfalso; omega)))) | refine cw_blocks (fun KB hB => ?_) | (refine hB _ ?_; clear hB KB) | refine exit_by (S := Sg) (by assumption) ?_ | (refine ret_a ?_; (try clear hB KB); (try clear hK K)))
  refine hW _ (mkSt [(0, .b (vP s)), (1, .b (I i))] [] 1) ?_ ?_
  · refine le_a [] ?_ ?_
    repeat' (refine And.intro ?_ ?_)
    all_goals first | exact le_cl | skip
  clear hW
  refine cw_stepR (id := 1) (.br 0 (.br 1 (.br 2 (.br 3 (.br 4 (.br 5 (.br 6 (.br 7 (.br 8 (.br 9 (.br 10 (.br 11 (.br 13 (.br 14 (.br 12 (.br 15 (.br 16 (.br 17 (.br 18 (.br 19 (.br 20 .leaf .nil) .nil) .nil) (.br 18 (.br 17 (.br 19 (.br 20 .leaf .nil) .nil) .nil) .nil)) (.br 17 (.br 16 (.br 18 (.br 19 (.br 20 .leaf .nil) .nil) .nil) (.br 18 (.br 16 (.br 19 (.br 20 .leaf .nil) .nil) (.br 19 (.br 16 (.br 20 .leaf .nil) .nil) .nil)) .nil)) (.br 18 (.br 16 (.br 17 (.br 19 (.br 20 .leaf .nil) .nil) .nil) (.br 17 (.br 16 (.br 19 (.br 20 .leaf .nil) .nil) (.br 19 (.br 16 (.br 20 .leaf .nil) .nil) .nil)) .nil)) .nil))) .nil) (.br 17 (.br 12 (.br 15 (.br 16 (.br 18 (.br 19 (.br 20 .leaf .nil) .nil) .nil) (.br 18 (.br 16 (.br 19 (.br 20 .leaf .nil) .nil) (.br 19 (.br 16 (.br 20 .leaf .nil) .nil) .nil)) .nil)) .nil) (.br 18 (.br 12 (.br 15 (.br 16 (.br 19 (.br 20 .leaf .nil) .nil) (.br 19 (.br 16 (.br 20 .leaf .nil) .nil) .nil)) .nil) (.br 19 (.br 12 (.br 15 (.br 16 (.br 20 .leaf .nil) .nil) .nil) .nil) .nil)) .nil)) (.br 18 (.br 12 (.br 15 (.br 16 (.br 17 (.br 19 (.br 20 .leaf .nil) .nil) .nil) (.br 17 (.br 16 (.br 19 (.br 20 .leaf .nil) .nil) (.br 19 (.br 16 (.br 20 .leaf .nil) .nil) .nil)) .nil)) .nil) (.br 17 (.br 12 (.br 15 (.br 16 (.br 19 (.br 20 .leaf .nil) .nil) (.br 19 (.br 16 (.br 20 .leaf .nil) .nil) .nil)) .nil) (.br 19 (.br 12 (.br 15 (.br 16 (.br 20 .leaf .nil) .nil) .nil) .nil) .nil)) .nil)) .nil))) .nil) .nil) .nil) .nil) .nil) .nil) .nil) .nil) .nil) .nil) .nil) .nil) .nil) .nil) (by decide +kernel) (by exact wf_a) (fun K0 hW => ?_)
  refine (fun (tl : ∀ st, Le st (mkSt [(0, .b (vP s)), (1, .b (I i)), (5, .b (.c (.ptr 1 0))), (6, .b (.c (.ptr 2 0)))] [(1, .fix ((opE (opAt s.ops i)).map CV.p)), (2, .fix ((opE (opAt s.ops (i + 1))).map CV.p))] 3) → K0 st) => ?_) (fun st hl => hW st _ hl ?_)
  · clear hW
    repeat' (first | exact tree_nil | (refine tree_br (fun K' hK' => ?_) ?_) | (refine tree_leaf (tl _ ?_); clear tl) | (simp (maxSteps := 1000000) (disch := omega) only [go_sem]; (repeat' (refine And.intro ?_ ?_)); (all_goals first | (refine hK' _ ?_; clear hK' K') | trivial | omega | exact Nat.le_of_ble_eq_true rfl | exact auto_cl | skip)))
    all_goals first | (refine le_of [(1, some 1), (2, some 2)] rfl (by decide) rfl ?_ ?_; (all_goals (simp (maxSteps := 1000000) (disch := omega) only [go_sem])); (repeat' (refine And.intro ?_ ?_)); (all_goals first | rfl | omega | exact .inl rfl | trivial | skip); done) | (refine le_of [(1, some 2), (2, some 1)] rfl (by decide) rfl ?_ ?_; (all_goals (simp (maxSteps := 1000000) (disch := omega) only [go_sem])); (repeat' (refine And.intro ?_ ?_)); (all_goals first | rfl | omega | exact .inl rfl | trivial | skip); done)
  clear hW
  unfold opAt at hu
  rcases Bool.eq_false_or_eq_true (unscM s (s.ops.getD (i + 1) default)) with hu1 | hu1 <;> by_cases hk2 : (opAt s.ops (i + 1)).kind = 2
  · have hun : ∃ o, o = unwOp s i ∧ o = { opAt s.ops (i + 1) with mask := (opAt s.ops i).mask, maskX := (opAt s.ops i).maskX, maskY := (opAt s.ops i).maskY, opacity := (opAt s.ops i).opacity, operator := (opAt s.ops i).operator, mode := (opAt s.ops i).mode, isolated := true } := by
      refine ⟨_, rfl, ?_⟩
      unfold unwOp unw1
      rw [if_pos (show unscM s (opAt s.ops (i + 1)) = true from hu1)]
      exact if_pos hk2
    obtain ⟨o, ho, hun⟩ := hun
    have hk4 : ((opAt s.ops (i + 1)).kind == 2) = true := beq_iff_eq.2 hk2
    have hk3 : ((s.ops.getD (i + 1) default).kind == 2) = true := hk4
    repeat' (first | with_reducible exact tr_a | refine dec_a (And.intro hu1 (And.intro hk3 hk4)) ?_ | ((first | ((with_reducible refine cw_stepDK (id := 3) [(28, 5), (30, 5), (32, 5), (34, 5), (36, 6), (37, 6), (38, 6), (39, 6)] (by decide +kernel) (by decide +kernel) ?_ (fun K hK => ?_)); exact wf_a) | ((with_reducible refine cw_lastDK (id := 3) [(28, 5), (30, 5), (32, 5), (34, 5), (36, 6), (37, 6), (38, 6), (39, 6)] (by decide +kernel) (by decide +kernel) ?_ (fun K hK => ?_)); exact wf_a)); (try simp (maxSteps := 1000000) (disch := omega) only [go_sem]); (repeat' (refine And.intro ?_ ?_)); (all_goals first | (refine hK _ (by simp (maxSteps := 1000000) (disch := omega) only [go_sem]) ?_; clear hK K) | exact auto_cl | skip)) | ((first | ((with_reducible refine cw_stepDK (id := 4) [(40, 5), (42, 5), (44, 6), (45, 6)] (by decide +kernel) (by decide +kernel) ?_ (fun K hK => ?_)); exact wf_a) | ((with_reducible refine cw_lastDK (id := 4) [(40, 5), (42, 5), (44, 6), (45, 6)] (by decide +kernel) (by decide +kernel) ?_ (fun K hK => ?_)); exact wf_a)); (try simp (maxSteps := 1000000) (disch := omega) only [go_sem]); (repeat' (refine And.intro ?_ ?_)); (all_goals first | (refine hK _ (by simp (maxSteps := 1000000) (disch := omega) only [go_sem]) ?_; clear hK K) | exact auto_cl | skip)) | refine un_a ?_ | ((first | refine st_a (fun K hK => ?_) | refine rg_a ?_ | refine call_c (hu) ?_ | refine gcall_c (fun hg => hu) ?_); (repeat' (refine And.intro ?_ ?_)); (all_goals first | (refine hK _ ?_; clear hK K) | exact auto_cl | skip)) | ((first | apply cw_ite | apply cw_iteN); (case hf => rfl); (case hc => exact ev_a); (all_goals first | (intro hb; (try simp only [hbs] at hb)) | skip)) | exact atN_intro | (refine if_a (fun hb => ?_) (fun hb => ?_); (all_goals (try first | with_reducible exact True.intro | (exfalso; omega)))) | refine cw_blocks (fun KB hB => ?_) | (refine hB _ ?_; clear hB KB) | refine exit_by (S := Sg) (by assumption) ?_ | (refine ret_a ?_; (try clear hB KB); (try clear hK K)))
    refine cw_stepR (id := 7) (.br 0 (.br 1 (.br 2 (.br 3 (.br 4 (.br 5 (.br 6 (.br 7 (.br 8 (.br 9 (.br 10 (.br 11 .leaf .nil) .nil) .nil) .nil) (.br 8 (.br 7 (.br 9 (.br 10 (.br 11 .leaf .nil) .nil) .nil) (.br 9 (.br 7 (.br 10 (.br 11 .leaf .nil) .nil) .nil) .nil)) .nil)) .nil) .nil) .nil) .nil) .nil) .nil) .nil) (by decide +kernel) (by exact wf_a) (fun K0 hW => ?_)
    refine (fun (tl : ∀ st, Le st (mkSt [(0, .b (vP s)), (1, .b (I i)), (7, .b (.c (.own 1 (i + 1))))] [(1, .arr 73 12 (i + 1) (appF i (fun a j => fnOf opE s.ops (0 + a) j) (fun _ j => (opE (unwOp s i)).getD j .any)))] 2) → K0 st) => ?_) (fun st hl => hW st _ hl ?_)
    · clear hW
      repeat' (first | exact tree_nil | (refine tree_br (fun K' hK' => ?_) ?_) | (refine tree_leaf (tl _ ?_); clear tl) | ((first | refine call_o (hc) ?_); (try simp (maxSteps := 1000000) (disch := omega) only [go_sem]); (repeat' (refine And.intro ?_ ?_)); (all_goals first | (refine hK' _ ?_; clear hK' K') | trivial | omega | exact Nat.le_of_ble_eq_true rfl | exact auto_cl | skip)) | (simp (maxSteps := 1000000) (disch := omega) only [go_sem]; (repeat' (refine And.intro ?_ ?_)); (all_goals first | (refine hK' _ ?_; clear hK' K') | trivial | omega | exact Nat.le_of_ble_eq_true rfl | exact auto_cl | skip)))
      all_goals
        rw [← ho, hun]
        refine le_a [(1, some 5)] ?_ ?_
        repeat' (refine And.intro ?_ ?_)
        all_goals first | exact le_cl | skip
      all_goals
        refine .inr (app1_le fun j hj => ?_)
        have hivl : j = 0 ∨ j = 1 ∨ j = 2 ∨ j = 3 ∨ j = 4 ∨ j = 5 ∨ j = 6 ∨ j = 7 ∨ j = 8 ∨ j = 9 ∨ j = 10 ∨ j = 11 := by omega
        rcases hivl with rfl | rfl | rfl | rfl | rfl | rfl | rfl | rfl | rfl | rfl | rfl | rfl <;> rfl
    clear hW
    repeat' (first | with_reducible exact tr_a | refine un_a ?_ | ((first | refine st_a (fun K hK => ?_) | refine rg_a ?_); (repeat' (refine And.intro ?_ ?_)); (all_goals first | (refine hK _ ?_; clear hK K) | exact auto_cl | skip)) | ((first | apply cw_ite | apply cw_iteN); (case hf => rfl); (case hc => exact ev_a); (all_goals first | (intro hb; (try simp only [hbs] at hb)) | skip)) | exact atN_intro | (refine if_a (fun hb => ?_) (fun hb => ?_); (all_goals (try first | with_reducible exact True.intro | (exfalso; omega)))) | refine cw_blocks (fun KB hB => ?_) | (refine hB _ ?_; clear hB KB) | refine exit_by (S := Sg) (by assumption) ?_ | (refine ret_a ?_; (try clear hB KB); (try clear hK K)))
    exact sle_b (ble_c (unw_fin W hi hge hel))
  · have hun : ∃ o, o = unwOp s i ∧ o = { opAt s.ops (i + 1) with mask := (opAt s.ops i).mask, maskX := (opAt s.ops i).maskX, maskY := (opAt s.ops i).maskY, opacity := (opAt s.ops i).opacity, operator := (opAt s.ops i).operator, mode := (opAt s.ops i).mode } := by
      refine ⟨_, rfl, ?_⟩
      unfold unwOp unw1
      rw [if_pos (show unscM s (opAt s.ops (i + 1)) = true from hu1)]
      exact if_neg hk2
    obtain ⟨o, ho, hun⟩ := hun
    have hk4 : ((opAt s.ops (i + 1)).kind == 2) = false := beq_eq_false_iff_ne.2 hk2
    have hk3 : ((s.ops.getD (i + 1) default).kind == 2) = false := hk4
    repeat' (first | with_reducible exact tr_a | refine dec_a (And.intro hu1 (And.intro hk3 hk4)) ?_ | ((first | ((with_reducible refine cw_stepDK (id := 3) [(28, 5), (30, 5), (32, 5), (34, 5), (36, 6), (37, 6), (38, 6), (39, 6)] (by decide +kernel) (by decide +kernel) ?_ (fun K hK => ?_)); exact wf_a) | ((with_reducible refine cw_lastDK (id := 3) [(28, 5), (30, 5), (32, 5), (34, 5), (36, 6), (37, 6), (38, 6), (39, 6)] (by decide +kernel) (by decide +kernel) ?_ (fun K hK => ?_)); exact wf_a)); (try simp (maxSteps := 1000000) (disch := omega) only [go_sem]); (repeat' (refine And.intro ?_ ?_)); (all_goals first | (refine hK _ (by simp (maxSteps := 1000000) (disch := omega) only [go_sem]) ?_; clear hK K) | exact auto_cl | skip)) | ((first | ((with_reducible refine cw_stepDK (id := 4) [(40, 5), (42, 5), (44, 6), (45, 6)] (by decide +kernel) (by decide +kernel) ?_ (fun K hK => ?_)); exact wf_a) | ((with_reducible refine cw_lastDK (id := 4) [(40, 5), (42, 5), (44, 6), (45, 6)] (by decide +kernel) (by decide +kernel) ?_ (fun K hK => ?_)); exact wf_a)); (try simp (maxSteps := 1000000) (disch := omega) only [go_sem]); (repeat' (refine And.intro ?_ ?_)); (all_goals first | (refine hK _ (by simp (maxSteps := 1000000) (disch := omega) only [go_sem]) ?_; clear hK K) | exact auto_cl | skip)) | refine un_a ?_ | ((first | refine st_a (fun K hK => ?_) | refine rg_a ?_ | refine call_c (hu) ?_ | refine gcall_c (fun hg => hu) ?_); (repeat' (refine And.intro ?_ ?_)); (all_goals first | (refine hK _ ?_; clear hK K) | exact auto_cl | skip)) | ((first | apply cw_ite | apply cw_iteN); (case hf => rfl); (case hc => exact ev_a); (all_goals first | (intro hb; (try simp only [hbs] at hb)) | skip)) | exact atN_intro | (refine if_a (fun hb => ?_) (fun hb => ?_); (all_goals (try first | with_reducible exact True.intro | (exfalso; omega)))) | refine cw_blocks (fun KB hB => ?_) | (refine hB _ ?_; clear hB KB) | refine exit_by (S := Sg) (by assumption) ?_ | (refine ret_a ?_; (try clear hB KB); (try clear hK K)))
    refine cw_stepR (id := 7) (.br 0 (.br 1 (.br 2 (.br 3 (.br 4 (.br 5 (.br 6 (.br 7 (.br 8 (.br 9 (.br 10 (.br 11 .leaf .nil) .nil) .nil) .nil) (.br 8 (.br 7 (.br 9 (.br 10 (.br 11 .leaf .nil) .nil) .nil) (.br 9 (.br 7 (.br 10 (.br 11 .leaf .nil) .nil) .nil) .nil)) .nil)) .nil) .nil) .nil) .nil) .nil) .nil) .nil) (by decide +kernel) (by exact wf_a) (fun K0 hW => ?_)
    refine (fun (tl : ∀ st, Le st (mkSt [(0, .b (vP s)), (1, .b (I i)), (7, .b (.c (.own 1 (i + 1))))] [(1, .arr 73 12 (i + 1) (appF i (fun a j => fnOf opE s.ops (0 + a) j) (fun _ j => (opE (unwOp s i)).getD j .any)))] 2) → K0 st) => ?_) (fun st hl => hW st _ hl ?_)
    · clear hW
      repeat' (first | exact tree_nil | (refine tree_br (fun K' hK' => ?_) ?_) | (refine tree_leaf (tl _ ?_); clear tl) | ((first | refine call_o (hc) ?_); (try simp (maxSteps := 1000000) (disch := omega) only [go_sem]); (repeat' (refine And.intro ?_ ?_)); (all_goals first | (refine hK' _ ?_; clear hK' K') | trivial | omega | exact Nat.le_of_ble_eq_true rfl | exact auto_cl | skip)) | (simp (maxSteps := 1000000) (disch := omega) only [go_sem]; (repeat' (refine And.intro ?_ ?_)); (all_goals first | (refine hK' _ ?_; clear hK' K') | trivial | omega | exact Nat.le_of_ble_eq_true rfl | exact auto_cl | skip)))
      all_goals
        rw [← ho, hun]
        refine le_a [(1, some 5)] ?_ ?_
        repeat' (refine And.intro ?_ ?_)
        all_goals first | exact le_cl | skip
      all_goals
        refine .inr (app1_le fun j hj => ?_)
        have hivl : j = 0 ∨ j = 1 ∨ j = 2 ∨ j = 3 ∨ j = 4 ∨ j = 5 ∨ j = 6 ∨ j = 7 ∨ j = 8 ∨ j = 9 ∨ j = 10 ∨ j = 11 := by omega
        rcases hivl with rfl | rfl | rfl | rfl | rfl | rfl | rfl | rfl | rfl | rfl | rfl | rfl <;> rfl
    clear hW
    repeat' (first | with_reducible exact tr_a | refine un_a ?_ | ((first | refine st_a (fun K hK => ?_) | refine rg_a ?_); (repeat' (refine And.intro ?_ ?_)); (all_goals first | (refine hK _ ?_; clear hK K) | exact auto_cl | skip)) | ((first | apply cw_ite | apply cw_iteN); (case hf => rfl); (case hc => exact ev_a); (all_goals first | (intro hb; (try simp only [hbs] at hb)) | skip)) | exact atN_intro | (refine if_a (fun hb => ?_) (fun hb => ?_); (all_goals (try first | with_reducible exact True.intro | (exfalso; omega)))) | refine cw_blocks (fun KB hB => ?_) | (refine hB _ ?_; clear hB KB) | refine exit_by (S := Sg) (by assumption) ?_ | (refine ret_a ?_; (try clear hB KB); (try clear hK K)))
    exact sle_b (ble_c (unw_fin W hi hge hel))
  · have hun : ∃ o, o = unwOp s i ∧ o = { opAt s.ops (i + 1) with operator := (opAt s.ops i).operator, mode := (opAt s.ops i).mode, isolated := true } := by
      refine ⟨_, rfl, ?_⟩
      unfold unwOp unw1
      rw [if_neg (show ¬ unscM s (opAt s.ops (i + 1)) = true by unfold opAt; rw [hu1]; decide)]
      exact if_pos hk2
    obtain ⟨o, ho, hun⟩ := hun
    have hk4 : ((opAt s.ops (i + 1)).kind == 2) = true := beq_iff_eq.2 hk2
    have hk3 : ((s.ops.getD (i + 1) default).kind == 2) = true := hk4
    repeat' (first | with_reducible exact tr_a | refine dec_a (And.intro hu1 (And.intro hk3 hk4)) ?_ | ((first | ((with_reducible refine cw_stepDK (id := 3) [(28, 5), (30, 5), (32, 5), (34, 5), (36, 6), (37, 6), (38, 6), (39, 6)] (by decide +kernel) (by decide +kernel) ?_ (fun K hK => ?_)); exact wf_a) | ((with_reducible refine cw_lastDK (id := 3) [(28, 5), (30, 5), (32, 5), (34, 5), (36, 6), (37, 6), (38, 6), (39, 6)] (by decide +kernel) (by decide +kernel) ?_ (fun K hK => ?_)); exact wf_a)); (try simp (maxSteps := 1000000) (disch := omega) only [go_sem]); (repeat' (refine And.intro ?_ ?_)); (all_goals first | (refine hK _ (by simp (maxSteps := 1000000) (disch := omega) only [go_sem]) ?_; clear hK K) | exact auto_cl | skip)) | ((first | ((with_reducible refine cw_stepDK (id := 4) [(40, 5), (42, 5), (44, 6), (45, 6)] (by decide +kernel) (by decide +kernel) ?_ (fun K hK => ?_)); exact wf_a) | ((with_reducible refine cw_lastDK (id := 4) [(40, 5), (42, 5), (44, 6), (45, 6)] (by decide +kernel) (by decide +kernel) ?_ (fun K hK => ?_)); exact wf_a)); (try simp (maxSteps := 1000000) (disch := omega) only [go_sem]); (repeat' (refine And.intro ?_ ?_)); (all_goals first | (refine hK _ (by simp (maxSteps := 1000000) (disch := omega) only [go_sem]) ?_; clear hK K) | exact auto_cl | skip)) | refine un_a ?_ | ((first | refine st_a (fun K hK => ?_) | refine rg_a ?_ | refine call_c (hu) ?_ | refine gcall_c (fun hg => hu) ?_); (repeat' (refine And.intro ?_ ?_)); (all_goals first | (refine hK _ ?_; clear hK K) | exact auto_cl | skip)) | ((first | apply cw_ite | apply cw_iteN); (case hf => rfl); (case hc => exact ev_a); (all_goals first | (intro hb; (try simp only [hbs] at hb)) | skip)) | exact atN_intro | (refine if_a (fun hb => ?_) (fun hb => ?_); (all_goals (try first | with_reducible exact True.intro | (exfalso; omega)))) | refine cw_blocks (fun KB hB => ?_) | (refine hB _ ?_; clear hB KB) | refine exit_by (S := Sg) (by assumption) ?_ | (refine ret_a ?_; (try clear hB KB); (try clear hK K)))
    refine cw_stepR (id := 7) (.br 0 (.br 1 (.br 2 (.br 3 (.br 4 (.br 5 (.br 6 (.br 7 (.br 8 (.br 9 (.br 10 (.br 11 .leaf .nil) .nil) .nil) .nil) (.br 8 (.br 7 (.br 9 (.br 10 (.br 11 .leaf .nil) .nil) .nil) (.br 9 (.br 7 (.br 10 (.br 11 .leaf .nil) .nil) .nil) .nil)) .nil)) .nil) .nil) .nil) .nil) .nil) .nil) .nil) (by decide +kernel) (by exact wf_a) (fun K0 hW => ?_)
    refine (fun (tl : ∀ st, Le st (mkSt [(0, .b (vP s)), (1, .b (I i)), (7, .b (.c (.own 1 (i + 1))))] [(1, .arr 73 12 (i + 1) (appF i (fun a j => fnOf opE s.ops (0 + a) j) (fun _ j => (opE (unwOp s i)).getD j .any)))] 2) → K0 st) => ?_) (fun st hl => hW st _ hl ?_)
    · clear hW
      repeat' (first | exact tree_nil | (refine tree_br (fun K' hK' => ?_) ?_) | (refine tree_leaf (tl _ ?_); clear tl) | ((first | refine call_o (hc) ?_); (try simp (maxSteps := 1000000) (disch := omega) only [go_sem]); (repeat' (refine And.intro ?_ ?_)); (all_goals first | (refine hK' _ ?_; clear hK' K') | trivial | omega | exact Nat.le_of_ble_eq_true rfl | exact auto_cl | skip)) | (simp (maxSteps := 1000000) (disch := omega) only [go_sem]; (repeat' (refine And.intro ?_ ?_)); (all_goals first | (refine hK' _ ?_; clear hK' K') | trivial | omega | exact Nat.le_of_ble_eq_true rfl | exact auto_cl | skip)))
      all_goals
        rw [← ho, hun]
        refine le_a [(1, some 5)] ?_ ?_
        repeat' (refine And.intro ?_ ?_)
        all_goals first | exact le_cl | skip
      all_goals
        refine .inr (app1_le fun j hj => ?_)
        have hivl : j = 0 ∨ j = 1 ∨ j = 2 ∨ j = 3 ∨ j = 4 ∨ j = 5 ∨ j = 6 ∨ j = 7 ∨ j = 8 ∨ j = 9 ∨ j = 10 ∨ j = 11 := by omega
        rcases hivl with rfl | rfl | rfl | rfl | rfl | rfl | rfl | rfl | rfl | rfl | rfl | rfl <;> rfl
    clear hW
    repeat' (first | with_reducible exact tr_a | refine un_a ?_ | ((first | refine st_a (fun K hK => ?_) | refine rg_a ?_); (repeat' (refine And.intro ?_ ?_)); (all_goals first | (refine hK _ ?_; clear hK K) | exact auto_cl | skip)) | ((first | apply cw_ite | apply cw_iteN); (case hf => rfl); (case hc => exact ev_a); (all_goals first | (intro hb; (try simp only [hbs] at hb)) | skip)) | exact atN_intro | (refine if_a (fun hb => ?_) (fun hb => ?_); (all_goals (try first | with_reducible exact True.intro | (exfalso; omega)))) | refine cw_blocks (fun KB hB => ?_) | (refine hB _ ?_; clear hB KB) | refine exit_by (S := Sg) (by assumption) ?_ | (refine ret_a ?_; (try clear hB KB); (try clear hK K)))
    exact sle_b (ble_c (unw_fin W hi hge hel))
  · have hun : ∃ o, o = unwOp s i ∧ o = { opAt s.ops (i + 1) with operator := (opAt s.ops i).operator, mode := (opAt s.ops i).mode } := by
      refine ⟨_, rfl, ?_⟩
      unfold unwOp unw1
      rw [if_neg (show ¬ unscM s (opAt s.ops (i + 1)) = true by unfold opAt; rw [hu1]; decide)]
      exact if_neg hk2
    obtain ⟨o, ho, hun⟩ := hun
    have hk4 : ((opAt s.ops (i + 1)).kind == 2) = false := beq_eq_false_iff_ne.2 hk2
    have hk3 : ((s.ops.getD (i + 1) default).kind == 2) = false := hk4
    repeat' (first | with_reducible exact tr_a | refine dec_a (And.intro hu1 (And.intro hk3 hk4)) ?_ | ((first | ((with_reducible refine cw_stepDK (id := 3) [(28, 5), (30, 5), (32, 5), (34, 5), (36, 6), (37, 6), (38, 6), (39, 6)] (by decide +kernel) (by decide +kernel) ?_ (fun K hK => ?_)); exact wf_a) | ((with_reducible refine cw_lastDK (id := 3) [(28, 5), (30, 5), (32, 5), (34, 5), (36, 6), (37, 6), (38, 6), (39, 6)] (by decide +kernel) (by decide +kernel) ?_ (fun K hK => ?_)); exact wf_a)); (try simp (maxSteps := 1000000) (disch := omega) only [go_sem]); (repeat' (refine And.intro ?_ ?_)); (all_goals first | (refine hK _ (by simp (maxSteps := 1000000) (disch := omega) only [go_sem]) ?_; clear hK K) | exact auto_cl | skip)) | ((first | ((with_reducible refine cw_stepDK (id := 4) [(40, 5), (42, 5), (44, 6), (45, 6)] (by decide +kernel) (by decide +kernel) ?_ (fun K hK => ?_)); exact wf_a) | ((with_reducible refine cw_lastDK (id := 4) [(40, 5), (42, 5), (44, 6), (45, 6)] (by decide +kernel) (by decide +kernel) ?_ (fun K hK => ?_)); exact wf_a)); (try simp (maxSteps := 1000000) (disch := omega) only [go_sem]); (repeat' (refine And.intro ?_ ?_)); (all_goals first | (refine hK _ (by simp (maxSteps := 1000000) (disch := omega) only [go_sem]) ?_; clear hK K) | exact auto_cl | skip)) | refine un_a ?_ | ((first | refine st_a (fun K hK => ?_) | refine rg_a ?_ | refine call_c (hu) ?_ | refine gcall_c (fun hg => hu) ?_); (repeat' (refine And.intro ?_ ?_)); (all_goals first | (refine hK _ ?_; clear hK K) | exact auto_cl | skip)) | ((first | apply cw_ite | apply cw_iteN); (case hf => rfl); (case hc => exact ev_a); (all_goals first | (intro hb; (try simp only [hbs] at hb)) | skip)) | exact atN_intro | (refine if_a (fun hb => ?_) (fun hb => ?_); (all_goals (try first | with_reducible exact True.intro | (exfalso; omega)))) | refine cw_blocks (fun KB hB => ?_) | (refine hB _ ?_; clear hB KB) | refine exit_by (S := Sg) (by assumption) ?_ | (refine ret_a ?_; (try clear hB KB); (try clear hK K)))
    refine cw_stepR (id := 7) (.br 0 (.br 1 (.br 2 (.br 3 (.br 4 (.br 5 (.br 6 (.br 7 (.br 8 (.br 9 (.br 10 (.br 11 .leaf .nil) .nil) .nil) .nil) (.br 8 (.br 7 (.br 9 (.br 10 (.br 11 .leaf .nil) .nil) .nil) (.br 9 (.br 7 (.br 10 (.br 11 .leaf .nil) .nil) .nil) .nil)) .nil)) .nil) .nil) .nil) .nil) .nil) .nil) .nil) (by decide +kernel) (by exact wf_a) (fun K0 hW => ?_)
    refine (fun (tl : ∀ st, Le st (mkSt [(0, .b (vP s)), (1, .b (I i)), (7, .b (.c (.own 1 (i + 1))))] [(1, .arr 73 12 (i + 1) (appF i (fun a j => fnOf opE s.ops (0 + a) j) (fun _ j => (opE (unwOp s i)).getD j .any)))] 2) → K0 st) => ?_) (fun st hl => hW st _ hl ?_)
    · clear hW
      repeat' (first | exact tree_nil | (refine tree_br (fun K' hK' => ?_) ?_) | (refine tree_leaf (tl _ ?_); clear tl) | ((first | refine call_o (hc) ?_); (try simp (maxSteps := 1000000) (disch := omega) only [go_sem]); (repeat' (refine And.intro ?_ ?_)); (all_goals first | (refine hK' _ ?_; clear hK' K') | trivial | omega | exact Nat.le_of_ble_eq_true rfl | exact auto_cl | skip)) | (simp (maxSteps := 1000000) (disch := omega) only [go_sem]; (repeat' (refine And.intro ?_ ?_)); (all_goals first | (refine hK' _ ?_; clear hK' K') | trivial | omega | exact Nat.le_of_ble_eq_true rfl | exact auto_cl | skip)))
      all_goals
        rw [← ho, hun]
        refine le_a [(1, some 5)] ?_ ?_
        repeat' (refine And.intro ?_ ?_)
        all_goals first | exact le_cl | skip
      all_goals
        refine .inr (app1_le fun j hj => ?_)
        have hivl : j = 0 ∨ j = 1 ∨ j = 2 ∨ j = 3 ∨ j = 4 ∨ j = 5 ∨ j = 6 ∨ j = 7 ∨ j = 8 ∨ j = 9 ∨ j = 10 ∨ j = 11 := by omega
        rcases hivl with rfl | rfl | rfl | rfl | rfl | rfl | rfl | rfl | rfl | rfl | rfl | rfl <;> rfl
    clear hW
    repeat' (first | with_reducible exact tr_a | refine un_a ?_ | ((first | refine st_a (fun K hK => ?_) | refine rg_a ?_); (repeat' (refine And.intro ?_ ?_)); (all_goals first | (refine hK _ ?_; clear hK K) | exact auto_cl | skip)) | ((first | apply cw_ite | apply cw_iteN); (case hf => rfl); (case hc => exact ev_a); (all_goals first | (intro hb; (try simp only [hbs] at hb)) | skip)) | exact atN_intro | (refine if_a (fun hb => ?_) (fun hb => ?_); (all_goals (try first | with_reducible exact True.intro | (exfalso; omega)))) | refine cw_blocks (fun KB hB => ?_) | (refine hB _ ?_; clear hB KB) | refine exit_by (S := Sg) (by assumption) ?_ | (refine ret_a ?_; (try clear hB KB); (try clear hK K)))
    exact sle_b (ble_c (unw_fin W hi hge hel))
end Go.Proofs.YtbpplplnkgmhlaaGreatDoor

/- The rules as one: where a rule applies, all redexes, the first one, rewriting. -/
set_option maxHeartbeats 2000000
set_option maxRecDepth 16000
namespace Go.Proofs.YtbpplplnkgmhlaaGreatDoor
open Go Go.SL
open Go.RowKit (wrap64)
attribute [local go_sem] Int.toNat_natCast vP vf0 vf1 vf2 vf3 vf4 vf5 vf6 vf7 vf8 vf9 vf10 vf11 vf12 vf13 vf14 tiF1 tiF2 tiF3

theorem flR0 : Sg.fld 195 0 = some (0, 1, false) := by kernel_rfl
theorem flR1 : Sg.fld 195 1 = some (1, 1, false) := by kernel_rfl
theorem elR : Sg.el 140 = some (none, 195, 2, true) := by kernel_rfl
attribute [local go_sem] flR0 flR1 elR
theorem applies_sp (s : Script) (V : VOps s) (hs : ScriptLen s) (n i : Int) : Pure Sg 76 [vP s, I n, I i] (fun x => x = .b (B (apM s n i))) := by
  have hn := V.cnt
  refine pure_of Tryz.func76 rfl (rs := [.tmp 6]) rfl rfl mixed (by decide +kernel) (Nat.le_of_ble_eq_true rfl) (argsLt_mem (by simp (maxSteps := 1000000) (disch := omega) only [go_sem])) ?_
  repeat' (first | with_reducible exact tr_a | refine un_a ?_ | ((first | refine st_a (fun K hK => ?_) | refine rg_a ?_ | refine call_c (table_sp) ?_ | refine gcall_c (fun hg => table_sp) ?_); (repeat' (refine And.intro ?_ ?_)); (all_goals first | (refine hK _ ?_; clear hK K) | exact auto_cl | skip)) | ((first | apply cw_ite | apply cw_iteN); (case hf => rfl); (case hc => exact ev_a); (all_goals first | (intro hb; (try simp only [hbs] at hb)) | skip)) | exact atN_intro | (refine if_a (fun hb => ?_) (fun hb => ?_); (all_goals (try first | with_reducible exact True.intro | (exfalso; omega)))) | refine cw_blocks (fun KB hB => ?_) | (refine hB _ ?_; clear hB KB) | refine exit_by (S := Sg) (by assumption) ?_ | (refine ret_a ?_; (try clear hB KB); (try clear hK K)))
  refine rgs_split (B false) ?_ ?_ trivial ?_ (fun hg => ?_) (fun hg => ?_)
  · rfl
  · rfl
  · first | (simp (maxSteps := 1000000) (disch := omega) only [go_sem]; done) | (simp (maxSteps := 1000000) (disch := omega) only [go_sem]; rfl)
  · simp only [Bool.and_eq_true, decide_eq_true_eq, bne_iff_ne, ne_eq, ge_iff_le] at hg
    obtain ⟨⟨⟨⟨g1, g2⟩, g3⟩, g4⟩, h3⟩ := hg
    obtain ⟨k, rfl⟩ := Int.eq_ofNat_of_zero_le g3
    have hk : k < s.ops.length := by omega
    have h3 : (opAt s.ops k).kind ≠ 3 := h3
    have g2 : n < 10 := g2
    have hv : n = 1 ∨ n = 2 ∨ n = 3 ∨ n = 4 ∨ n = 5 ∨ n = 6 ∨ n = 7 ∨ n = 8 ∨ n = 9 := by omega
    rcases hv with rfl | rfl | rfl | rfl | rfl | rfl | rfl | rfl | rfl
    · have hsp := invisible_sp s V hs k hk h3
      have ht : tblF (Int.toNat 1) 0 = fnV 128 := rfl
      simp (maxSteps := 1000000) (disch := omega) only [go_sem, ht, fnV]
      refine ⟨⟨⟨⟨⟨by decide, by decide⟩, g3⟩, g4⟩, h3⟩, ?_⟩
      refine call_a hsp ?_
      simp (maxSteps := 1000000) (disch := omega) only [go_sem]
      refine hK _ ?_
      clear hK
      repeat' (first | with_reducible exact tr_a | refine un_a ?_ | ((first | refine st_a (fun K hK => ?_) | refine rg_a ?_); (repeat' (refine And.intro ?_ ?_)); (all_goals first | (refine hK _ ?_; clear hK K) | exact auto_cl | skip)) | ((first | apply cw_ite | apply cw_iteN); (case hf => rfl); (case hc => exact ev_a); (all_goals first | (intro hb; (try simp only [hbs] at hb)) | skip)) | exact atN_intro | (refine if_a (fun hb => ?_) (fun hb => ?_); (all_goals (try first | with_reducible exact True.intro | (exfalso; omega)))) | refine cw_blocks (fun KB hB => ?_) | (refine hB _ ?_; clear hB KB) | refine exit_by (S := Sg) (by assumption) ?_ | (refine ret_a ?_; (try clear hB KB); (try clear hK K)))
      exact vb rfl
    · have hsp := dst_sp s V k hk
      have ht : tblF (Int.toNat 2) 0 = fnV 130 := rfl
      simp (maxSteps := 1000000) (disch := omega) only [go_sem, ht, fnV]
      refine ⟨⟨⟨⟨⟨by decide, by decide⟩, g3⟩, g4⟩, h3⟩, ?_⟩
      refine call_a hsp ?_
      simp (maxSteps := 1000000) (disch := omega) only [go_sem]
      refine hK _ ?_
      clear hK
      repeat' (first | with_reducible exact tr_a | refine un_a ?_ | ((first | refine st_a (fun K hK => ?_) | refine rg_a ?_); (repeat' (refine And.intro ?_ ?_)); (all_goals first | (refine hK _ ?_; clear hK K) | exact auto_cl | skip)) | ((first | apply cw_ite | apply cw_iteN); (case hf => rfl); (case hc => exact ev_a); (all_goals first | (intro hb; (try simp only [hbs] at hb)) | skip)) | exact atN_intro | (refine if_a (fun hb => ?_) (fun hb => ?_); (all_goals (try first | with_reducible exact True.intro | (exfalso; omega)))) | refine cw_blocks (fun KB hB => ?_) | (refine hB _ ?_; clear hB KB) | refine exit_by (S := Sg) (by assumption) ?_ | (refine ret_a ?_; (try clear hB KB); (try clear hK K)))
      exact vb rfl
    · have hsp := nothing_sp s V k hk
      have ht : tblF (Int.toNat 3) 0 = fnV 131 := rfl
      simp (maxSteps := 1000000) (disch := omega) only [go_sem, ht, fnV]
      refine ⟨⟨⟨⟨⟨by decide, by decide⟩, g3⟩, g4⟩, h3⟩, ?_⟩
      refine call_a hsp ?_
      simp (maxSteps := 1000000) (disch := omega) only [go_sem]
      refine hK _ ?_
      clear hK
      repeat' (first | with_reducible exact tr_a | refine un_a ?_ | ((first | refine st_a (fun K hK => ?_) | refine rg_a ?_); (repeat' (refine And.intro ?_ ?_)); (all_goals first | (refine hK _ ?_; clear hK K) | exact auto_cl | skip)) | ((first | apply cw_ite | apply cw_iteN); (case hf => rfl); (case hc => exact ev_a); (all_goals first | (intro hb; (try simp only [hbs] at hb)) | skip)) | exact atN_intro | (refine if_a (fun hb => ?_) (fun hb => ?_); (all_goals (try first | with_reducible exact True.intro | (exfalso; omega)))) | refine cw_blocks (fun KB hB => ?_) | (refine hB _ ?_; clear hB KB) | refine exit_by (S := Sg) (by assumption) ?_ | (refine ret_a ?_; (try clear hB KB); (try clear hK K)))
      exact vb rfl
    · have hsp := covered_sp s V hs k hk
      have ht : tblF (Int.toNat 4) 0 = fnV 132 := rfl
      simp (maxSteps := 1000000) (disch := omega) only [go_sem, ht, fnV]
      refine ⟨⟨⟨⟨⟨by decide, by decide⟩, g3⟩, g4⟩, h3⟩, ?_⟩
      refine call_a hsp ?_
      simp (maxSteps := 1000000) (disch := omega) only [go_sem]
      refine hK _ ?_
      clear hK
      repeat' (first | with_reducible exact tr_a | refine un_a ?_ | ((first | refine st_a (fun K hK => ?_) | refine rg_a ?_); (repeat' (refine And.intro ?_ ?_)); (all_goals first | (refine hK _ ?_; clear hK K) | exact auto_cl | skip)) | ((first | apply cw_ite | apply cw_iteN); (case hf => rfl); (case hc => exact ev_a); (all_goals first | (intro hb; (try simp only [hbs] at hb)) | skip)) | exact atN_intro | (refine if_a (fun hb => ?_) (fun hb => ?_); (all_goals (try first | with_reducible exact True.intro | (exfalso; omega)))) | refine cw_blocks (fun KB hB => ?_) | (refine hB _ ?_; clear hB KB) | refine exit_by (S := Sg) (by assumption) ?_ | (refine ret_a ?_; (try clear hB KB); (try clear hK K)))
      exact vb rfl
    · have hsp := mask_sp s V hs k hk
      have ht : tblF (Int.toNat 5) 0 = fnV 133 := rfl
      simp (maxSteps := 1000000) (disch := omega) only [go_sem, ht, fnV]
      refine ⟨⟨⟨⟨⟨by decide, by decide⟩, g3⟩, g4⟩, h3⟩, ?_⟩
      refine call_a hsp ?_
      simp (maxSteps := 1000000) (disch := omega) only [go_sem]
      refine hK _ ?_
      clear hK
      repeat' (first | with_reducible exact tr_a | refine un_a ?_ | ((first | refine st_a (fun K hK => ?_) | refine rg_a ?_); (repeat' (refine And.intro ?_ ?_)); (all_goals first | (refine hK _ ?_; clear hK K) | exact auto_cl | skip)) | ((first | apply cw_ite | apply cw_iteN); (case hf => rfl); (case hc => exact ev_a); (all_goals first | (intro hb; (try simp only [hbs] at hb)) | skip)) | exact atN_intro | (refine if_a (fun hb => ?_) (fun hb => ?_); (all_goals (try first | with_reducible exact True.intro | (exfalso; omega)))) | refine cw_blocks (fun KB hB => ?_) | (refine hB _ ?_; clear hB KB) | refine exit_by (S := Sg) (by assumption) ?_ | (refine ret_a ?_; (try clear hB KB); (try clear hK K)))
      exact vb rfl
    · have hsp := isolate_sp s V k hk
      have ht : tblF (Int.toNat 6) 0 = fnV 136 := rfl
      simp (maxSteps := 1000000) (disch := omega) only [go_sem, ht, fnV]
      refine ⟨⟨⟨⟨⟨by decide, by decide⟩, g3⟩, g4⟩, h3⟩, ?_⟩
      refine call_a hsp ?_
      simp (maxSteps := 1000000) (disch := omega) only [go_sem]
      refine hK _ ?_
      clear hK
      repeat' (first | with_reducible exact tr_a | refine un_a ?_ | ((first | refine st_a (fun K hK => ?_) | refine rg_a ?_); (repeat' (refine And.intro ?_ ?_)); (all_goals first | (refine hK _ ?_; clear hK K) | exact auto_cl | skip)) | ((first | apply cw_ite | apply cw_iteN); (case hf => rfl); (case hc => exact ev_a); (all_goals first | (intro hb; (try simp only [hbs] at hb)) | skip)) | exact atN_intro | (refine if_a (fun hb => ?_) (fun hb => ?_); (all_goals (try first | with_reducible exact True.intro | (exfalso; omega)))) | refine cw_blocks (fun KB hB => ?_) | (refine hB _ ?_; clear hB KB) | refine exit_by (S := Sg) (by assumption) ?_ | (refine ret_a ?_; (try clear hB KB); (try clear hK K)))
      exact vb rfl
    · have hsp := normal_sp s V k hk
      have ht : tblF (Int.toNat 7) 0 = fnV 138 := rfl
      simp (maxSteps := 1000000) (disch := omega) only [go_sem, ht, fnV]
      refine ⟨⟨⟨⟨⟨by decide, by decide⟩, g3⟩, g4⟩, h3⟩, ?_⟩
      refine call_a hsp ?_
      simp (maxSteps := 1000000) (disch := omega) only [go_sem]
      refine hK _ ?_
      clear hK
      repeat' (first | with_reducible exact tr_a | refine un_a ?_ | ((first | refine st_a (fun K hK => ?_) | refine rg_a ?_); (repeat' (refine And.intro ?_ ?_)); (all_goals first | (refine hK _ ?_; clear hK K) | exact auto_cl | skip)) | ((first | apply cw_ite | apply cw_iteN); (case hf => rfl); (case hc => exact ev_a); (all_goals first | (intro hb; (try simp only [hbs] at hb)) | skip)) | exact atN_intro | (refine if_a (fun hb => ?_) (fun hb => ?_); (all_goals (try first | with_reducible exact True.intro | (exfalso; omega)))) | refine cw_blocks (fun KB hB => ?_) | (refine hB _ ?_; clear hB KB) | refine exit_by (S := Sg) (by assumption) ?_ | (refine ret_a ?_; (try clear hB KB); (try clear hK K)))
      exact vb rfl
    · have hsp := single_sp s V k hk
      have ht : tblF (Int.toNat 8) 0 = fnV 140 := rfl
      simp (maxSteps := 1000000) (disch := omega) only [go_sem, ht, fnV]
      refine ⟨⟨⟨⟨⟨by decide, by decide⟩, g3⟩, g4⟩, h3⟩, ?_⟩
      refine call_a hsp ?_
      simp (maxSteps := 1000000) (disch := omega) only [go_sem]
      refine hK _ ?_
      clear hK
      repeat' (first | with_reducible exact tr_a | refine un_a ?_ | ((first | refine st_a (fun K hK => ?_) | refine rg_a ?_); (repeat' (refine And.intro ?_ ?_)); (all_goals first | (refine hK _ ?_; clear hK K) | exact auto_cl | skip)) | ((first | apply cw_ite | apply cw_iteN); (case hf => rfl); (case hc => exact ev_a); (all_goals first | (intro hb; (try simp only [hbs] at hb)) | skip)) | exact atN_intro | (refine if_a (fun hb => ?_) (fun hb => ?_); (all_goals (try first | with_reducible exact True.intro | (exfalso; omega)))) | refine cw_blocks (fun KB hB => ?_) | (refine hB _ ?_; clear hB KB) | refine exit_by (S := Sg) (by assumption) ?_ | (refine ret_a ?_; (try clear hB KB); (try clear hK K)))
      exact vb rfl
    · have hsp := unwrap_sp s V k hk
      have ht : tblF (Int.toNat 9) 0 = fnV 142 := rfl
      simp (maxSteps := 1000000) (disch := omega) only [go_sem, ht, fnV]
      refine ⟨⟨⟨⟨⟨by decide, by decide⟩, g3⟩, g4⟩, h3⟩, ?_⟩
      refine call_a hsp ?_
      simp (maxSteps := 1000000) (disch := omega) only [go_sem]
      refine hK _ ?_
      clear hK
      repeat' (first | with_reducible exact tr_a | refine un_a ?_ | ((first | refine st_a (fun K hK => ?_) | refine rg_a ?_); (repeat' (refine And.intro ?_ ?_)); (all_goals first | (refine hK _ ?_; clear hK K) | exact auto_cl | skip)) | ((first | apply cw_ite | apply cw_iteN); (case hf => rfl); (case hc => exact ev_a); (all_goals first | (intro hb; (try simp only [hbs] at hb)) | skip)) | exact atN_intro | (refine if_a (fun hb => ?_) (fun hb => ?_); (all_goals (try first | with_reducible exact True.intro | (exfalso; omega)))) | refine cw_blocks (fun KB hB => ?_) | (refine hB _ ?_; clear hB KB) | refine exit_by (S := Sg) (by assumption) ?_ | (refine ret_a ?_; (try clear hB KB); (try clear hK K)))
      exact vb rfl
  · simp (maxSteps := 1000000) (disch := omega) only [go_sem]
    refine hK _ ?_
    clear hK
    repeat' (first | with_reducible exact tr_a | refine un_a ?_ | ((first | refine st_a (fun K hK => ?_) | refine rg_a ?_); (repeat' (refine And.intro ?_ ?_)); (all_goals first | (refine hK _ ?_; clear hK K) | exact auto_cl | skip)) | ((first | apply cw_ite | apply cw_iteN); (case hf => rfl); (case hc => exact ev_a); (all_goals first | (intro hb; (try simp only [hbs] at hb)) | skip)) | exact atN_intro | (refine if_a (fun hb => ?_) (fun hb => ?_); (all_goals (try first | with_reducible exact True.intro | (exfalso; omega)))) | refine cw_blocks (fun KB hB => ?_) | (refine hB _ ?_; clear hB KB) | refine exit_by (S := Sg) (by assumption) ?_ | (refine ret_a ?_; (try clear hB KB); (try clear hK K)))
    refine vb ?_
    rw [apM, show (decide (1 ≤ n) && decide (n < 10) && decide (0 ≤ i) && decide (i < s.ops.length) && !decide ((opAt s.ops i.toNat).kind = 3)) = false from hg, Bool.and_false]
    rfl
theorem cnt_step (l : List Op) {i : Nat} (hi : i < l.length) : cntM (l.take (i + 1)) = cntM (l.take i) + if (opAt l i).kind = 1 ∨ (opAt l i).kind = 2 then 1 else 0 := by
  have e : l.take (i + 1) = l.take i ++ [opAt l i] := by rw [opAt_eq hi, List.take_add_one, List.getElem?_eq_getElem hi]; rfl
  rw [e, cnt_sum, cnt_sum, sumW_app, sumW_cons, sumW_nil]
  rfl
theorem cnt_bnd (l : List Op) (i : Nat) : cntM (l.take i) ≤ i := by
  rw [cntM]
  have := List.length_filter_le (fun o : Op => decide (o.kind = 1 ∨ o.kind = 2)) (l.take i)
  have := List.length_take_le i l
  omega
theorem count_sp (s : Script) (hs : ScriptLen s) : Pure Sg 34 [ag (scriptE s)] (fun x => x = .b (I (cntM s.ops))) := by
  obtain ⟨l1, l2, l3⟩ := id hs
  refine pure_of Tryz.func34 rfl (rs := [.tmp 2]) rfl rfl mixed (by decide +kernel) (Nat.le_of_ble_eq_true rfl) (argsLt_mem (by simp (maxSteps := 1000000) (disch := omega) only [go_sem])) ?_
  repeat' (first | with_reducible exact tr_a | refine un_a ?_ | ((first | refine st_a (fun K hK => ?_) | refine rg_a ?_); (repeat' (refine And.intro ?_ ?_)); (all_goals first | (refine hK _ ?_; clear hK K) | exact auto_cl | skip)) | ((first | apply cw_ite | apply cw_iteN); (case hf => rfl); (case hc => exact ev_a); (all_goals first | (intro hb; (try simp only [hbs] at hb)) | skip)) | exact atN_intro | (refine if_a (fun hb => ?_) (fun hb => ?_); (all_goals (try first | with_reducible exact True.intro | (exfalso; omega)))) | refine cw_blocks (fun KB hB => ?_) | (refine hB _ ?_; clear hB KB) | refine exit_by (S := Sg) (by assumption) ?_ | (refine ret_a ?_; (try clear hB KB); (try clear hK K)))
  refine cw_loop (X := Nat) (fun i => mkSt [(3, .b (I (cntM (s.ops.take i)))), (7, .b (.c (.p (opL s.ops)))), (8, .b (I s.ops.length)), (9, .b (I i))] [] 1) (fun i => i ≤ s.ops.length) (fun i => s.ops.length - i) 0 ?_ ?_ ?_
  · exact Nat.zero_le _
  · refine le_a [] ?_ ?_
    repeat' (refine And.intro ?_ ?_)
    all_goals first | exact le_cl | skip
  · intro i hi
    rcases Nat.lt_or_ge i s.ops.length with hlt | hge
    · have hbn := cnt_bnd s.ops i
      have hst := cnt_step s.ops hlt
      by_cases hk : (opAt s.ops i).kind = 1 ∨ (opAt s.ops i).kind = 2
      · have hq : ((s.ops.getD i default).kind == 1 || (s.ops.getD i default).kind == 2) = true := by rw [Bool.or_eq_true, beq_iff_eq, beq_iff_eq]; exact hk
        rw [if_pos hk] at hst
        repeat' (first | with_reducible exact tr_a | refine dec_a hq ?_ | refine un_a ?_ | ((first | refine st_a (fun K hK => ?_) | refine rg_a ?_); (repeat' (refine And.intro ?_ ?_)); (all_goals first | (refine hK _ ?_; clear hK K) | exact auto_cl | skip)) | ((first | apply cw_ite | apply cw_iteN); (case hf => rfl); (case hc => exact ev_a); (all_goals first | (intro hb; (try simp only [hbs] at hb)) | skip)) | exact atN_intro | (refine if_a (fun hb => ?_) (fun hb => ?_); (all_goals (try first | with_reducible exact True.intro | (exfalso; omega)))) | refine cw_blocks (fun KB hB => ?_) | (refine hB _ ?_; clear hB KB) | refine exit_by (S := Sg) (by assumption) ?_ | (refine ret_a ?_; (try clear hB KB); (try clear hK K)))
        rw [thenQ_normal]
        refine wk_loop (i + 1) ?_ (by omega) (by omega)
        rw [hst]
        refine le_a [] ?_ ?_
        repeat' (refine And.intro ?_ ?_)
        all_goals first | exact le_cl | skip
      · have hq : ((s.ops.getD i default).kind == 1 || (s.ops.getD i default).kind == 2) = false := by
          rw [Bool.or_eq_false_iff, beq_eq_false_iff_ne, beq_eq_false_iff_ne]
          exact ⟨fun q => hk (.inl q), fun q => hk (.inr q)⟩
        rw [if_neg hk] at hst
        repeat' (first | with_reducible exact tr_a | refine dec_a hq ?_ | refine un_a ?_ | ((first | refine st_a (fun K hK => ?_) | refine rg_a ?_); (repeat' (refine And.intro ?_ ?_)); (all_goals first | (refine hK _ ?_; clear hK K) | exact auto_cl | skip)) | ((first | apply cw_ite | apply cw_iteN); (case hf => rfl); (case hc => exact ev_a); (all_goals first | (intro hb; (try simp only [hbs] at hb)) | skip)) | exact atN_intro | (refine if_a (fun hb => ?_) (fun hb => ?_); (all_goals (try first | with_reducible exact True.intro | (exfalso; omega)))) | refine cw_blocks (fun KB hB => ?_) | (refine hB _ ?_; clear hB KB) | refine exit_by (S := Sg) (by assumption) ?_ | (refine ret_a ?_; (try clear hB KB); (try clear hK K)))
        rw [thenQ_normal]
        refine wk_loop (i + 1) ?_ (by omega) (by omega)
        rw [hst, Nat.add_zero]
        refine le_a [] ?_ ?_
        repeat' (refine And.intro ?_ ?_)
        all_goals first | exact le_cl | skip
    · have hi2 : i = s.ops.length := by omega
      subst hi2
      repeat' (first | with_reducible exact tr_a | refine un_a ?_ | ((first | refine st_a (fun K hK => ?_) | refine rg_a ?_); (repeat' (refine And.intro ?_ ?_)); (all_goals first | (refine hK _ ?_; clear hK K) | exact auto_cl | skip)) | ((first | apply cw_ite | apply cw_iteN); (case hf => rfl); (case hc => exact ev_a); (all_goals first | (intro hb; (try simp only [hbs] at hb)) | skip)) | exact atN_intro | (refine if_a (fun hb => ?_) (fun hb => ?_); (all_goals (try first | with_reducible exact True.intro | (exfalso; omega)))) | refine cw_blocks (fun KB hB => ?_) | (refine hB _ ?_; clear hB KB) | refine exit_by (S := Sg) (by assumption) ?_ | (refine ret_a ?_; (try clear hB KB); (try clear hK K)))
      rw [List.take_length]
theorem rcount_sp (s : Script) (hs : ScriptLen s) : Pure Sg 35 [ag (scriptE s)] (fun x => x = .b (I (cntM s.ops))) := by
  obtain ⟨l1, l2, l3⟩ := id hs
  refine pure_of Tryz.func35 rfl (rs := [.tmp 2]) rfl rfl mixed (by decide +kernel) (Nat.le_of_ble_eq_true rfl) (argsLt_mem (by simp (maxSteps := 1000000) (disch := omega) only [go_sem])) ?_
  repeat' (first | with_reducible exact tr_a | refine un_a ?_ | ((first | refine st_a (fun K hK => ?_) | refine rg_a ?_); (repeat' (refine And.intro ?_ ?_)); (all_goals first | (refine hK _ ?_; clear hK K) | exact auto_cl | skip)) | ((first | apply cw_ite | apply cw_iteN); (case hf => rfl); (case hc => exact ev_a); (all_goals first | (intro hb; (try simp only [hbs] at hb)) | skip)) | exact atN_intro | (refine if_a (fun hb => ?_) (fun hb => ?_); (all_goals (try first | with_reducible exact True.intro | (exfalso; omega)))) | refine cw_blocks (fun KB hB => ?_) | (refine hB _ ?_; clear hB KB) | refine exit_by (S := Sg) (by assumption) ?_ | (refine ret_a ?_; (try clear hB KB); (try clear hK K)))
  refine cw_loop (X := Nat) (fun i => mkSt [(1, .b (.c (.ptr 0 0))), (3, .b (I (cntM (s.ops.take i)))), (4, .b (I i))] [(0, .fix ((scriptE s).map CV.p))] 1) (fun i => i ≤ s.ops.length) (fun i => s.ops.length - i) 0 ?_ ?_ ?_
  · exact Nat.zero_le _
  · refine le_a [] ?_ ?_
    repeat' (refine And.intro ?_ ?_)
    all_goals first | exact le_cl | skip
  · intro i hi
    rcases Nat.lt_or_ge i s.ops.length with hlt | hge
    · have hbn := cnt_bnd s.ops i
      have hst := cnt_step s.ops hlt
      by_cases hk : (opAt s.ops i).kind = 1 ∨ (opAt s.ops i).kind = 2
      · have hq : ((s.ops.getD i default).kind == 1 || (s.ops.getD i default).kind == 2) = true := by rw [Bool.or_eq_true, beq_iff_eq, beq_iff_eq]; exact hk
        rw [if_pos hk] at hst
        repeat' (first | with_reducible exact tr_a | refine dec_a hq ?_ | refine un_a ?_ | ((first | refine st_a (fun K hK => ?_) | refine rg_a ?_); (repeat' (refine And.intro ?_ ?_)); (all_goals first | (refine hK _ ?_; clear hK K) | exact auto_cl | skip)) | ((first | apply cw_ite | apply cw_iteN); (case hf => rfl); (case hc => exact ev_a); (all_goals first | (intro hb; (try simp only [hbs] at hb)) | skip)) | exact atN_intro | (refine if_a (fun hb => ?_) (fun hb => ?_); (all_goals (try first | with_reducible exact True.intro | (exfalso; omega)))) | refine cw_blocks (fun KB hB => ?_) | (refine hB _ ?_; clear hB KB) | refine exit_by (S := Sg) (by assumption) ?_ | (refine ret_a ?_; (try clear hB KB); (try clear hK K)))
        rw [thenQ_normal]
        refine wk_loop (i + 1) ?_ (by omega) (by omega)
        rw [hst]
        refine le_a [] ?_ ?_
        repeat' (refine And.intro ?_ ?_)
        all_goals first | exact le_cl | skip
      · have hq : ((s.ops.getD i default).kind == 1 || (s.ops.getD i default).kind == 2) = false := by
          rw [Bool.or_eq_false_iff, beq_eq_false_iff_ne, beq_eq_false_iff_ne]
          exact ⟨fun q => hk (.inl q), fun q => hk (.inr q)⟩
        rw [if_neg hk] at hst
        repeat' (first | with_reducible exact tr_a | refine dec_a hq ?_ | refine un_a ?_ | ((first | refine st_a (fun K hK => ?_) | refine rg_a ?_); (repeat' (refine And.intro ?_ ?_)); (all_goals first | (refine hK _ ?_; clear hK K) | exact auto_cl | skip)) | ((first | apply cw_ite | apply cw_iteN); (case hf => rfl); (case hc => exact ev_a); (all_goals first | (intro hb; (try simp only [hbs] at hb)) | skip)) | exact atN_intro | (refine if_a (fun hb => ?_) (fun hb => ?_); (all_goals (try first | with_reducible exact True.intro | (exfalso; omega)))) | refine cw_blocks (fun KB hB => ?_) | (refine hB _ ?_; clear hB KB) | refine exit_by (S := Sg) (by assumption) ?_ | (refine ret_a ?_; (try clear hB KB); (try clear hK K)))
        rw [thenQ_normal]
        refine wk_loop (i + 1) ?_ (by omega) (by omega)
        rw [hst, Nat.add_zero]
        refine le_a [] ?_ ?_
        repeat' (refine And.intro ?_ ?_)
        all_goals first | exact le_cl | skip
    · have hi2 : i = s.ops.length := by omega
      subst hi2
      repeat' (first | with_reducible exact tr_a | refine un_a ?_ | ((first | refine st_a (fun K hK => ?_) | refine rg_a ?_); (repeat' (refine And.intro ?_ ?_)); (all_goals first | (refine hK _ ?_; clear hK K) | exact auto_cl | skip)) | ((first | apply cw_ite | apply cw_iteN); (case hf => rfl); (case hc => exact ev_a); (all_goals first | (intro hb; (try simp only [hbs] at hb)) | skip)) | exact atN_intro | (refine if_a (fun hb => ?_) (fun hb => ?_); (all_goals (try first | with_reducible exact True.intro | (exfalso; omega)))) | refine cw_blocks (fun KB hB => ?_) | (refine hB _ ?_; clear hB KB) | refine exit_by (S := Sg) (by assumption) ?_ | (refine ret_a ?_; (try clear hB KB); (try clear hK K)))
      rw [List.take_length]
end Go.Proofs.YtbpplplnkgmhlaaGreatDoor

/- All redexes, the first one, rewriting, and the script that comes out. -/
set_option maxHeartbeats 2000000
set_option maxRecDepth 16000
namespace Go.Proofs.YtbpplplnkgmhlaaGreatDoor
open Go Go.SL
open Go.RowKit (wrap64)
def rxE (r : Rx) : List PV := [PI r.1, PI r.2]
attribute [local go_sem] Int.toNat_natCast vP vf0 vf1 vf2 vf3 vf4 vf5 vf6 vf7 vf8 vf9 vf10 vf11 vf12 vf13 vf14 rxE tiF1 tiF2 tiF3 flR0 flR1 elR

theorem rxAt_succ (s : Script) (i n : Nat) : rxAt s i (n + 1) = rxAt s i n ++ if apM s n i = true then [((n : Int), (i : Int))] else [] := by
  rw [rxAt, List.range_succ, List.filter_append, List.map_append]
  congr 1
  by_cases h : apM s n i = true
  · rw [if_pos h]; simp only [List.filter_cons, h, if_true, List.filter_nil]; rfl
  · rw [if_neg h]; simp only [List.filter_cons, h, List.filter_nil]; rfl
theorem rxTo_succ (s : Script) (i : Nat) : rxTo s (i + 1) = rxTo s i ++ rxAt s i 10 := by
  rw [rxTo, List.range_succ, List.flatMap_append, List.flatMap_cons, List.flatMap_nil, List.append_nil]; rfl
theorem rxAt_le (s : Script) (i : Nat) : ∀ n, (rxAt s i n).length ≤ n
  | 0 => Nat.le_refl _
  | n + 1 => by
    have := rxAt_le s i n
    rw [rxAt_succ, List.length_append]
    split <;> simp <;> omega
theorem rxTo_le (s : Script) : ∀ i, (rxTo s i).length ≤ 10 * i
  | 0 => Nat.le_refl _
  | i + 1 => by
    have := rxTo_le s i
    have := rxAt_le s i 10
    rw [rxTo_succ, List.length_append]
    omega
theorem rxAt_pre (s : Script) (i : Nat) {n m : Nat} (h : n ≤ m) : ∃ r, rxAt s i m = rxAt s i n ++ r := by
  induction m with
  | zero => exact ⟨[], by rw [show n = 0 by omega, List.append_nil]⟩
  | succ m ih =>
    rcases Nat.lt_or_ge n (m + 1) with h1 | h1
    · obtain ⟨r, hr⟩ := ih (by omega)
      rw [rxAt_succ, hr, List.append_assoc]
      exact ⟨_, rfl⟩
    · exact ⟨[], by rw [show n = m + 1 by omega, List.append_nil]⟩
theorem rxTo_pre (s : Script) {n m : Nat} (h : n ≤ m) : ∃ r, rxTo s m = rxTo s n ++ r := by
  induction m with
  | zero => exact ⟨[], by rw [show n = 0 by omega, List.append_nil]⟩
  | succ m ih =>
    rcases Nat.lt_or_ge n (m + 1) with h1 | h1
    · obtain ⟨r, hr⟩ := ih (by omega)
      rw [rxTo_succ, hr, List.append_assoc]
      exact ⟨_, rfl⟩
    · exact ⟨[], by rw [show n = m + 1 by omega, List.append_nil]⟩
theorem rx_head {s : Script} {i n : Nat} (hi : i < s.ops.length) (hn : n < 10) (h0 : rxTo s i = []) (h1 : rxAt s i n = []) (ha : apM s n i = true) : (rxTo s s.ops.length).head? = some ((n : Int), (i : Int)) := by
  obtain ⟨r, hr⟩ := rxTo_pre s (n := i + 1) (m := s.ops.length) hi
  obtain ⟨q, hq⟩ := rxAt_pre s i (n := n + 1) (m := 10) hn
  rw [hr, rxTo_succ, h0, hq, rxAt_succ, h1, if_pos ha]
  rfl
theorem rx_snoc {l : List Rx} {x : Rx} {g : Nat → Nat → PV} (hg : ∀ j, j < 2 → g 0 j = (rxE x).getD j .any) : ∀ a, a < l.length + 1 → ∀ j, j < 2 → PV.le (appF l.length (fnOf rxE l) g a j) (fnOf rxE (l ++ [x]) a j) := fun a ha j hj => by
  have e : appF l.length (fnOf rxE l) g a j = fnOf rxE (l ++ [x]) a j := by
    unfold appF
    by_cases h : a < l.length
    · rw [if_pos h]
      exact congrArg (fun o => (rxE o).getD j .any) (show l.getD a default = (l ++ [x]).getD a default by rw [List.getD_eq_getElem?_getD, List.getD_eq_getElem?_getD, List.getElem?_append_left h])
    · have ea : a = l.length := by omega
      subst ea
      rw [if_neg h, Nat.sub_self, hg j hj]
      exact congrArg (fun o => (rxE o).getD j .any) (show x = (l ++ [x]).getD l.length default by rw [List.getD_eq_getElem?_getD, List.getElem?_append_right (Nat.le_refl _), Nat.sub_self]; rfl)
  rw [e]
  exact fun _ _ _ h => h
theorem Applies_sp (s : Script) (V : VOps s) (hs : ScriptLen s) (n i : Int) : Pure Sg 32 [ag (scriptE s), I n, I i] (fun x => x = .b (B (apM s n i))) := by
  have h1 := look_spec s V hs (ops_ok V)
  have h2 := applies_sp s V hs n i
  refine pure_of Tryz.func32 rfl (rs := [.tmp 6]) rfl rfl mixed (by decide +kernel) (Nat.le_of_ble_eq_true rfl) (argsLt_mem (by simp (maxSteps := 1000000) (disch := omega) only [go_sem])) ?_
  repeat' (first | with_reducible exact tr_a | refine un_a ?_ | ((first | refine st_a (fun K hK => ?_) | refine rg_a ?_ | refine call_c (h1) ?_ | refine gcall_c (fun hg => h1) ?_ | refine call_c (h2) ?_ | refine gcall_c (fun hg => h2) ?_); (repeat' (refine And.intro ?_ ?_)); (all_goals first | (refine hK _ ?_; clear hK K) | exact auto_cl | skip)) | ((first | apply cw_ite | apply cw_iteN); (case hf => rfl); (case hc => exact ev_a); (all_goals first | (intro hb; (try simp only [hbs] at hb)) | skip)) | exact atN_intro | (refine if_a (fun hb => ?_) (fun hb => ?_); (all_goals (try first | with_reducible exact True.intro | (exfalso; omega)))) | refine cw_blocks (fun KB hB => ?_) | (refine hB _ ?_; clear hB KB) | refine exit_by (S := Sg) (by assumption) ?_ | (refine ret_a ?_; (try clear hB KB); (try clear hK K)))
theorem Redexes_no (s : Script) (hs : ScriptLen s) (he : (opsM s).1 ≠ 0) : Pure Sg 31 [ag (scriptE s)] (fun x => x = .b (.c (.p (.lst 2 (redM s).length (fnOf rxE (redM s)))))) := by
  have h1 := look_no s hs he
  rw [redM, if_neg he]
  refine pure_le ?_
  refine pure_of Tryz.func31 rfl (rs := [.tmp 2]) rfl rfl mixed (by decide +kernel) (Nat.le_of_ble_eq_true rfl) (argsLt_mem (by simp (maxSteps := 1000000) (disch := omega) only [go_sem])) ?_
  repeat' (first | with_reducible exact tr_a | refine un_a ?_ | ((first | refine st_a (fun K hK => ?_) | refine rg_a ?_ | refine call_c (h1) ?_ | refine gcall_c (fun hg => h1) ?_); (repeat' (refine And.intro ?_ ?_)); (all_goals first | (refine hK _ ?_; clear hK K) | exact auto_cl | skip)) | ((first | apply cw_ite | apply cw_iteN); (case hf => rfl); (case hc => exact ev_a); (all_goals first | (intro hb; (try simp only [hbs] at hb)) | skip)) | exact atN_intro | (refine if_a (fun hb => ?_) (fun hb => ?_); (all_goals (try first | with_reducible exact True.intro | (exfalso; omega)))) | refine cw_blocks (fun KB hB => ?_) | (refine hB _ ?_; clear hB KB) | refine exit_by (S := Sg) (by assumption) ?_ | (refine ret_a ?_; (try clear hB KB); (try clear hK K)))
  · exact sle_b (ble_c nil_le)
  · exact absurd hb (by decide)
theorem Redexes_yes (s : Script) (V : VOps s) (hs : ScriptLen s) : Pure Sg 31 [ag (scriptE s)] (fun x => x = .b (.c (.p (.lst 2 (redM s).length (fnOf rxE (redM s)))))) := by
  have hn := V.cnt
  have h1 := look_spec s V hs (ops_ok V)
  rw [redM, if_pos (ops_ok V)]
  refine pure_le ?_
  refine pure_of Tryz.func31 rfl (rs := [.tmp 2]) rfl rfl mixed (by decide +kernel) (Nat.le_of_ble_eq_true rfl) (argsLt_mem (by simp (maxSteps := 1000000) (disch := omega) only [go_sem])) ?_
  repeat' (first | with_reducible exact tr_a | refine un_a ?_ | ((first | refine st_a (fun K hK => ?_) | refine rg_a ?_ | refine call_c (h1) ?_ | refine gcall_c (fun hg => h1) ?_); (repeat' (refine And.intro ?_ ?_)); (all_goals first | (refine hK _ ?_; clear hK K) | exact auto_cl | skip)) | ((first | apply cw_ite | apply cw_iteN); (case hf => rfl); (case hc => exact ev_a); (all_goals first | (intro hb; (try simp only [hbs] at hb)) | skip)) | exact atN_intro | (refine if_a (fun hb => ?_) (fun hb => ?_); (all_goals (try first | with_reducible exact True.intro | (exfalso; omega)))) | refine cw_blocks (fun KB hB => ?_) | (refine hB _ ?_; clear hB KB) | refine exit_by (S := Sg) (by assumption) ?_ | (refine ret_a ?_; (try clear hB KB); (try clear hK K)))
  · exact absurd hb (by decide)
  refine cw_loop (X := Nat) (fun i => mkSt [(1, .b (.c (.ptr 0 0))), (3, .b (vP s)), (5, .b (.c (.own 1 (rxTo s i).length))), (17, .b (I s.ops.length)), (18, .b (I i))]
    [(0, .fix ((scriptE s).map CV.p)), (1, .arr 61 2 (rxTo s i).length (fnOf rxE (rxTo s i)))] 2) (fun i => i ≤ s.ops.length) (fun i => s.ops.length - i) 0 ?_ ?_ ?_
  · exact Nat.zero_le _
  · refine le_a [(1, none)] ?_ ?_
    repeat' (refine And.intro ?_ ?_)
    all_goals first | exact le_cl | skip
  · intro i hi
    have hl := rxTo_le s i
    rcases Nat.lt_or_ge i s.ops.length with hlt | hge
    · repeat' (first | with_reducible exact tr_a | refine un_a ?_ | ((first | refine st_a (fun K hK => ?_) | refine rg_a ?_ | refine call_c (table_sp) ?_ | refine gcall_c (fun hg => table_sp) ?_); (repeat' (refine And.intro ?_ ?_)); (all_goals first | (refine hK _ ?_; clear hK K) | exact auto_cl | skip)) | ((first | apply cw_ite | apply cw_iteN); (case hf => rfl); (case hc => exact ev_a); (all_goals first | (intro hb; (try simp only [hbs] at hb)) | skip)) | exact atN_intro | (refine if_a (fun hb => ?_) (fun hb => ?_); (all_goals (try first | with_reducible exact True.intro | (exfalso; omega)))) | refine cw_blocks (fun KB hB => ?_) | (refine hB _ ?_; clear hB KB) | refine exit_by (S := Sg) (by assumption) ?_ | (refine ret_a ?_; (try clear hB KB); (try clear hK K)))
      refine cw_loop (X := Nat) (fun n => mkSt [(1, .b (.c (.ptr 0 0))), (3, .b (vP s)), (5, .b (.c (.own 1 (rxTo s i ++ rxAt s i n).length))), (6, .b (I i)), (17, .b (I s.ops.length)), (18, .b (I i)), (22, .b (I 10)), (23, .b (I n))]
        [(0, .fix ((scriptE s).map CV.p)), (1, .arr 61 2 (rxTo s i ++ rxAt s i n).length (fnOf rxE (rxTo s i ++ rxAt s i n)))] 2) (fun n => n ≤ 10) (fun n => 10 - n) 0 ?_ ?_ ?_
      · exact Nat.zero_le _
      · have e0 : rxTo s i ++ rxAt s i 0 = rxTo s i := List.append_nil _
        rw [e0]
        refine le_a [(1, some 1)] ?_ ?_
        repeat' (refine And.intro ?_ ?_)
        all_goals first | exact le_cl | skip
      · intro n hn10
        have hl2 : (rxTo s i ++ rxAt s i n).length ≤ 10 * i + 10 := by
          have := rxAt_le s i n
          rw [List.length_append]; omega
        rcases Nat.lt_or_ge n 10 with hnl | hng
        · by_cases ha : apM s n i = true
          · repeat' (first | with_reducible exact tr_a | refine dec_a ha ?_ | refine un_a ?_ | ((first | refine st_a (fun K hK => ?_) | refine rg_a ?_ | refine call_c (applies_sp s V hs n i) ?_ | refine gcall_c (fun hg => applies_sp s V hs n i) ?_); (repeat' (refine And.intro ?_ ?_)); (all_goals first | (refine hK _ ?_; clear hK K) | exact auto_cl | skip)) | ((first | apply cw_ite | apply cw_iteN); (case hf => rfl); (case hc => exact ev_a); (all_goals first | (intro hb; (try simp only [hbs] at hb)) | skip)) | exact atN_intro | (refine if_a (fun hb => ?_) (fun hb => ?_); (all_goals (try first | with_reducible exact True.intro | (exfalso; omega)))) | refine cw_blocks (fun KB hB => ?_) | (refine hB _ ?_; clear hB KB) | refine exit_by (S := Sg) (by assumption) ?_ | (refine ret_a ?_; (try clear hB KB); (try clear hK K)))
            rw [thenQ_normal]
            refine wk_loop (n + 1) ?_ (by omega) (by omega)
            have e : rxTo s i ++ rxAt s i (n + 1) = rxTo s i ++ rxAt s i n ++ [((n : Int), (i : Int))] := by rw [rxAt_succ, if_pos ha, List.append_assoc]
            rw [e, show (rxTo s i ++ rxAt s i n ++ [((n : Int), (i : Int))]).length = (rxTo s i ++ rxAt s i n).length + 1 from List.length_append]
            refine le_a [(1, some 3)] ?_ ?_
            repeat' (refine And.intro ?_ ?_)
            all_goals first | exact le_cl | skip
            exact .inr (rx_snoc fun j hj => by
              have hj2 : j = 0 ∨ j = 1 := by omega
              rcases hj2 with rfl | rfl <;> rfl)
          · have e : rxTo s i ++ rxAt s i (n + 1) = rxTo s i ++ rxAt s i n := by rw [rxAt_succ, if_neg ha, List.append_nil]
            rw [Bool.not_eq_true] at ha
            repeat' (first | with_reducible exact tr_a | refine dec_a ha ?_ | refine un_a ?_ | ((first | refine st_a (fun K hK => ?_) | refine rg_a ?_ | refine call_c (applies_sp s V hs n i) ?_ | refine gcall_c (fun hg => applies_sp s V hs n i) ?_); (repeat' (refine And.intro ?_ ?_)); (all_goals first | (refine hK _ ?_; clear hK K) | exact auto_cl | skip)) | ((first | apply cw_ite | apply cw_iteN); (case hf => rfl); (case hc => exact ev_a); (all_goals first | (intro hb; (try simp only [hbs] at hb)) | skip)) | exact atN_intro | (refine if_a (fun hb => ?_) (fun hb => ?_); (all_goals (try first | with_reducible exact True.intro | (exfalso; omega)))) | refine cw_blocks (fun KB hB => ?_) | (refine hB _ ?_; clear hB KB) | refine exit_by (S := Sg) (by assumption) ?_ | (refine ret_a ?_; (try clear hB KB); (try clear hK K)))
            rw [thenQ_normal]
            refine wk_loop (n + 1) ?_ (by omega) (by omega)
            rw [e]
            refine le_a [(1, some 1)] ?_ ?_
            repeat' (refine And.intro ?_ ?_)
            all_goals first | exact le_cl | skip
        · have hn2 : n = 10 := by omega
          subst hn2
          repeat' (first | with_reducible exact tr_a | refine un_a ?_ | ((first | refine st_a (fun K hK => ?_) | refine rg_a ?_); (repeat' (refine And.intro ?_ ?_)); (all_goals first | (refine hK _ ?_; clear hK K) | exact auto_cl | skip)) | ((first | apply cw_ite | apply cw_iteN); (case hf => rfl); (case hc => exact ev_a); (all_goals first | (intro hb; (try simp only [hbs] at hb)) | skip)) | exact atN_intro | (refine if_a (fun hb => ?_) (fun hb => ?_); (all_goals (try first | with_reducible exact True.intro | (exfalso; omega)))) | refine cw_blocks (fun KB hB => ?_) | (refine hB _ ?_; clear hB KB) | refine exit_by (S := Sg) (by assumption) ?_ | (refine ret_a ?_; (try clear hB KB); (try clear hK K)))
          rw [thenQ_normal]
          refine wk_loop (i + 1) ?_ (by omega) (by omega)
          rw [rxTo_succ]
          refine le_a [(1, some 1)] ?_ ?_
          repeat' (refine And.intro ?_ ?_)
          all_goals first | exact le_cl | skip
    · have hi2 : i = s.ops.length := by omega
      subst hi2
      repeat' (first | with_reducible exact tr_a | refine un_a ?_ | ((first | refine st_a (fun K hK => ?_) | refine rg_a ?_); (repeat' (refine And.intro ?_ ?_)); (all_goals first | (refine hK _ ?_; clear hK K) | exact auto_cl | skip)) | ((first | apply cw_ite | apply cw_iteN); (case hf => rfl); (case hc => exact ev_a); (all_goals first | (intro hb; (try simp only [hbs] at hb)) | skip)) | exact atN_intro | (refine if_a (fun hb => ?_) (fun hb => ?_); (all_goals (try first | with_reducible exact True.intro | (exfalso; omega)))) | refine cw_blocks (fun KB hB => ?_) | (refine hB _ ?_; clear hB KB) | refine exit_by (S := Sg) (by assumption) ?_ | (refine ret_a ?_; (try clear hB KB); (try clear hK K)))
      exact sle_b (ble_rfl trivial)
theorem First_no (s : Script) (hs : ScriptLen s) (he : (opsM s).1 ≠ 0) : Pure Sg 80 [ag (scriptE s)] (fun x => x = .tup [ag [PI 0, PI 0], B false]) := by
  have h1 := look_no s hs he
  refine pure_of Tryz.func80 rfl (rs := [.cell 2 61, .tmp 3]) rfl rfl mixed (by decide +kernel) (Nat.le_of_ble_eq_true rfl) (argsLt_mem (by simp (maxSteps := 1000000) (disch := omega) only [go_sem])) ?_
  repeat' (first | with_reducible exact tr_a | refine un_a ?_ | ((first | refine st_a (fun K hK => ?_) | refine rg_a ?_ | refine call_c (h1) ?_ | refine gcall_c (fun hg => h1) ?_); (repeat' (refine And.intro ?_ ?_)); (all_goals first | (refine hK _ ?_; clear hK K) | exact auto_cl | skip)) | ((first | apply cw_ite | apply cw_iteN); (case hf => rfl); (case hc => exact ev_a); (all_goals first | (intro hb; (try simp only [hbs] at hb)) | skip)) | exact atN_intro | (refine if_a (fun hb => ?_) (fun hb => ?_); (all_goals (try first | with_reducible exact True.intro | (exfalso; omega)))) | refine cw_blocks (fun KB hB => ?_) | (refine hB _ ?_; clear hB KB) | refine exit_by (S := Sg) (by assumption) ?_ | (refine ret_a ?_; (try clear hB KB); (try clear hK K)))
  · rfl
  · exact absurd hb (by decide)
def firstV (l : List Rx) : SV := match l with | [] => .tup [ag [PI 0, PI 0], B false] | r :: _ => .tup [ag (rxE r), B true]
theorem firstV_nil {l : List Rx} (h : l = []) : firstV l = .tup [ag [PI 0, PI 0], B false] := by rw [h]; rfl
theorem firstV_head {l : List Rx} {r : Rx} (h : l.head? = some r) : firstV l = .tup [ag (rxE r), B true] := by
  cases l with
  | nil => cases h
  | cons a t => rw [List.head?_cons, Option.some.injEq] at h; rw [h]; rfl
theorem First_yes (s : Script) (V : VOps s) (hs : ScriptLen s) : Pure Sg 80 [ag (scriptE s)] (fun x => x = firstV (redM s)) := by
  have hn := V.cnt
  have h1 := look_spec s V hs (ops_ok V)
  rw [redM, if_pos (ops_ok V)]
  refine pure_of Tryz.func80 rfl (rs := [.cell 2 61, .tmp 3]) rfl rfl mixed (by decide +kernel) (Nat.le_of_ble_eq_true rfl) (argsLt_mem (by simp (maxSteps := 1000000) (disch := omega) only [go_sem])) ?_
  repeat' (first | with_reducible exact tr_a | refine un_a ?_ | ((first | refine st_a (fun K hK => ?_) | refine rg_a ?_ | refine call_c (h1) ?_ | refine gcall_c (fun hg => h1) ?_); (repeat' (refine And.intro ?_ ?_)); (all_goals first | (refine hK _ ?_; clear hK K) | exact auto_cl | skip)) | ((first | apply cw_ite | apply cw_iteN); (case hf => rfl); (case hc => exact ev_a); (all_goals first | (intro hb; (try simp only [hbs] at hb)) | skip)) | exact atN_intro | (refine if_a (fun hb => ?_) (fun hb => ?_); (all_goals (try first | with_reducible exact True.intro | (exfalso; omega)))) | refine cw_blocks (fun KB hB => ?_) | (refine hB _ ?_; clear hB KB) | refine exit_by (S := Sg) (by assumption) ?_ | (refine ret_a ?_; (try clear hB KB); (try clear hK K)))
  · exact absurd hb (by decide)
  refine cw_loop (X := Nat) (fun i => mkSt [(1, .b (.c (.ptr 0 0))), (2, .b (.c (.ptr 1 0))), (4, .b (vP s)), (18, .b (I s.ops.length)), (19, .b (I i))]
    [(0, .fix ((scriptE s).map CV.p)), (1, .fix [.p (PI 0), .p (PI 0)])] 2) (fun i => i ≤ s.ops.length ∧ rxTo s i = []) (fun i => s.ops.length - i) 0 ?_ ?_ ?_
  · exact ⟨Nat.zero_le _, rfl⟩
  · refine le_a [(1, some 1)] ?_ ?_
    repeat' (refine And.intro ?_ ?_)
    all_goals first | exact le_cl | skip
  · rintro i ⟨hi, h0⟩
    rcases Nat.lt_or_ge i s.ops.length with hlt | hge
    · repeat' (first | with_reducible exact tr_a | refine un_a ?_ | ((first | refine st_a (fun K hK => ?_) | refine rg_a ?_ | refine call_c (table_sp) ?_ | refine gcall_c (fun hg => table_sp) ?_); (repeat' (refine And.intro ?_ ?_)); (all_goals first | (refine hK _ ?_; clear hK K) | exact auto_cl | skip)) | ((first | apply cw_ite | apply cw_iteN); (case hf => rfl); (case hc => exact ev_a); (all_goals first | (intro hb; (try simp only [hbs] at hb)) | skip)) | exact atN_intro | (refine if_a (fun hb => ?_) (fun hb => ?_); (all_goals (try first | with_reducible exact True.intro | (exfalso; omega)))) | refine cw_blocks (fun KB hB => ?_) | (refine hB _ ?_; clear hB KB) | refine exit_by (S := Sg) (by assumption) ?_ | (refine ret_a ?_; (try clear hB KB); (try clear hK K)))
      refine cw_loop (X := Nat) (fun n => mkSt [(1, .b (.c (.ptr 0 0))), (2, .b (.c (.ptr 1 0))), (4, .b (vP s)), (6, .b (I i)), (18, .b (I s.ops.length)), (19, .b (I i)), (23, .b (I 10)), (24, .b (I n))]
        [(0, .fix ((scriptE s).map CV.p)), (1, .fix [.p (PI 0), .p (PI 0)])] 2) (fun n => n ≤ 10 ∧ rxAt s i n = []) (fun n => 10 - n) 0 ?_ ?_ ?_
      · exact ⟨Nat.zero_le _, rfl⟩
      · refine le_a [(1, some 1)] ?_ ?_
        repeat' (refine And.intro ?_ ?_)
        all_goals first | exact le_cl | skip
      · rintro n ⟨hn10, h2⟩
        rcases Nat.lt_or_ge n 10 with hnl | hng
        · by_cases ha : apM s n i = true
          · repeat' (first | with_reducible exact tr_a | refine dec_a ha ?_ | refine un_a ?_ | ((first | refine st_a (fun K hK => ?_) | refine rg_a ?_ | refine call_c (applies_sp s V hs n i) ?_ | refine gcall_c (fun hg => applies_sp s V hs n i) ?_); (repeat' (refine And.intro ?_ ?_)); (all_goals first | (refine hK _ ?_; clear hK K) | exact auto_cl | skip)) | ((first | apply cw_ite | apply cw_iteN); (case hf => rfl); (case hc => exact ev_a); (all_goals first | (intro hb; (try simp only [hbs] at hb)) | skip)) | exact atN_intro | (refine if_a (fun hb => ?_) (fun hb => ?_); (all_goals (try first | with_reducible exact True.intro | (exfalso; omega)))) | refine cw_blocks (fun KB hB => ?_) | (refine hB _ ?_; clear hB KB) | refine exit_by (S := Sg) (by assumption) ?_ | (refine ret_a ?_; (try clear hB KB); (try clear hK K)))
            rw [firstV_head (rx_head hlt hnl h0 h2 ha)]
            rfl
          · have e : rxAt s i (n + 1) = [] := by rw [rxAt_succ, if_neg ha, h2]; rfl
            rw [Bool.not_eq_true] at ha
            repeat' (first | with_reducible exact tr_a | refine dec_a ha ?_ | refine un_a ?_ | ((first | refine st_a (fun K hK => ?_) | refine rg_a ?_ | refine call_c (applies_sp s V hs n i) ?_ | refine gcall_c (fun hg => applies_sp s V hs n i) ?_); (repeat' (refine And.intro ?_ ?_)); (all_goals first | (refine hK _ ?_; clear hK K) | exact auto_cl | skip)) | ((first | apply cw_ite | apply cw_iteN); (case hf => rfl); (case hc => exact ev_a); (all_goals first | (intro hb; (try simp only [hbs] at hb)) | skip)) | exact atN_intro | (refine if_a (fun hb => ?_) (fun hb => ?_); (all_goals (try first | with_reducible exact True.intro | (exfalso; omega)))) | refine cw_blocks (fun KB hB => ?_) | (refine hB _ ?_; clear hB KB) | refine exit_by (S := Sg) (by assumption) ?_ | (refine ret_a ?_; (try clear hB KB); (try clear hK K)))
            rw [thenQ_normal]
            refine wk_loop (n + 1) ?_ ⟨by omega, e⟩ (by omega)
            refine le_a [(1, some 1)] ?_ ?_
            repeat' (refine And.intro ?_ ?_)
            all_goals first | exact le_cl | skip
        · have hn2 : n = 10 := by omega
          subst hn2
          repeat' (first | with_reducible exact tr_a | refine un_a ?_ | ((first | refine st_a (fun K hK => ?_) | refine rg_a ?_); (repeat' (refine And.intro ?_ ?_)); (all_goals first | (refine hK _ ?_; clear hK K) | exact auto_cl | skip)) | ((first | apply cw_ite | apply cw_iteN); (case hf => rfl); (case hc => exact ev_a); (all_goals first | (intro hb; (try simp only [hbs] at hb)) | skip)) | exact atN_intro | (refine if_a (fun hb => ?_) (fun hb => ?_); (all_goals (try first | with_reducible exact True.intro | (exfalso; omega)))) | refine cw_blocks (fun KB hB => ?_) | (refine hB _ ?_; clear hB KB) | refine exit_by (S := Sg) (by assumption) ?_ | (refine ret_a ?_; (try clear hB KB); (try clear hK K)))
          rw [thenQ_normal]
          refine wk_loop (i + 1) ?_ ⟨by omega, by rw [rxTo_succ, h0, h2]; rfl⟩ (by omega)
          refine le_a [(1, some 1)] ?_ ?_
          repeat' (refine And.intro ?_ ?_)
          all_goals first | exact le_cl | skip
    · have hi2 : i = s.ops.length := by omega
      subst hi2
      repeat' (first | with_reducible exact tr_a | refine un_a ?_ | ((first | refine st_a (fun K hK => ?_) | refine rg_a ?_); (repeat' (refine And.intro ?_ ?_)); (all_goals first | (refine hK _ ?_; clear hK K) | exact auto_cl | skip)) | ((first | apply cw_ite | apply cw_iteN); (case hf => rfl); (case hc => exact ev_a); (all_goals first | (intro hb; (try simp only [hbs] at hb)) | skip)) | exact atN_intro | (refine if_a (fun hb => ?_) (fun hb => ?_); (all_goals (try first | with_reducible exact True.intro | (exfalso; omega)))) | refine cw_blocks (fun KB hB => ?_) | (refine hB _ ?_; clear hB KB) | refine exit_by (S := Sg) (by assumption) ?_ | (refine ret_a ?_; (try clear hB KB); (try clear hK K)))
      rw [firstV_nil h0]
      rfl
theorem Rewrite_yes (s : Script) (V : VOps s) (hs : ScriptLen s) (r : Rx) (ha : apM s r.1 r.2 = true) : Pure Sg 69 [ag (scriptE s), ag (rxE r)] (fun x => x = .tup [.c (.p (opL (rwM s r.1.toNat r.2.toNat))), I 0]) := by
  have hn := V.cnt
  have h1 := look_spec s V hs (ops_ok V)
  have h2 := applies_sp s V hs r.1 r.2
  rw [ha] at h2
  obtain ⟨n, i⟩ := r
  dsimp only at ha h2 ⊢
  obtain ⟨⟨g1, g2⟩, g3, g4, g5, g6⟩ := apM_lt ha
  obtain ⟨k, rfl⟩ := Int.eq_ofNat_of_zero_le g3
  have hi : k < s.ops.length := g4
  have hv : n = 1 ∨ n = 2 ∨ n = 3 ∨ n = 4 ∨ n = 5 ∨ n = 6 ∨ n = 7 ∨ n = 8 ∨ n = 9 := by omega
  rcases hv with rfl | rfl | rfl | rfl | rfl | rfl | rfl | rfl | rfl
  · have ht : tblF 1 1 = fnV 129 := rfl
    refine pure_of Tryz.func69 rfl (rs := [.tmp 4, .tmp 5]) rfl rfl mixed (by decide +kernel) (Nat.le_of_ble_eq_true rfl) (argsLt_mem (by simp (maxSteps := 1000000) (disch := omega) only [go_sem])) ?_
    repeat' (first | with_reducible exact tr_a | refine un_a ?_ | ((first | refine st_a (fun K hK => ?_) | refine rg_a ?_ | refine call_c (h1) ?_ | refine gcall_c (fun hg => h1) ?_ | refine call_c (h2) ?_ | refine gcall_c (fun hg => h2) ?_ | refine call_c (table_sp) ?_ | refine gcall_c (fun hg => table_sp) ?_); (repeat' (refine And.intro ?_ ?_)); (all_goals first | (refine hK _ ?_; clear hK K) | exact auto_cl | skip)) | ((first | apply cw_ite | apply cw_iteN); (case hf => rfl); (case hc => exact ev_a); (all_goals first | (intro hb; (try simp only [hbs] at hb)) | skip)) | exact atN_intro | (refine if_a (fun hb => ?_) (fun hb => ?_); (all_goals (try first | with_reducible exact True.intro | (exfalso; omega)))) | refine cw_blocks (fun KB hB => ?_) | (refine hB _ ?_; clear hB KB) | refine exit_by (S := Sg) (by assumption) ?_ | (refine ret_a ?_; (try clear hB KB); (try clear hK K)))
    · exact absurd hb (by decide)
    · simp (maxSteps := 1000000) (disch := omega) only [go_sem, ht, fnV, chgV]
      refine call_a (removed_sp s V k hi) ?_
      simp (maxSteps := 1000000) (disch := omega) only [go_sem]
      refine hK _ ?_
      clear hK
      repeat' (first | with_reducible exact tr_a | refine un_a ?_ | ((first | refine st_a (fun K hK => ?_) | refine rg_a ?_); (repeat' (refine And.intro ?_ ?_)); (all_goals first | (refine hK _ ?_; clear hK K) | exact auto_cl | skip)) | ((first | apply cw_ite | apply cw_iteN); (case hf => rfl); (case hc => exact ev_a); (all_goals first | (intro hb; (try simp only [hbs] at hb)) | skip)) | exact atN_intro | (refine if_a (fun hb => ?_) (fun hb => ?_); (all_goals (try first | with_reducible exact True.intro | (exfalso; omega)))) | refine cw_blocks (fun KB hB => ?_) | (refine hB _ ?_; clear hB KB) | refine exit_by (S := Sg) (by assumption) ?_ | (refine ret_a ?_; (try clear hB KB); (try clear hK K)))
      rfl
  · have ht : tblF 2 1 = fnV 129 := rfl
    refine pure_of Tryz.func69 rfl (rs := [.tmp 4, .tmp 5]) rfl rfl mixed (by decide +kernel) (Nat.le_of_ble_eq_true rfl) (argsLt_mem (by simp (maxSteps := 1000000) (disch := omega) only [go_sem])) ?_
    repeat' (first | with_reducible exact tr_a | refine un_a ?_ | ((first | refine st_a (fun K hK => ?_) | refine rg_a ?_ | refine call_c (h1) ?_ | refine gcall_c (fun hg => h1) ?_ | refine call_c (h2) ?_ | refine gcall_c (fun hg => h2) ?_ | refine call_c (table_sp) ?_ | refine gcall_c (fun hg => table_sp) ?_); (repeat' (refine And.intro ?_ ?_)); (all_goals first | (refine hK _ ?_; clear hK K) | exact auto_cl | skip)) | ((first | apply cw_ite | apply cw_iteN); (case hf => rfl); (case hc => exact ev_a); (all_goals first | (intro hb; (try simp only [hbs] at hb)) | skip)) | exact atN_intro | (refine if_a (fun hb => ?_) (fun hb => ?_); (all_goals (try first | with_reducible exact True.intro | (exfalso; omega)))) | refine cw_blocks (fun KB hB => ?_) | (refine hB _ ?_; clear hB KB) | refine exit_by (S := Sg) (by assumption) ?_ | (refine ret_a ?_; (try clear hB KB); (try clear hK K)))
    · exact absurd hb (by decide)
    · simp (maxSteps := 1000000) (disch := omega) only [go_sem, ht, fnV, chgV]
      refine call_a (removed_sp s V k hi) ?_
      simp (maxSteps := 1000000) (disch := omega) only [go_sem]
      refine hK _ ?_
      clear hK
      repeat' (first | with_reducible exact tr_a | refine un_a ?_ | ((first | refine st_a (fun K hK => ?_) | refine rg_a ?_); (repeat' (refine And.intro ?_ ?_)); (all_goals first | (refine hK _ ?_; clear hK K) | exact auto_cl | skip)) | ((first | apply cw_ite | apply cw_iteN); (case hf => rfl); (case hc => exact ev_a); (all_goals first | (intro hb; (try simp only [hbs] at hb)) | skip)) | exact atN_intro | (refine if_a (fun hb => ?_) (fun hb => ?_); (all_goals (try first | with_reducible exact True.intro | (exfalso; omega)))) | refine cw_blocks (fun KB hB => ?_) | (refine hB _ ?_; clear hB KB) | refine exit_by (S := Sg) (by assumption) ?_ | (refine ret_a ?_; (try clear hB KB); (try clear hK K)))
      rfl
  · have ht : tblF 3 1 = fnV 129 := rfl
    refine pure_of Tryz.func69 rfl (rs := [.tmp 4, .tmp 5]) rfl rfl mixed (by decide +kernel) (Nat.le_of_ble_eq_true rfl) (argsLt_mem (by simp (maxSteps := 1000000) (disch := omega) only [go_sem])) ?_
    repeat' (first | with_reducible exact tr_a | refine un_a ?_ | ((first | refine st_a (fun K hK => ?_) | refine rg_a ?_ | refine call_c (h1) ?_ | refine gcall_c (fun hg => h1) ?_ | refine call_c (h2) ?_ | refine gcall_c (fun hg => h2) ?_ | refine call_c (table_sp) ?_ | refine gcall_c (fun hg => table_sp) ?_); (repeat' (refine And.intro ?_ ?_)); (all_goals first | (refine hK _ ?_; clear hK K) | exact auto_cl | skip)) | ((first | apply cw_ite | apply cw_iteN); (case hf => rfl); (case hc => exact ev_a); (all_goals first | (intro hb; (try simp only [hbs] at hb)) | skip)) | exact atN_intro | (refine if_a (fun hb => ?_) (fun hb => ?_); (all_goals (try first | with_reducible exact True.intro | (exfalso; omega)))) | refine cw_blocks (fun KB hB => ?_) | (refine hB _ ?_; clear hB KB) | refine exit_by (S := Sg) (by assumption) ?_ | (refine ret_a ?_; (try clear hB KB); (try clear hK K)))
    · exact absurd hb (by decide)
    · simp (maxSteps := 1000000) (disch := omega) only [go_sem, ht, fnV, chgV]
      refine call_a (removed_sp s V k hi) ?_
      simp (maxSteps := 1000000) (disch := omega) only [go_sem]
      refine hK _ ?_
      clear hK
      repeat' (first | with_reducible exact tr_a | refine un_a ?_ | ((first | refine st_a (fun K hK => ?_) | refine rg_a ?_); (repeat' (refine And.intro ?_ ?_)); (all_goals first | (refine hK _ ?_; clear hK K) | exact auto_cl | skip)) | ((first | apply cw_ite | apply cw_iteN); (case hf => rfl); (case hc => exact ev_a); (all_goals first | (intro hb; (try simp only [hbs] at hb)) | skip)) | exact atN_intro | (refine if_a (fun hb => ?_) (fun hb => ?_); (all_goals (try first | with_reducible exact True.intro | (exfalso; omega)))) | refine cw_blocks (fun KB hB => ?_) | (refine hB _ ?_; clear hB KB) | refine exit_by (S := Sg) (by assumption) ?_ | (refine ret_a ?_; (try clear hB KB); (try clear hK K)))
      rfl
  · have ht : tblF 4 1 = fnV 129 := rfl
    refine pure_of Tryz.func69 rfl (rs := [.tmp 4, .tmp 5]) rfl rfl mixed (by decide +kernel) (Nat.le_of_ble_eq_true rfl) (argsLt_mem (by simp (maxSteps := 1000000) (disch := omega) only [go_sem])) ?_
    repeat' (first | with_reducible exact tr_a | refine un_a ?_ | ((first | refine st_a (fun K hK => ?_) | refine rg_a ?_ | refine call_c (h1) ?_ | refine gcall_c (fun hg => h1) ?_ | refine call_c (h2) ?_ | refine gcall_c (fun hg => h2) ?_ | refine call_c (table_sp) ?_ | refine gcall_c (fun hg => table_sp) ?_); (repeat' (refine And.intro ?_ ?_)); (all_goals first | (refine hK _ ?_; clear hK K) | exact auto_cl | skip)) | ((first | apply cw_ite | apply cw_iteN); (case hf => rfl); (case hc => exact ev_a); (all_goals first | (intro hb; (try simp only [hbs] at hb)) | skip)) | exact atN_intro | (refine if_a (fun hb => ?_) (fun hb => ?_); (all_goals (try first | with_reducible exact True.intro | (exfalso; omega)))) | refine cw_blocks (fun KB hB => ?_) | (refine hB _ ?_; clear hB KB) | refine exit_by (S := Sg) (by assumption) ?_ | (refine ret_a ?_; (try clear hB KB); (try clear hK K)))
    · exact absurd hb (by decide)
    · simp (maxSteps := 1000000) (disch := omega) only [go_sem, ht, fnV, chgV]
      refine call_a (removed_sp s V k hi) ?_
      simp (maxSteps := 1000000) (disch := omega) only [go_sem]
      refine hK _ ?_
      clear hK
      repeat' (first | with_reducible exact tr_a | refine un_a ?_ | ((first | refine st_a (fun K hK => ?_) | refine rg_a ?_); (repeat' (refine And.intro ?_ ?_)); (all_goals first | (refine hK _ ?_; clear hK K) | exact auto_cl | skip)) | ((first | apply cw_ite | apply cw_iteN); (case hf => rfl); (case hc => exact ev_a); (all_goals first | (intro hb; (try simp only [hbs] at hb)) | skip)) | exact atN_intro | (refine if_a (fun hb => ?_) (fun hb => ?_); (all_goals (try first | with_reducible exact True.intro | (exfalso; omega)))) | refine cw_blocks (fun KB hB => ?_) | (refine hB _ ?_; clear hB KB) | refine exit_by (S := Sg) (by assumption) ?_ | (refine ret_a ?_; (try clear hB KB); (try clear hK K)))
      rfl
  · have ht : tblF 5 1 = chgV 135 := rfl
    refine pure_of Tryz.func69 rfl (rs := [.tmp 4, .tmp 5]) rfl rfl mixed (by decide +kernel) (Nat.le_of_ble_eq_true rfl) (argsLt_mem (by simp (maxSteps := 1000000) (disch := omega) only [go_sem])) ?_
    repeat' (first | with_reducible exact tr_a | refine un_a ?_ | ((first | refine st_a (fun K hK => ?_) | refine rg_a ?_ | refine call_c (h1) ?_ | refine gcall_c (fun hg => h1) ?_ | refine call_c (h2) ?_ | refine gcall_c (fun hg => h2) ?_ | refine call_c (table_sp) ?_ | refine gcall_c (fun hg => table_sp) ?_); (repeat' (refine And.intro ?_ ?_)); (all_goals first | (refine hK _ ?_; clear hK K) | exact auto_cl | skip)) | ((first | apply cw_ite | apply cw_iteN); (case hf => rfl); (case hc => exact ev_a); (all_goals first | (intro hb; (try simp only [hbs] at hb)) | skip)) | exact atN_intro | (refine if_a (fun hb => ?_) (fun hb => ?_); (all_goals (try first | with_reducible exact True.intro | (exfalso; omega)))) | refine cw_blocks (fun KB hB => ?_) | (refine hB _ ?_; clear hB KB) | refine exit_by (S := Sg) (by assumption) ?_ | (refine ret_a ?_; (try clear hB KB); (try clear hK K)))
    · exact absurd hb (by decide)
    · simp (maxSteps := 1000000) (disch := omega) only [go_sem, ht, fnV, chgV]
      refine call_a (args := [vP s, I k, .c (.ipt 1 (fun _ => fnV 135) 0)]) (chg1_sp s V k hi) ?_
      simp (maxSteps := 1000000) (disch := omega) only [go_sem]
      refine hK _ ?_
      clear hK
      repeat' (first | with_reducible exact tr_a | refine un_a ?_ | ((first | refine st_a (fun K hK => ?_) | refine rg_a ?_); (repeat' (refine And.intro ?_ ?_)); (all_goals first | (refine hK _ ?_; clear hK K) | exact auto_cl | skip)) | ((first | apply cw_ite | apply cw_iteN); (case hf => rfl); (case hc => exact ev_a); (all_goals first | (intro hb; (try simp only [hbs] at hb)) | skip)) | exact atN_intro | (refine if_a (fun hb => ?_) (fun hb => ?_); (all_goals (try first | with_reducible exact True.intro | (exfalso; omega)))) | refine cw_blocks (fun KB hB => ?_) | (refine hB _ ?_; clear hB KB) | refine exit_by (S := Sg) (by assumption) ?_ | (refine ret_a ?_; (try clear hB KB); (try clear hK K)))
      rfl
  · have ht : tblF 6 1 = chgV 137 := rfl
    refine pure_of Tryz.func69 rfl (rs := [.tmp 4, .tmp 5]) rfl rfl mixed (by decide +kernel) (Nat.le_of_ble_eq_true rfl) (argsLt_mem (by simp (maxSteps := 1000000) (disch := omega) only [go_sem])) ?_
    repeat' (first | with_reducible exact tr_a | refine un_a ?_ | ((first | refine st_a (fun K hK => ?_) | refine rg_a ?_ | refine call_c (h1) ?_ | refine gcall_c (fun hg => h1) ?_ | refine call_c (h2) ?_ | refine gcall_c (fun hg => h2) ?_ | refine call_c (table_sp) ?_ | refine gcall_c (fun hg => table_sp) ?_); (repeat' (refine And.intro ?_ ?_)); (all_goals first | (refine hK _ ?_; clear hK K) | exact auto_cl | skip)) | ((first | apply cw_ite | apply cw_iteN); (case hf => rfl); (case hc => exact ev_a); (all_goals first | (intro hb; (try simp only [hbs] at hb)) | skip)) | exact atN_intro | (refine if_a (fun hb => ?_) (fun hb => ?_); (all_goals (try first | with_reducible exact True.intro | (exfalso; omega)))) | refine cw_blocks (fun KB hB => ?_) | (refine hB _ ?_; clear hB KB) | refine exit_by (S := Sg) (by assumption) ?_ | (refine ret_a ?_; (try clear hB KB); (try clear hK K)))
    · exact absurd hb (by decide)
    · simp (maxSteps := 1000000) (disch := omega) only [go_sem, ht, fnV, chgV]
      refine call_a (args := [vP s, I k, .c (.ipt 1 (fun _ => fnV 137) 0)]) (chg2_sp s V k hi) ?_
      simp (maxSteps := 1000000) (disch := omega) only [go_sem]
      refine hK _ ?_
      clear hK
      repeat' (first | with_reducible exact tr_a | refine un_a ?_ | ((first | refine st_a (fun K hK => ?_) | refine rg_a ?_); (repeat' (refine And.intro ?_ ?_)); (all_goals first | (refine hK _ ?_; clear hK K) | exact auto_cl | skip)) | ((first | apply cw_ite | apply cw_iteN); (case hf => rfl); (case hc => exact ev_a); (all_goals first | (intro hb; (try simp only [hbs] at hb)) | skip)) | exact atN_intro | (refine if_a (fun hb => ?_) (fun hb => ?_); (all_goals (try first | with_reducible exact True.intro | (exfalso; omega)))) | refine cw_blocks (fun KB hB => ?_) | (refine hB _ ?_; clear hB KB) | refine exit_by (S := Sg) (by assumption) ?_ | (refine ret_a ?_; (try clear hB KB); (try clear hK K)))
      rfl
  · have ht : tblF 7 1 = chgV 139 := rfl
    refine pure_of Tryz.func69 rfl (rs := [.tmp 4, .tmp 5]) rfl rfl mixed (by decide +kernel) (Nat.le_of_ble_eq_true rfl) (argsLt_mem (by simp (maxSteps := 1000000) (disch := omega) only [go_sem])) ?_
    repeat' (first | with_reducible exact tr_a | refine un_a ?_ | ((first | refine st_a (fun K hK => ?_) | refine rg_a ?_ | refine call_c (h1) ?_ | refine gcall_c (fun hg => h1) ?_ | refine call_c (h2) ?_ | refine gcall_c (fun hg => h2) ?_ | refine call_c (table_sp) ?_ | refine gcall_c (fun hg => table_sp) ?_); (repeat' (refine And.intro ?_ ?_)); (all_goals first | (refine hK _ ?_; clear hK K) | exact auto_cl | skip)) | ((first | apply cw_ite | apply cw_iteN); (case hf => rfl); (case hc => exact ev_a); (all_goals first | (intro hb; (try simp only [hbs] at hb)) | skip)) | exact atN_intro | (refine if_a (fun hb => ?_) (fun hb => ?_); (all_goals (try first | with_reducible exact True.intro | (exfalso; omega)))) | refine cw_blocks (fun KB hB => ?_) | (refine hB _ ?_; clear hB KB) | refine exit_by (S := Sg) (by assumption) ?_ | (refine ret_a ?_; (try clear hB KB); (try clear hK K)))
    · exact absurd hb (by decide)
    · simp (maxSteps := 1000000) (disch := omega) only [go_sem, ht, fnV, chgV]
      refine call_a (args := [vP s, I k, .c (.ipt 1 (fun _ => fnV 139) 0)]) (chg3_sp s V k hi) ?_
      simp (maxSteps := 1000000) (disch := omega) only [go_sem]
      refine hK _ ?_
      clear hK
      repeat' (first | with_reducible exact tr_a | refine un_a ?_ | ((first | refine st_a (fun K hK => ?_) | refine rg_a ?_); (repeat' (refine And.intro ?_ ?_)); (all_goals first | (refine hK _ ?_; clear hK K) | exact auto_cl | skip)) | ((first | apply cw_ite | apply cw_iteN); (case hf => rfl); (case hc => exact ev_a); (all_goals first | (intro hb; (try simp only [hbs] at hb)) | skip)) | exact atN_intro | (refine if_a (fun hb => ?_) (fun hb => ?_); (all_goals (try first | with_reducible exact True.intro | (exfalso; omega)))) | refine cw_blocks (fun KB hB => ?_) | (refine hB _ ?_; clear hB KB) | refine exit_by (S := Sg) (by assumption) ?_ | (refine ret_a ?_; (try clear hB KB); (try clear hK K)))
      rfl
  · have ht : tblF 8 1 = chgV 141 := rfl
    refine pure_of Tryz.func69 rfl (rs := [.tmp 4, .tmp 5]) rfl rfl mixed (by decide +kernel) (Nat.le_of_ble_eq_true rfl) (argsLt_mem (by simp (maxSteps := 1000000) (disch := omega) only [go_sem])) ?_
    repeat' (first | with_reducible exact tr_a | refine un_a ?_ | ((first | refine st_a (fun K hK => ?_) | refine rg_a ?_ | refine call_c (h1) ?_ | refine gcall_c (fun hg => h1) ?_ | refine call_c (h2) ?_ | refine gcall_c (fun hg => h2) ?_ | refine call_c (table_sp) ?_ | refine gcall_c (fun hg => table_sp) ?_); (repeat' (refine And.intro ?_ ?_)); (all_goals first | (refine hK _ ?_; clear hK K) | exact auto_cl | skip)) | ((first | apply cw_ite | apply cw_iteN); (case hf => rfl); (case hc => exact ev_a); (all_goals first | (intro hb; (try simp only [hbs] at hb)) | skip)) | exact atN_intro | (refine if_a (fun hb => ?_) (fun hb => ?_); (all_goals (try first | with_reducible exact True.intro | (exfalso; omega)))) | refine cw_blocks (fun KB hB => ?_) | (refine hB _ ?_; clear hB KB) | refine exit_by (S := Sg) (by assumption) ?_ | (refine ret_a ?_; (try clear hB KB); (try clear hK K)))
    · exact absurd hb (by decide)
    · simp (maxSteps := 1000000) (disch := omega) only [go_sem, ht, fnV, chgV]
      refine call_a (args := [vP s, I k, .c (.ipt 1 (fun _ => fnV 141) 0)]) (chg4_sp s V k hi) ?_
      simp (maxSteps := 1000000) (disch := omega) only [go_sem]
      refine hK _ ?_
      clear hK
      repeat' (first | with_reducible exact tr_a | refine un_a ?_ | ((first | refine st_a (fun K hK => ?_) | refine rg_a ?_); (repeat' (refine And.intro ?_ ?_)); (all_goals first | (refine hK _ ?_; clear hK K) | exact auto_cl | skip)) | ((first | apply cw_ite | apply cw_iteN); (case hf => rfl); (case hc => exact ev_a); (all_goals first | (intro hb; (try simp only [hbs] at hb)) | skip)) | exact atN_intro | (refine if_a (fun hb => ?_) (fun hb => ?_); (all_goals (try first | with_reducible exact True.intro | (exfalso; omega)))) | refine cw_blocks (fun KB hB => ?_) | (refine hB _ ?_; clear hB KB) | refine exit_by (S := Sg) (by assumption) ?_ | (refine ret_a ?_; (try clear hB KB); (try clear hK K)))
      rfl
  · have ht : tblF 9 1 = fnV 143 := rfl
    have hu : (opAt s.ops k).kind = 2 ∧ 1 ≤ kidsM s.ops k := by
      have g6 : unwM s k = true := g6
      simp only [unwM, Bool.and_eq_true, decide_eq_true_eq] at g6
      exact ⟨g6.1.1.1, by omega⟩
    refine pure_of Tryz.func69 rfl (rs := [.tmp 4, .tmp 5]) rfl rfl mixed (by decide +kernel) (Nat.le_of_ble_eq_true rfl) (argsLt_mem (by simp (maxSteps := 1000000) (disch := omega) only [go_sem])) ?_
    repeat' (first | with_reducible exact tr_a | refine un_a ?_ | ((first | refine st_a (fun K hK => ?_) | refine rg_a ?_ | refine call_c (h1) ?_ | refine gcall_c (fun hg => h1) ?_ | refine call_c (h2) ?_ | refine gcall_c (fun hg => h2) ?_ | refine call_c (table_sp) ?_ | refine gcall_c (fun hg => table_sp) ?_); (repeat' (refine And.intro ?_ ?_)); (all_goals first | (refine hK _ ?_; clear hK K) | exact auto_cl | skip)) | ((first | apply cw_ite | apply cw_iteN); (case hf => rfl); (case hc => exact ev_a); (all_goals first | (intro hb; (try simp only [hbs] at hb)) | skip)) | exact atN_intro | (refine if_a (fun hb => ?_) (fun hb => ?_); (all_goals (try first | with_reducible exact True.intro | (exfalso; omega)))) | refine cw_blocks (fun KB hB => ?_) | (refine hB _ ?_; clear hB KB) | refine exit_by (S := Sg) (by assumption) ?_ | (refine ret_a ?_; (try clear hB KB); (try clear hK K)))
    · exact absurd hb (by decide)
    · simp (maxSteps := 1000000) (disch := omega) only [go_sem, ht, fnV, chgV]
      refine call_a (unwrapped_sp s V k hi hu.1 hu.2) ?_
      simp (maxSteps := 1000000) (disch := omega) only [go_sem]
      refine hK _ ?_
      clear hK
      repeat' (first | with_reducible exact tr_a | refine un_a ?_ | ((first | refine st_a (fun K hK => ?_) | refine rg_a ?_); (repeat' (refine And.intro ?_ ?_)); (all_goals first | (refine hK _ ?_; clear hK K) | exact auto_cl | skip)) | ((first | apply cw_ite | apply cw_iteN); (case hf => rfl); (case hc => exact ev_a); (all_goals first | (intro hb; (try simp only [hbs] at hb)) | skip)) | exact atN_intro | (refine if_a (fun hb => ?_) (fun hb => ?_); (all_goals (try first | with_reducible exact True.intro | (exfalso; omega)))) | refine cw_blocks (fun KB hB => ?_) | (refine hB _ ?_; clear hB KB) | refine exit_by (S := Sg) (by assumption) ?_ | (refine ret_a ?_; (try clear hB KB); (try clear hK K)))
      rfl
end Go.Proofs.YtbpplplnkgmhlaaGreatDoor

/- The script that comes out of a rule, and simplifying. -/
set_option maxHeartbeats 2000000
set_option maxRecDepth 16000
namespace Go.Proofs.YtbpplplnkgmhlaaGreatDoor
open Go Go.SL
open Go.RowKit (wrap64)
attribute [local go_sem] Int.toNat_natCast rxE

structure Sml (s : Script) : Prop where
  order : s.order.length ≤ 1000000000
  im0 : 0 < s.images.length
  im : s.images.length ≤ 1000000000
  p0 : ∀ i, i < s.images.length → (s.images.getD i default).p0.s.length ≤ 1000000000
  p1 : ∀ i, i < s.images.length → (s.images.getD i default).p1.s.length ≤ 1000000000
  p2 : ∀ i, i < s.images.length → (s.images.getD i default).p2.s.length ≤ 1000000000
  p3 : ∀ i, i < s.images.length → (s.images.getD i default).p3.s.length ≤ 1000000000
  p4 : ∀ i, i < s.images.length → (s.images.getD i default).p4.s.length ≤ 1000000000
theorem call_img {st : St} {K : SV → St → Prop} (n : Nat) (g : Nat → Nat → PV) (h0 : 0 < n) (hn : n ≤ 1000000000) (hw : WfN 0 st)
    (hK : ∀ G : Nat → Nat → PV, K (.b (.c (.own (st.nx + 1) n))) (st.turn (bxIns (st.nx + 1) (.arr 79 28 n g) (bxDel st.nx (bxIns st.nx (.arr 79 28 0 G) st.bx))) (st.nx + 2))) :
    CallS Sg st 124 [.c (.p (.lst 28 n g))] (Sl.of K) := by
  obtain ⟨F, hF, G, hI⟩ := cloneImg_inl st.bx st.nx n g h0 hn hw.1
  have e : F = g := funext fun i => funext fun j => hF i j
  subst e
  refine call_inl hI rfl (fun i hi => ?_) (by omega) (hK G)
  simp only [bxIns, bxDel]
  rw [if_neg (by omega), if_neg (by omega), if_neg (by omega)]
  exact hw.1 i (by omega)
def withB (s : Script) (l : List Op) : List (Nat × Bx) := [(0, .fix [.p (PI s.bits), .p (PI s.canvas.x0), .p (PI s.canvas.y0), .p (PI s.canvas.x1), .p (PI s.canvas.y1), .p (PI s.tileW), .p (PI s.tileH), .p (ints s.order), .own 2 s.images.length, .p (opL l)]),
  (1, .fix [.p (PI 0), .p (PI 0), .p (PI 0), .p (PI 0), .p (PI 0), .p (PI 0), .p (PI 0), .p (.val (.slice none 0 0)), .p (.val (.slice none 0 0)), .p (.val (.slice none 0 0))]), (2, .arr 79 28 s.images.length (fnOf imageE s.images))]
attribute [local go_sem] withB
theorem With_sp (s : Script) (l : List Op) (H : Sml s) (hl : l.length ≤ 1000000000) : Pure Sg 70 [ag (scriptE s), .c (.p (opL l))] (fun x => x = .b (ag (scriptE (withOps s l)))) := by
  obtain ⟨b1, b2, b3, q0, q1, q2, q3, q4⟩ := id H
  have hci := cloneI_spec s.order.length (fnOf intE s.order) b1
  refine pure_of Tryz.func70 rfl (rs := [.cell 4 36]) rfl rfl mixed (by decide +kernel) (Nat.le_of_ble_eq_true rfl) (argsLt_mem (by simp (maxSteps := 1000000) (disch := omega) only [go_sem])) ?_
  repeat' (first | with_reducible exact tr_a | refine un_a ?_ | ((with_reducible refine cw_stepV (id := 0) (fun K hW => ?_)); (try simp (maxSteps := 1000000) (disch := omega) only [go_sem]); (repeat' (refine And.intro ?_ ?_)); (all_goals first | (refine hK _ ?_; clear hK K) | exact auto_cl | skip)) | ((first | refine st_a (fun K hK => ?_) | refine rg_a ?_); (repeat' (refine And.intro ?_ ?_)); (all_goals first | (refine hK _ ?_; clear hK K) | exact auto_cl | skip)) | ((first | apply cw_ite | apply cw_iteN); (case hf => rfl); (case hc => exact ev_a); (all_goals first | (intro hb; (try simp only [hbs] at hb)) | skip)) | exact atN_intro | (refine if_a (fun hb => ?_) (fun hb => ?_); (all_goals (try first | with_reducible exact True.intro | (exfalso; omega)))) | refine cw_blocks (fun KB hB => ?_) | (refine hB _ ?_; clear hB KB) | refine exit_by (S := Sg) (by assumption) ?_ | (refine ret_a ?_; (try clear hB KB); (try clear hK K)))
  refine hW _ (mkSt [(1, .b (.c (.p (opL l)))), (2, .b (.c (.ptr 0 0))), (4, .b (.c (.ptr 1 0)))] [(0, .fix ((scriptE s).map CV.p)), (1, .fix [.p (PI 0), .p (PI 0), .p (PI 0), .p (PI 0), .p (PI 0), .p (PI 0), .p (PI 0), .p (.val (.slice none 0 0)), .p (.val (.slice none 0 0)), .p (.val (.slice none 0 0))])] 2) ?_ ?_
  · refine le_a [(1, some 1)] ?_ ?_
    repeat' (refine And.intro ?_ ?_)
    all_goals first | exact le_cl | skip
  clear hW
  refine cw_stepR (id := 1) (.br 0 (.br 1 (.br 2 (.br 4 (.br 3 (.br 5 (.br 7 (.br 6 (.br 8 (.br 9 (.br 10 (.br 11 (.br 12 .leaf .nil) .nil) .nil) .nil) .nil) .nil) .nil) .nil) (.br 5 (.br 7 (.br 3 (.br 6 (.br 8 (.br 9 (.br 10 (.br 11 (.br 12 .leaf .nil) .nil) .nil) .nil) .nil) .nil) .nil) .nil) .nil)) .nil) .nil) .nil) .nil) (by decide +kernel) (by exact wf_a) (fun K0 hW => ?_)
  refine (fun (tl : ∀ st, Le st (mkSt [(2, .b (.c (.ptr 0 0))), (4, .b (.c (.ptr 1 0)))] (withB s l) 3) → K0 st) => ?_) (fun st hl => hW st _ hl ?_)
  · clear hW
    repeat' (first | exact tree_nil | (refine tree_br (fun K' hK' => ?_) ?_) | (refine tree_leaf (tl _ ?_); clear tl) | ((first | refine call_c (hci) ?_ | refine gcall_c (fun hg => hci) ?_); (try simp (maxSteps := 1000000) (disch := omega) only [go_sem]); (repeat' (refine And.intro ?_ ?_)); (all_goals first | (refine hK' _ ?_; clear hK' K') | trivial | omega | exact Nat.le_of_ble_eq_true rfl | exact auto_cl | skip)) | (simp (maxSteps := 1000000) (disch := omega) only [go_sem]; (repeat' (refine And.intro ?_ ?_)); (all_goals first | (refine hK' _ ?_; clear hK' K') | trivial | omega | exact Nat.le_of_ble_eq_true rfl | exact auto_cl | skip)))
    all_goals
      refine call_img s.images.length (fnOf imageE s.images) b2 b3 ?_ (fun G => ?_)
      · exact wf_a
      refine hK' _ ?_
      clear hK' K'
      repeat' (first | exact tree_nil | (refine tree_br (fun K' hK' => ?_) ?_) | (refine tree_leaf (tl _ ?_); clear tl) | ((first | refine call_c (hci) ?_ | refine gcall_c (fun hg => hci) ?_); (try simp (maxSteps := 1000000) (disch := omega) only [go_sem]); (repeat' (refine And.intro ?_ ?_)); (all_goals first | (refine hK' _ ?_; clear hK' K') | trivial | omega | exact Nat.le_of_ble_eq_true rfl | exact auto_cl | skip)) | (simp (maxSteps := 1000000) (disch := omega) only [go_sem]; (repeat' (refine And.intro ?_ ?_)); (all_goals first | (refine hK' _ ?_; clear hK' K') | trivial | omega | exact Nat.le_of_ble_eq_true rfl | exact auto_cl | skip)))
      refine le_a [(1, some 1), (2, some 3)] ?_ ?_
      repeat' (refine And.intro ?_ ?_)
      all_goals first | exact le_cl | skip
  clear hW
  repeat' (first | with_reducible exact tr_a | refine un_a ?_ | ((first | refine st_a (fun K hK => ?_) | refine rg_a ?_); (repeat' (refine And.intro ?_ ?_)); (all_goals first | (refine hK _ ?_; clear hK K) | exact auto_cl | skip)) | ((first | apply cw_ite | apply cw_iteN); (case hf => rfl); (case hc => exact ev_a); (all_goals first | (intro hb; (try simp only [hbs] at hb)) | skip)) | exact atN_intro | (refine if_a (fun hb => ?_) (fun hb => ?_); (all_goals (try first | with_reducible exact True.intro | (exfalso; omega)))) | refine cw_blocks (fun KB hB => ?_) | (refine hB _ ?_; clear hB KB) | refine exit_by (S := Sg) (by assumption) ?_ | (refine ret_a ?_; (try clear hB KB); (try clear hK K)))
  refine cw_loop (X := Nat) (fun i => mkSt [(2, .b (.c (.ptr 0 0))), (4, .b (.c (.ptr 1 0))), (20, .b (I s.images.length)), (21, .b (I i))] (withB s l) 3) (fun i => i ≤ s.images.length) (fun i => s.images.length - i) 0 ?_ ?_ ?_
  · exact Nat.zero_le _
  · refine le_a [(1, some 1), (2, some 2)] ?_ ?_
    repeat' (refine And.intro ?_ ?_)
    all_goals first | exact le_cl | skip
  · intro i hi
    rcases Nat.lt_or_ge i s.images.length with hlt | hge
    · repeat' (first | with_reducible exact tr_a | refine un_a ?_ | ((first | refine st_a (fun K hK => ?_) | refine rg_a ?_); (repeat' (refine And.intro ?_ ?_)); (all_goals first | (refine hK _ ?_; clear hK K) | exact auto_cl | skip)) | ((first | apply cw_ite | apply cw_iteN); (case hf => rfl); (case hc => exact ev_a); (all_goals first | (intro hb; (try simp only [hbs] at hb)) | skip)) | exact atN_intro | (refine if_a (fun hb => ?_) (fun hb => ?_); (all_goals (try first | with_reducible exact True.intro | (exfalso; omega)))) | refine cw_blocks (fun KB hB => ?_) | (refine hB _ ?_; clear hB KB) | refine exit_by (S := Sg) (by assumption) ?_ | (refine ret_a ?_; (try clear hB KB); (try clear hK K)))
      refine cw_loop (X := Nat) (fun k => mkSt [(2, .b (.c (.ptr 0 0))), (4, .b (.c (.ptr 1 0))), (5, .b (I i)), (6, .b (.c (.pel 2 28 i 8))), (20, .b (I s.images.length)), (21, .b (I i)), (29, .b (I k))] (withB s l) 3) (fun k => k ≤ 5) (fun k => 5 - k) 0 ?_ ?_ ?_
      · omega
      · refine le_a [(1, some 1), (2, some 2)] ?_ ?_
        repeat' (refine And.intro ?_ ?_)
        all_goals first | exact le_cl | skip
      · intro k hk
        have hcu : ∀ n g, n ≤ 1000000000 → _ := fun n g h => cloneU_spec n g h
        have w0 := q0 i hlt
        have w1 := q1 i hlt
        have w2 := q2 i hlt
        have w3 := q3 i hlt
        have w4 := q4 i hlt
        have hkv : k = 0 ∨ k = 1 ∨ k = 2 ∨ k = 3 ∨ k = 4 ∨ k = 5 := by omega
        rcases hkv with rfl | rfl | rfl | rfl | rfl | rfl
        · repeat' (first | with_reducible exact tr_a | refine un_a ?_ | ((first | refine st_a (fun K hK => ?_) | refine rg_a ?_ | refine call_c (cloneU_spec _ _ w0) ?_ | refine gcall_c (fun hg => cloneU_spec _ _ w0) ?_); (repeat' (refine And.intro ?_ ?_)); (all_goals first | (refine hK _ ?_; clear hK K) | exact auto_cl | skip)) | ((first | apply cw_ite | apply cw_iteN); (case hf => rfl); (case hc => exact ev_a); (all_goals first | (intro hb; (try simp only [hbs] at hb)) | skip)) | exact atN_intro | (refine if_a (fun hb => ?_) (fun hb => ?_); (all_goals (try first | with_reducible exact True.intro | (exfalso; omega)))) | refine cw_blocks (fun KB hB => ?_) | (refine hB _ ?_; clear hB KB) | refine exit_by (S := Sg) (by assumption) ?_ | (refine ret_a ?_; (try clear hB KB); (try clear hK K)))
          rw [thenQ_normal]
          refine wk_loop 1 ?_ (by omega) (by omega)
          refine le_a [(1, some 1), (2, some 2)] ?_ ?_
          repeat' (refine And.intro ?_ ?_)
          all_goals first | exact le_cl | skip
          refine .inr fun a ha j hj => ?_
          by_cases e : a = i
          · rw [if_pos e, e]
            have hivl : j = 0 ∨ j = 1 ∨ j = 2 ∨ j = 3 ∨ j = 4 ∨ j = 5 ∨ j = 6 ∨ j = 7 ∨ j = 8 ∨ j = 9 ∨ j = 10 ∨ j = 11 ∨ j = 12 ∨ j = 13 ∨ j = 14 ∨ j = 15 ∨ j = 16 ∨ j = 17 ∨ j = 18 ∨ j = 19 ∨ j = 20 ∨ j = 21 ∨ j = 22 ∨ j = 23 ∨ j = 24 ∨ j = 25 ∨ j = 26 ∨ j = 27 := by omega
            rcases hivl with rfl | rfl | rfl | rfl | rfl | rfl | rfl | rfl | rfl | rfl | rfl | rfl | rfl | rfl | rfl | rfl | rfl | rfl | rfl | rfl | rfl | rfl | rfl | rfl | rfl | rfl | rfl | rfl <;> exact fun _ _ _ h => h
          · rw [if_neg e]
            exact fun _ _ _ h => h
        · repeat' (first | with_reducible exact tr_a | refine un_a ?_ | ((first | refine st_a (fun K hK => ?_) | refine rg_a ?_ | refine call_c (cloneU_spec _ _ w1) ?_ | refine gcall_c (fun hg => cloneU_spec _ _ w1) ?_); (repeat' (refine And.intro ?_ ?_)); (all_goals first | (refine hK _ ?_; clear hK K) | exact auto_cl | skip)) | ((first | apply cw_ite | apply cw_iteN); (case hf => rfl); (case hc => exact ev_a); (all_goals first | (intro hb; (try simp only [hbs] at hb)) | skip)) | exact atN_intro | (refine if_a (fun hb => ?_) (fun hb => ?_); (all_goals (try first | with_reducible exact True.intro | (exfalso; omega)))) | refine cw_blocks (fun KB hB => ?_) | (refine hB _ ?_; clear hB KB) | refine exit_by (S := Sg) (by assumption) ?_ | (refine ret_a ?_; (try clear hB KB); (try clear hK K)))
          rw [thenQ_normal]
          refine wk_loop 2 ?_ (by omega) (by omega)
          refine le_a [(1, some 1), (2, some 2)] ?_ ?_
          repeat' (refine And.intro ?_ ?_)
          all_goals first | exact le_cl | skip
          refine .inr fun a ha j hj => ?_
          by_cases e : a = i
          · rw [if_pos e, e]
            have hivl : j = 0 ∨ j = 1 ∨ j = 2 ∨ j = 3 ∨ j = 4 ∨ j = 5 ∨ j = 6 ∨ j = 7 ∨ j = 8 ∨ j = 9 ∨ j = 10 ∨ j = 11 ∨ j = 12 ∨ j = 13 ∨ j = 14 ∨ j = 15 ∨ j = 16 ∨ j = 17 ∨ j = 18 ∨ j = 19 ∨ j = 20 ∨ j = 21 ∨ j = 22 ∨ j = 23 ∨ j = 24 ∨ j = 25 ∨ j = 26 ∨ j = 27 := by omega
            rcases hivl with rfl | rfl | rfl | rfl | rfl | rfl | rfl | rfl | rfl | rfl | rfl | rfl | rfl | rfl | rfl | rfl | rfl | rfl | rfl | rfl | rfl | rfl | rfl | rfl | rfl | rfl | rfl | rfl <;> exact fun _ _ _ h => h
          · rw [if_neg e]
            exact fun _ _ _ h => h
        · repeat' (first | with_reducible exact tr_a | refine un_a ?_ | ((first | refine st_a (fun K hK => ?_) | refine rg_a ?_ | refine call_c (cloneU_spec _ _ w2) ?_ | refine gcall_c (fun hg => cloneU_spec _ _ w2) ?_); (repeat' (refine And.intro ?_ ?_)); (all_goals first | (refine hK _ ?_; clear hK K) | exact auto_cl | skip)) | ((first | apply cw_ite | apply cw_iteN); (case hf => rfl); (case hc => exact ev_a); (all_goals first | (intro hb; (try simp only [hbs] at hb)) | skip)) | exact atN_intro | (refine if_a (fun hb => ?_) (fun hb => ?_); (all_goals (try first | with_reducible exact True.intro | (exfalso; omega)))) | refine cw_blocks (fun KB hB => ?_) | (refine hB _ ?_; clear hB KB) | refine exit_by (S := Sg) (by assumption) ?_ | (refine ret_a ?_; (try clear hB KB); (try clear hK K)))
          rw [thenQ_normal]
          refine wk_loop 3 ?_ (by omega) (by omega)
          refine le_a [(1, some 1), (2, some 2)] ?_ ?_
          repeat' (refine And.intro ?_ ?_)
          all_goals first | exact le_cl | skip
          refine .inr fun a ha j hj => ?_
          by_cases e : a = i
          · rw [if_pos e, e]
            have hivl : j = 0 ∨ j = 1 ∨ j = 2 ∨ j = 3 ∨ j = 4 ∨ j = 5 ∨ j = 6 ∨ j = 7 ∨ j = 8 ∨ j = 9 ∨ j = 10 ∨ j = 11 ∨ j = 12 ∨ j = 13 ∨ j = 14 ∨ j = 15 ∨ j = 16 ∨ j = 17 ∨ j = 18 ∨ j = 19 ∨ j = 20 ∨ j = 21 ∨ j = 22 ∨ j = 23 ∨ j = 24 ∨ j = 25 ∨ j = 26 ∨ j = 27 := by omega
            rcases hivl with rfl | rfl | rfl | rfl | rfl | rfl | rfl | rfl | rfl | rfl | rfl | rfl | rfl | rfl | rfl | rfl | rfl | rfl | rfl | rfl | rfl | rfl | rfl | rfl | rfl | rfl | rfl | rfl <;> exact fun _ _ _ h => h
          · rw [if_neg e]
            exact fun _ _ _ h => h
        · repeat' (first | with_reducible exact tr_a | refine un_a ?_ | ((first | refine st_a (fun K hK => ?_) | refine rg_a ?_ | refine call_c (cloneU_spec _ _ w3) ?_ | refine gcall_c (fun hg => cloneU_spec _ _ w3) ?_); (repeat' (refine And.intro ?_ ?_)); (all_goals first | (refine hK _ ?_; clear hK K) | exact auto_cl | skip)) | ((first | apply cw_ite | apply cw_iteN); (case hf => rfl); (case hc => exact ev_a); (all_goals first | (intro hb; (try simp only [hbs] at hb)) | skip)) | exact atN_intro | (refine if_a (fun hb => ?_) (fun hb => ?_); (all_goals (try first | with_reducible exact True.intro | (exfalso; omega)))) | refine cw_blocks (fun KB hB => ?_) | (refine hB _ ?_; clear hB KB) | refine exit_by (S := Sg) (by assumption) ?_ | (refine ret_a ?_; (try clear hB KB); (try clear hK K)))
          rw [thenQ_normal]
          refine wk_loop 4 ?_ (by omega) (by omega)
          refine le_a [(1, some 1), (2, some 2)] ?_ ?_
          repeat' (refine And.intro ?_ ?_)
          all_goals first | exact le_cl | skip
          refine .inr fun a ha j hj => ?_
          by_cases e : a = i
          · rw [if_pos e, e]
            have hivl : j = 0 ∨ j = 1 ∨ j = 2 ∨ j = 3 ∨ j = 4 ∨ j = 5 ∨ j = 6 ∨ j = 7 ∨ j = 8 ∨ j = 9 ∨ j = 10 ∨ j = 11 ∨ j = 12 ∨ j = 13 ∨ j = 14 ∨ j = 15 ∨ j = 16 ∨ j = 17 ∨ j = 18 ∨ j = 19 ∨ j = 20 ∨ j = 21 ∨ j = 22 ∨ j = 23 ∨ j = 24 ∨ j = 25 ∨ j = 26 ∨ j = 27 := by omega
            rcases hivl with rfl | rfl | rfl | rfl | rfl | rfl | rfl | rfl | rfl | rfl | rfl | rfl | rfl | rfl | rfl | rfl | rfl | rfl | rfl | rfl | rfl | rfl | rfl | rfl | rfl | rfl | rfl | rfl <;> exact fun _ _ _ h => h
          · rw [if_neg e]
            exact fun _ _ _ h => h
        · repeat' (first | with_reducible exact tr_a | refine un_a ?_ | ((first | refine st_a (fun K hK => ?_) | refine rg_a ?_ | refine call_c (cloneU_spec _ _ w4) ?_ | refine gcall_c (fun hg => cloneU_spec _ _ w4) ?_); (repeat' (refine And.intro ?_ ?_)); (all_goals first | (refine hK _ ?_; clear hK K) | exact auto_cl | skip)) | ((first | apply cw_ite | apply cw_iteN); (case hf => rfl); (case hc => exact ev_a); (all_goals first | (intro hb; (try simp only [hbs] at hb)) | skip)) | exact atN_intro | (refine if_a (fun hb => ?_) (fun hb => ?_); (all_goals (try first | with_reducible exact True.intro | (exfalso; omega)))) | refine cw_blocks (fun KB hB => ?_) | (refine hB _ ?_; clear hB KB) | refine exit_by (S := Sg) (by assumption) ?_ | (refine ret_a ?_; (try clear hB KB); (try clear hK K)))
          rw [thenQ_normal]
          refine wk_loop 5 ?_ (by omega) (by omega)
          refine le_a [(1, some 1), (2, some 2)] ?_ ?_
          repeat' (refine And.intro ?_ ?_)
          all_goals first | exact le_cl | skip
          refine .inr fun a ha j hj => ?_
          by_cases e : a = i
          · rw [if_pos e, e]
            have hivl : j = 0 ∨ j = 1 ∨ j = 2 ∨ j = 3 ∨ j = 4 ∨ j = 5 ∨ j = 6 ∨ j = 7 ∨ j = 8 ∨ j = 9 ∨ j = 10 ∨ j = 11 ∨ j = 12 ∨ j = 13 ∨ j = 14 ∨ j = 15 ∨ j = 16 ∨ j = 17 ∨ j = 18 ∨ j = 19 ∨ j = 20 ∨ j = 21 ∨ j = 22 ∨ j = 23 ∨ j = 24 ∨ j = 25 ∨ j = 26 ∨ j = 27 := by omega
            rcases hivl with rfl | rfl | rfl | rfl | rfl | rfl | rfl | rfl | rfl | rfl | rfl | rfl | rfl | rfl | rfl | rfl | rfl | rfl | rfl | rfl | rfl | rfl | rfl | rfl | rfl | rfl | rfl | rfl <;> exact fun _ _ _ h => h
          · rw [if_neg e]
            exact fun _ _ _ h => h
        · repeat' (first | with_reducible exact tr_a | refine un_a ?_ | ((first | refine st_a (fun K hK => ?_) | refine rg_a ?_); (repeat' (refine And.intro ?_ ?_)); (all_goals first | (refine hK _ ?_; clear hK K) | exact auto_cl | skip)) | ((first | apply cw_ite | apply cw_iteN); (case hf => rfl); (case hc => exact ev_a); (all_goals first | (intro hb; (try simp only [hbs] at hb)) | skip)) | exact atN_intro | (refine if_a (fun hb => ?_) (fun hb => ?_); (all_goals (try first | with_reducible exact True.intro | (exfalso; omega)))) | refine cw_blocks (fun KB hB => ?_) | (refine hB _ ?_; clear hB KB) | refine exit_by (S := Sg) (by assumption) ?_ | (refine ret_a ?_; (try clear hB KB); (try clear hK K)))
          rw [thenQ_normal]
          refine wk_loop (i + 1) ?_ (by omega) (by omega)
          refine le_a [(1, some 1), (2, some 2)] ?_ ?_
          repeat' (refine And.intro ?_ ?_)
          all_goals first | exact le_cl | skip
    · have hi2 : i = s.images.length := by omega
      subst hi2
      repeat' (first | with_reducible exact tr_a | refine un_a ?_ | ((first | refine st_a (fun K hK => ?_) | refine rg_a ?_); (repeat' (refine And.intro ?_ ?_)); (all_goals first | (refine hK _ ?_; clear hK K) | exact auto_cl | skip)) | ((first | apply cw_ite | apply cw_iteN); (case hf => rfl); (case hc => exact ev_a); (all_goals first | (intro hb; (try simp only [hbs] at hb)) | skip)) | exact atN_intro | (refine if_a (fun hb => ?_) (fun hb => ?_); (all_goals (try first | with_reducible exact True.intro | (exfalso; omega)))) | refine cw_blocks (fun KB hB => ?_) | (refine hB _ ?_; clear hB KB) | refine exit_by (S := Sg) (by assumption) ?_ | (refine ret_a ?_; (try clear hB KB); (try clear hK K)))
      rfl
theorem Apply_sp (s : Script) (V : VOps s) (hs : ScriptLen s) (H : Sml s) (r : Rx) (ha : apM s r.1 r.2 = true) (hl : (rwM s r.1.toNat r.2.toNat).length ≤ 1000000000) : Pure Sg 26 [ag (scriptE s), ag (rxE r)] (fun x => x = .tup [ag (scriptE (nextS s r)), I 0]) := by
  have h1 := Rewrite_yes s V hs r ha
  have h2 := With_sp s (rwM s r.1.toNat r.2.toNat) H hl
  refine pure_of Tryz.func26 rfl (rs := [.cell 4 36, .tmp 5]) rfl rfl mixed (by decide +kernel) (Nat.le_of_ble_eq_true rfl) (argsLt_mem (by simp (maxSteps := 1000000) (disch := omega) only [go_sem])) ?_
  repeat' (first | with_reducible exact tr_a | refine un_a ?_ | ((first | refine st_a (fun K hK => ?_) | refine rg_a ?_ | refine call_c (h1) ?_ | refine gcall_c (fun hg => h1) ?_ | refine call_c (h2) ?_ | refine gcall_c (fun hg => h2) ?_); (repeat' (refine And.intro ?_ ?_)); (all_goals first | (refine hK _ ?_; clear hK K) | exact auto_cl | skip)) | ((first | apply cw_ite | apply cw_iteN); (case hf => rfl); (case hc => exact ev_a); (all_goals first | (intro hb; (try simp only [hbs] at hb)) | skip)) | exact atN_intro | (refine if_a (fun hb => ?_) (fun hb => ?_); (all_goals (try first | with_reducible exact True.intro | (exfalso; omega)))) | refine cw_blocks (fun KB hB => ?_) | (refine hB _ ?_; clear hB KB) | refine exit_by (S := Sg) (by assumption) ?_ | (refine ret_a ?_; (try clear hB KB); (try clear hK K)))
  · exact absurd trivial hb
  · rfl
theorem First_sp (s : Script) (hs : ScriptLen s) : Pure Sg 80 [ag (scriptE s)] (fun x => x = firstV (redM s)) := by
  by_cases he : (opsM s).1 = 0
  · exact First_yes s (vops_of he) hs
  · rw [firstV_nil (show redM s = [] by rw [redM, if_neg he])]
    exact First_no s hs he
theorem Redexes_sp (s : Script) (hs : ScriptLen s) : Pure Sg 31 [ag (scriptE s)] (fun x => x = .b (.c (.p (.lst 2 (redM s).length (fnOf rxE (redM s)))))) := by
  by_cases he : (opsM s).1 = 0
  · exact Redexes_yes s (vops_of he) hs
  · exact Redexes_no s hs he
theorem Normal_sp (s : Script) (hs : ScriptLen s) : Pure Sg 42 [ag (scriptE s)] (fun x => x = .b (B (decide (redM s = [])))) := by
  have h1 := First_sp s hs
  cases hr : redM s with
  | nil =>
    rw [firstV_nil hr] at h1
    refine pure_of Tryz.func42 rfl (rs := [.tmp 2]) rfl rfl mixed (by decide +kernel) (Nat.le_of_ble_eq_true rfl) (argsLt_mem (by simp (maxSteps := 1000000) (disch := omega) only [go_sem])) ?_
    repeat' (first | with_reducible exact tr_a | refine un_a ?_ | ((first | refine st_a (fun K hK => ?_) | refine rg_a ?_ | refine call_c (h1) ?_ | refine gcall_c (fun hg => h1) ?_); (repeat' (refine And.intro ?_ ?_)); (all_goals first | (refine hK _ ?_; clear hK K) | exact auto_cl | skip)) | ((first | apply cw_ite | apply cw_iteN); (case hf => rfl); (case hc => exact ev_a); (all_goals first | (intro hb; (try simp only [hbs] at hb)) | skip)) | exact atN_intro | (refine if_a (fun hb => ?_) (fun hb => ?_); (all_goals (try first | with_reducible exact True.intro | (exfalso; omega)))) | refine cw_blocks (fun KB hB => ?_) | (refine hB _ ?_; clear hB KB) | refine exit_by (S := Sg) (by assumption) ?_ | (refine ret_a ?_; (try clear hB KB); (try clear hK K)))
    rfl
  | cons r t =>
    rw [firstV_head (r := r) (by rw [hr]; rfl)] at h1
    refine pure_of Tryz.func42 rfl (rs := [.tmp 2]) rfl rfl mixed (by decide +kernel) (Nat.le_of_ble_eq_true rfl) (argsLt_mem (by simp (maxSteps := 1000000) (disch := omega) only [go_sem])) ?_
    repeat' (first | with_reducible exact tr_a | refine un_a ?_ | ((first | refine st_a (fun K hK => ?_) | refine rg_a ?_ | refine call_c (h1) ?_ | refine gcall_c (fun hg => h1) ?_); (repeat' (refine And.intro ?_ ?_)); (all_goals first | (refine hK _ ?_; clear hK K) | exact auto_cl | skip)) | ((first | apply cw_ite | apply cw_iteN); (case hf => rfl); (case hc => exact ev_a); (all_goals first | (intro hb; (try simp only [hbs] at hb)) | skip)) | exact atN_intro | (refine if_a (fun hb => ?_) (fun hb => ?_); (all_goals (try first | with_reducible exact True.intro | (exfalso; omega)))) | refine cw_blocks (fun KB hB => ?_) | (refine hB _ ?_; clear hB KB) | refine exit_by (S := Sg) (by assumption) ?_ | (refine ret_a ?_; (try clear hB KB); (try clear hK K)))
    rfl
end Go.Proofs.YtbpplplnkgmhlaaGreatDoor

/- Simplifying: the walk. -/
set_option maxHeartbeats 2000000
set_option maxRecDepth 16000
namespace Go.Proofs.YtbpplplnkgmhlaaGreatDoor
open Go Go.SL
open Go.RowKit (wrap64)
attribute [local go_sem] Int.toNat_natCast rxE

theorem sum_one (l : List Op) : sumW (fun _ => 1) l = l.length := by
  induction l with
  | nil => rfl
  | cons a l ih => rw [sumW_cons, ih, List.length_cons, Nat.add_comm]
theorem rw_len {s : Script} (W : Wf s.ops) {r : Rx} (h : apM s r.1 r.2 = true) : (rwM s r.1.toNat r.2.toNat).length ≤ s.ops.length := by
  obtain ⟨g1, g2, g3, g4, g5⟩ := apM_lt h
  rw [← sum_one, ← sum_one s.ops]
  by_cases h4 : r.1 ≤ 4
  · rw [rwM, if_pos (by omega)]
    have := sum_cut (fun _ => 1) W g3
    omega
  by_cases h9 : r.1 = 9
  · have e : r.1.toNat = 9 := by omega
    rw [rwM, if_neg (by omega), if_pos e]
    rw [e] at g5
    have hu : unwM s r.2.toNat = true := g5
    simp only [unwM, Bool.and_eq_true, decide_eq_true_eq] at hu
    obtain ⟨he, hk3⟩ := kid_next W g3 hu.1.1.1 (by rw [hu.1.2]; exact Nat.le_refl _)
    have hl := ends_lt W g3
    have := sum_unw (fun _ => 1) W (i := r.2.toNat) (by omega) hu.1.1.1 he
    omega
  · have := (cnt_same h (by omega) (by omega)).2
    rw [sum_one, sum_one]; omega
def runM (s : Script) : List Op × List Rx := runGo (sumW wtOp s.ops + 1) s
theorem len_with {s : Script} (hs : ScriptLen s) {l : List Op} (h : l.length ≤ 1000000) : ScriptLen (withOps s l) := ⟨hs.order, hs.images, by show l.length ≤ _; omega⟩
theorem wt_bnd : ∀ l : List Op, sumW wtOp l ≤ 5 * l.length
  | [] => Nat.le_refl _
  | o :: l => by
    have := wt_bnd l
    have h : wtOp o ≤ 5 := by
      unfold wtOp
      split <;> split <;> split <;> split <;> split <;> omega
    rw [sumW_cons, List.length_cons]
    omega
def zerosB : Bx := .fix [.p (PI 0), .p (PI 0), .p (PI 0), .p (PI 0), .p (PI 0), .p (PI 0), .p (PI 0), .p (.val (.slice none 0 0)), .p (.val (.slice none 0 0)), .p (.val (.slice none 0 0))]
attribute [local go_sem] zerosB
theorem run_sp (s : Script) (hs : ScriptLen s) (H : Sml s) (ho : s.ops.length ≤ 1000000) :
    Pure Sg 77 [ag (scriptE s)] (fun x => x = .tup [ag (scriptE (withOps s (runM s).1)), .c (.p (.lst 2 (runM s).2.length (fnOf rxE (runM s).2)))]) := by
  have h1 := cloneOps_spec s.ops.length (fnOf opE s.ops) (by omega)
  have h2 := With_sp s s.ops H (by omega)
  have hwb := wt_bnd s.ops
  refine pure_le ?_
  refine pure_of Tryz.func77 rfl (rs := [.cell 2 36, .tmp 3]) rfl rfl mixed (by decide +kernel) (Nat.le_of_ble_eq_true rfl) (argsLt_mem (by simp (maxSteps := 1000000) (disch := omega) only [go_sem])) ?_
  repeat' (first | with_reducible exact tr_a | refine un_a ?_ | ((with_reducible refine cw_stepV (id := 1) (fun K hW => ?_)); (try simp (maxSteps := 1000000) (disch := omega) only [go_sem]); (repeat' (refine And.intro ?_ ?_)); (all_goals first | (refine hK _ ?_; clear hK K) | exact auto_cl | skip)) | ((first | refine st_a (fun K hK => ?_) | refine rg_a ?_); (repeat' (refine And.intro ?_ ?_)); (all_goals first | (refine hK _ ?_; clear hK K) | exact auto_cl | skip)) | ((first | apply cw_ite | apply cw_iteN); (case hf => rfl); (case hc => exact ev_a); (all_goals first | (intro hb; (try simp only [hbs] at hb)) | skip)) | exact atN_intro | (refine if_a (fun hb => ?_) (fun hb => ?_); (all_goals (try first | with_reducible exact True.intro | (exfalso; omega)))) | refine cw_blocks (fun KB hB => ?_) | (refine hB _ ?_; clear hB KB) | refine exit_by (S := Sg) (by assumption) ?_ | (refine ret_a ?_; (try clear hB KB); (try clear hK K)))
  refine hW _ (mkSt [(1, .b (.c (.ptr 0 0))), (2, .b (.c (.ptr 1 0))), (4, .b (.c (.p (.val (.slice none 0 0)))))] [(0, .fix ((scriptE s).map CV.p)), (1, zerosB)] 2) ?_ ?_
  · refine le_a [(1, some 1)] ?_ ?_
    repeat' (refine And.intro ?_ ?_)
    all_goals first | exact le_cl | skip
  clear hW
  refine cw_stepR (id := 2) (.br 1 (.br 2 (.br 0 (.br 3 (.br 4 (.br 5 (.br 6 .leaf .nil) .nil) (.br 5 (.br 4 (.br 6 .leaf .nil) .nil) .nil)) (.br 5 (.br 3 (.br 4 (.br 6 .leaf .nil) .nil) .nil) .nil)) (.br 3 (.br 0 (.br 4 (.br 5 (.br 6 .leaf .nil) .nil) (.br 5 (.br 4 (.br 6 .leaf .nil) .nil) .nil)) .nil) (.br 5 (.br 0 (.br 3 (.br 4 (.br 6 .leaf .nil) .nil) .nil) (.br 3 (.br 0 (.br 4 (.br 6 .leaf .nil) .nil) .nil) .nil)) .nil))) .nil) .nil) (by decide +kernel) (by exact wf_a) (fun K0 hW => ?_)
  refine (fun (tl : ∀ st, Le st (mkSt [(2, .b (.c (.ptr 1 0))), (4, .b (.c (.p (.val (.slice none 0 0))))), (5, .b (.c (.ptr 2 0)))] [(1, zerosB), (2, .fix ((scriptE s).map CV.p))] 3) → K0 st) => ?_) (fun st hl => hW st _ hl ?_)
  · clear hW
    repeat' (first | exact tree_nil | (refine tree_br (fun K' hK' => ?_) ?_) | (refine tree_leaf (tl _ ?_); clear tl) | ((first | refine call_c (h1) ?_ | refine gcall_c (fun hg => h1) ?_ | refine call_c (h2) ?_ | refine gcall_c (fun hg => h2) ?_); (try simp (maxSteps := 1000000) (disch := omega) only [go_sem]); (repeat' (refine And.intro ?_ ?_)); (all_goals first | (refine hK' _ ?_; clear hK' K') | trivial | omega | exact Nat.le_of_ble_eq_true rfl | exact auto_cl | skip)) | (simp (maxSteps := 1000000) (disch := omega) only [go_sem]; (repeat' (refine And.intro ?_ ?_)); (all_goals first | (refine hK' _ ?_; clear hK' K') | trivial | omega | exact Nat.le_of_ble_eq_true rfl | exact auto_cl | skip)))
    all_goals
      refine le_a [(1, some 1), (2, some 2)] ?_ ?_
      repeat' (refine And.intro ?_ ?_)
      all_goals first | exact le_cl | skip
  clear hW
  repeat' (first | with_reducible exact tr_a | refine un_a ?_ | ((first | refine st_a (fun K hK => ?_) | refine rg_a ?_); (repeat' (refine And.intro ?_ ?_)); (all_goals first | (refine hK _ ?_; clear hK K) | exact auto_cl | skip)) | ((first | apply cw_ite | apply cw_iteN); (case hf => rfl); (case hc => exact ev_a); (all_goals first | (intro hb; (try simp only [hbs] at hb)) | skip)) | exact atN_intro | (refine if_a (fun hb => ?_) (fun hb => ?_); (all_goals (try first | with_reducible exact True.intro | (exfalso; omega)))) | refine cw_blocks (fun KB hB => ?_) | (refine hB _ ?_; clear hB KB) | refine exit_by (S := Sg) (by assumption) ?_ | (refine ret_a ?_; (try clear hB KB); (try clear hK K)))
  refine cw_loop (X := Nat × List Op × List Rx) (fun x => mkSt [(2, .b (.c (.ptr 1 0))), (4, .b (.c (.own 3 x.2.2.length))), (5, .b (.c (.ptr 2 0)))] [(1, zerosB), (2, .fix ((scriptE (withOps s x.2.1)).map CV.p)), (3, .arr 61 2 x.2.2.length (fnOf rxE x.2.2))] 4)
    (fun x => sumW wtOp x.2.1 < x.1 ∧ x.2.1.length ≤ 1000000 ∧ x.2.2.length + x.1 ≤ 5000001 ∧ runM s = ((runGo x.1 (withOps s x.2.1)).1, x.2.2 ++ (runGo x.1 (withOps s x.2.1)).2)) (fun x => x.1) (sumW wtOp s.ops + 1, s.ops, []) ?_ ?_ ?_
  · exact ⟨Nat.lt_succ_self _, ho, by dsimp only [List.length_nil]; omega, rfl⟩
  · refine le_a [(1, some 1), (2, some 2), (3, none)] ?_ ?_
    repeat' (refine And.intro ?_ ?_)
    all_goals first | exact le_cl | skip
  · rintro ⟨f, cur, steps⟩ ⟨i1, i2, i3, i4⟩
    dsimp only at i1 i2 i3 i4 ⊢
    have hs2 := len_with hs i2
    have hf := First_sp (withOps s cur) hs2
    cases hr : (redM (withOps s cur)).head? with
    | none =>
      rw [firstV_nil (red_none hr)] at hf
      rw [run_none hr] at i4
      repeat' (first | with_reducible exact tr_a | refine un_a ?_ | ((first | refine st_a (fun K hK => ?_) | refine rg_a ?_ | refine call_c (hf) ?_ | refine gcall_c (fun hg => hf) ?_); (repeat' (refine And.intro ?_ ?_)); (all_goals first | (refine hK _ ?_; clear hK K) | exact auto_cl | skip)) | ((first | apply cw_ite | apply cw_iteN); (case hf => rfl); (case hc => exact ev_a); (all_goals first | (intro hb; (try simp only [hbs] at hb)) | skip)) | exact atN_intro | (refine if_a (fun hb => ?_) (fun hb => ?_); (all_goals (try first | with_reducible exact True.intro | (exfalso; omega)))) | refine cw_blocks (fun KB hB => ?_) | (refine hB _ ?_; clear hB KB) | refine exit_by (S := Sg) (by assumption) ?_ | (refine ret_a ?_; (try clear hB KB); (try clear hK K)))
      · have e : runM s = (cur, steps) := by rw [i4]; exact congrArg (fun q => (cur, q)) (List.append_nil _)
        rw [e]
        refine sle_tup ⟨ble_agg ?_, ble_rfl trivial, trivial⟩
        simp only [List.map_cons, List.map_nil, cleL_cons, cleL_nil]
        repeat' (refine And.intro ?_ ?_)
        all_goals first | exact .inl rfl | exact .inl trivial | exact .inr nil_le | trivial | skip
    | some r =>
      rw [firstV_head hr] at hf
      obtain ⟨f, rfl⟩ : ∃ g, f = g + 1 := ⟨f - 1, by omega⟩
      rw [run_some hr] at i4
      have hm := mem_red.1 (red_head hr).1
      have V := vops_of hm.1
      have hw := Rewrite_yes (withOps s cur) V hs2 r hm.2
      have hlt := wt_less V.wf hm.2
      have hle := rw_len V.wf hm.2
      repeat' (first | with_reducible exact tr_a | refine un_a ?_ | ((first | refine st_a (fun K hK => ?_) | refine rg_a ?_ | refine call_c (hf) ?_ | refine gcall_c (fun hg => hf) ?_ | refine call_c (hw) ?_ | refine gcall_c (fun hg => hw) ?_); (repeat' (refine And.intro ?_ ?_)); (all_goals first | (refine hK _ ?_; clear hK K) | exact auto_cl | skip)) | ((first | apply cw_ite | apply cw_iteN); (case hf => rfl); (case hc => exact ev_a); (all_goals first | (intro hb; (try simp only [hbs] at hb)) | skip)) | exact atN_intro | (refine if_a (fun hb => ?_) (fun hb => ?_); (all_goals (try first | with_reducible exact True.intro | (exfalso; omega)))) | refine cw_blocks (fun KB hB => ?_) | (refine hB _ ?_; clear hB KB) | refine exit_by (S := Sg) (by assumption) ?_ | (refine ret_a ?_; (try clear hB KB); (try clear hK K)))
      · exact absurd hb (by decide)
      · exact absurd trivial hb
      rw [blockQ_normal, thenQ_normal]
      refine wk_loop (f, rwM (withOps s cur) r.1.toNat r.2.toNat, steps ++ [r]) ?_ ⟨?_, ?_, ?_, ?_⟩ (Nat.lt_succ_self f)
      · dsimp only
        rw [show (steps ++ [r]).length = steps.length + 1 from List.length_append]
        refine le_a [(1, some 1), (2, some 2), (3, some 6)] ?_ ?_
        repeat' (refine And.intro ?_ ?_)
        all_goals first | exact le_cl | skip
        exact .inr (rx_snoc fun j hj => by
          have hj2 : j = 0 ∨ j = 1 := by omega
          rcases hj2 with rfl | rfl <;> rfl)
      · show sumW wtOp (rwM (withOps s cur) r.1.toNat r.2.toNat) < f
        have : sumW wtOp (withOps s cur).ops = sumW wtOp cur := rfl
        omega
      · show (rwM (withOps s cur) r.1.toNat r.2.toNat).length ≤ 1000000
        have : (withOps s cur).ops.length = cur.length := rfl
        omega
      · show (steps ++ [r]).length + f ≤ 5000001
        rw [List.length_append, List.length_cons, List.length_nil]; omega
      · rw [i4]
        exact congrArg (fun q => (_, q)) (List.append_cons steps r _)
theorem Simplify_sp (s : Script) (hs : ScriptLen s) (H : Sml s) (ho : s.ops.length ≤ 1000000) : Pure Sg 37 [ag (scriptE s)] (fun x => x = .b (ag (scriptE (withOps s (runM s).1)))) := by
  have h1 := run_sp s hs H ho
  refine pure_of Tryz.func37 rfl (rs := [.cell 2 36]) rfl rfl mixed (by decide +kernel) (Nat.le_of_ble_eq_true rfl) (argsLt_mem (by simp (maxSteps := 1000000) (disch := omega) only [go_sem])) ?_
  repeat' (first | with_reducible exact tr_a | refine un_a ?_ | ((first | refine st_a (fun K hK => ?_) | refine rg_a ?_ | refine call_c (h1) ?_ | refine gcall_c (fun hg => h1) ?_); (repeat' (refine And.intro ?_ ?_)); (all_goals first | (refine hK _ ?_; clear hK K) | exact auto_cl | skip)) | ((first | apply cw_ite | apply cw_iteN); (case hf => rfl); (case hc => exact ev_a); (all_goals first | (intro hb; (try simp only [hbs] at hb)) | skip)) | exact atN_intro | (refine if_a (fun hb => ?_) (fun hb => ?_); (all_goals (try first | with_reducible exact True.intro | (exfalso; omega)))) | refine cw_blocks (fun KB hB => ?_) | (refine hB _ ?_; clear hB KB) | refine exit_by (S := Sg) (by assumption) ?_ | (refine ret_a ?_; (try clear hB KB); (try clear hK K)))
  rfl
theorem Steps_sp (s : Script) (hs : ScriptLen s) (H : Sml s) (ho : s.ops.length ≤ 1000000) : Pure Sg 38 [ag (scriptE s)] (fun x => x = .b (.c (.p (.lst 2 (runM s).2.length (fnOf rxE (runM s).2))))) := by
  have h1 := run_sp s hs H ho
  refine pure_of Tryz.func38 rfl (rs := [.tmp 2]) rfl rfl mixed (by decide +kernel) (Nat.le_of_ble_eq_true rfl) (argsLt_mem (by simp (maxSteps := 1000000) (disch := omega) only [go_sem])) ?_
  repeat' (first | with_reducible exact tr_a | refine un_a ?_ | ((first | refine st_a (fun K hK => ?_) | refine rg_a ?_ | refine call_c (h1) ?_ | refine gcall_c (fun hg => h1) ?_); (repeat' (refine And.intro ?_ ?_)); (all_goals first | (refine hK _ ?_; clear hK K) | exact auto_cl | skip)) | ((first | apply cw_ite | apply cw_iteN); (case hf => rfl); (case hc => exact ev_a); (all_goals first | (intro hb; (try simp only [hbs] at hb)) | skip)) | exact atN_intro | (refine if_a (fun hb => ?_) (fun hb => ?_); (all_goals (try first | with_reducible exact True.intro | (exfalso; omega)))) | refine cw_blocks (fun KB hB => ?_) | (refine hB _ ?_; clear hB KB) | refine exit_by (S := Sg) (by assumption) ?_ | (refine ret_a ?_; (try clear hB KB); (try clear hK K)))
end Go.Proofs.YtbpplplnkgmhlaaGreatDoor

/- The sanity checks of the two laws. -/
set_option maxHeartbeats 2000000
set_option maxRecDepth 16000
namespace Go.Proofs.YtbpplplnkgmhlaaGreatDoor
open Go Go.SL
open Go.RowKit (wrap64)
attribute [local go_sem] Int.toNat_natCast rxE zerosB

def awO : Op := ⟨1, 0, 0, 0, 0, 0, 0, 255, 4, 1, false, false⟩
def awI (w : Int) (a : Int) : Image := solidOf w w ⟨0, 0, 0, a, a⟩
def aw26 : Script := ⟨8, ⟨0, 0, 1, 1⟩, 1, 1, [], [awI 2 9], [⟨2, 0, 0, 0, 0, 0, 0, 128, 12, 1, true, false⟩, awO, ⟨3, 0, 0, 0, 0, 0, 0, 0, 0, 0, false, false⟩]⟩
def aw26t : Script := ⟨8, ⟨0, 0, 1, 1⟩, 1, 1, [], [awI 2 9], [⟨1, 0, 0, 0, 0, 0, 0, 128, 12, 1, false, false⟩]⟩
theorem aw26_len : ScriptLen aw26 := ⟨by decide, by decide, by decide⟩
theorem aw26_ok : VOps aw26 := vops_of (by decide +kernel)
theorem one_lt {P : Nat → Prop} (h : P 0) : ∀ i, i < 1 → P i := fun i hi => by
  have : i = 0 := by omega
  subst this; exact h
theorem aw26_sml : Sml aw26 := ⟨by decide, by decide, by decide, one_lt (by decide), one_lt (by decide), one_lt (by decide), one_lt (by decide), one_lt (by decide)⟩
theorem aw26_next : nextS aw26 (9, 0) = aw26t := by decide +kernel
theorem awake26_sp : Pure Sg 28 [] (fun x => x = .b (B true)) := by
  have h1 := Apply_sp aw26 aw26_ok aw26_len aw26_sml (9, 0) (by decide +kernel) (by decide +kernel)
  rw [aw26_next] at h1
  have h2 := Applies_sp aw26 aw26_ok aw26_len 9 0
  rw [show apM aw26 9 0 = true by decide +kernel] at h2
  have h3 := Applies_sp aw26 aw26_ok aw26_len 1 1
  rw [show apM aw26 1 1 = false by decide +kernel] at h3
  have h4 := count_sp aw26 aw26_len
  rw [show cntM aw26.ops = 2 by decide +kernel] at h4
  refine pure_of Tryz.func28 rfl (rs := [.tmp 0]) rfl rfl mixed (by decide +kernel) (Nat.le_of_ble_eq_true rfl) (argsLt_mem (by simp (maxSteps := 1000000) (disch := omega) only [go_sem])) ?_
  repeat' (first | with_reducible exact tr_a | refine un_a ?_ | ((with_reducible refine cw_stepV (id := 1) (fun K hW => ?_)); (try simp (maxSteps := 1000000) (disch := omega) only [go_sem]); (repeat' (refine And.intro ?_ ?_)); (all_goals first | (refine hK _ ?_; clear hK K) | exact auto_cl | skip)) | ((first | refine st_a (fun K hK => ?_) | refine rg_a ?_); (repeat' (refine And.intro ?_ ?_)); (all_goals first | (refine hK _ ?_; clear hK K) | exact auto_cl | skip)) | ((first | apply cw_ite | apply cw_iteN); (case hf => rfl); (case hc => exact ev_a); (all_goals first | (intro hb; (try simp only [hbs] at hb)) | skip)) | exact atN_intro | (refine if_a (fun hb => ?_) (fun hb => ?_); (all_goals (try first | with_reducible exact True.intro | (exfalso; omega)))) | refine cw_blocks (fun KB hB => ?_) | (refine hB _ ?_; clear hB KB) | refine exit_by (S := Sg) (by assumption) ?_ | (refine ret_a ?_; (try clear hB KB); (try clear hK K)))
  refine hW _ (mkSt [(0, .b (B false)), (1, .b (.c (.ptr 1 0)))] [(1, .fix ((scriptE aw26).map CV.p))] 2) ?_ ?_
  · refine le_a [(1, some 2)] ?_ ?_
    repeat' (refine And.intro ?_ ?_)
    all_goals first | exact le_cl | skip
    · exact nil_le
    · intro i hi j hj
      have hi0 : i = 0 := by omega
      subst hi0
      have hivl : j = 0 ∨ j = 1 ∨ j = 2 ∨ j = 3 ∨ j = 4 ∨ j = 5 ∨ j = 6 ∨ j = 7 ∨ j = 8 ∨ j = 9 ∨ j = 10 ∨ j = 11 ∨ j = 12 ∨ j = 13 ∨ j = 14 ∨ j = 15 ∨ j = 16 ∨ j = 17 ∨ j = 18 ∨ j = 19 ∨ j = 20 ∨ j = 21 ∨ j = 22 ∨ j = 23 ∨ j = 24 ∨ j = 25 ∨ j = 26 ∨ j = 27 := by omega
      rcases hivl with rfl | rfl | rfl | rfl | rfl | rfl | rfl | rfl | rfl | rfl | rfl | rfl | rfl | rfl | rfl | rfl | rfl | rfl | rfl | rfl | rfl | rfl | rfl | rfl | rfl | rfl | rfl | rfl <;> (first | exact fun _ _ _ h => h | exact nil_le)
    · intro i hi j hj
      have hi3 : i = 0 ∨ i = 1 ∨ i = 2 := by omega
      rcases hi3 with rfl | rfl | rfl
      · skip
        have hivl : j = 0 ∨ j = 1 ∨ j = 2 ∨ j = 3 ∨ j = 4 ∨ j = 5 ∨ j = 6 ∨ j = 7 ∨ j = 8 ∨ j = 9 ∨ j = 10 ∨ j = 11 := by omega
        rcases hivl with rfl | rfl | rfl | rfl | rfl | rfl | rfl | rfl | rfl | rfl | rfl | rfl <;> exact fun _ _ _ h => h
      · skip
        have hivl : j = 0 ∨ j = 1 ∨ j = 2 ∨ j = 3 ∨ j = 4 ∨ j = 5 ∨ j = 6 ∨ j = 7 ∨ j = 8 ∨ j = 9 ∨ j = 10 ∨ j = 11 := by omega
        rcases hivl with rfl | rfl | rfl | rfl | rfl | rfl | rfl | rfl | rfl | rfl | rfl | rfl <;> exact fun _ _ _ h => h
      · skip
        have hivl : j = 0 ∨ j = 1 ∨ j = 2 ∨ j = 3 ∨ j = 4 ∨ j = 5 ∨ j = 6 ∨ j = 7 ∨ j = 8 ∨ j = 9 ∨ j = 10 ∨ j = 11 := by omega
        rcases hivl with rfl | rfl | rfl | rfl | rfl | rfl | rfl | rfl | rfl | rfl | rfl | rfl <;> exact fun _ _ _ h => h
  clear hW
  repeat' (first | with_reducible exact tr_a | refine un_a ?_ | ((first | refine st_a (fun K hK => ?_) | refine rg_a ?_ | refine call_c (h1) ?_ | refine gcall_c (fun hg => h1) ?_ | refine call_c (h2) ?_ | refine gcall_c (fun hg => h2) ?_ | refine call_c (h3) ?_ | refine gcall_c (fun hg => h3) ?_ | refine call_c (h4) ?_ | refine gcall_c (fun hg => h4) ?_); (repeat' (refine And.intro ?_ ?_)); (all_goals first | (refine hK _ ?_; clear hK K) | exact auto_cl | skip)) | ((first | apply cw_ite | apply cw_iteN); (case hf => rfl); (case hc => exact ev_a); (all_goals first | (intro hb; (try simp only [hbs] at hb)) | skip)) | exact atN_intro | (refine if_a (fun hb => ?_) (fun hb => ?_); (all_goals (try first | with_reducible exact True.intro | (exfalso; omega)))) | refine cw_blocks (fun KB hB => ?_) | (refine hB _ ?_; clear hB KB) | refine exit_by (S := Sg) (by assumption) ?_ | (refine ret_a ?_; (try clear hB KB); (try clear hK K)))
  exact vb (by decide +kernel)
def aw27 : Script := ⟨8, ⟨0, 0, 2, 2⟩, 1, 1, [], [awI 2 255], [awO, awO, awO]⟩
def aw27b : Script := ⟨8, ⟨0, 0, 2, 2⟩, 1, 1, [], [awI 2 255], [⟨1, 0, 0, 0, 0, 0, 0, 255, 1, 1, false, false⟩]⟩
theorem awake27_sp : Pure Sg 39 [] (fun x => x = .b (B true)) := by
  have s1 : Sml aw27 := ⟨by decide, by decide, by decide, one_lt (by decide), one_lt (by decide), one_lt (by decide), one_lt (by decide), one_lt (by decide)⟩
  have s2 : Sml aw27b := ⟨by decide, by decide, by decide, one_lt (by decide), one_lt (by decide), one_lt (by decide), one_lt (by decide), one_lt (by decide)⟩
  have l1 : ScriptLen aw27 := ⟨by decide, by decide, by decide⟩
  have l2 : ScriptLen aw27b := ⟨by decide, by decide, by decide⟩
  have h1 := Simplify_sp aw27 l1 s1 (by decide)
  rw [show (runM aw27).1 = [awO] by decide +kernel] at h1
  have h2 := Normal_sp aw27b l2
  rw [show decide (redM aw27b = []) = true by decide +kernel] at h2
  have h3 := Steps_sp aw27b l2 s2 (by decide)
  rw [show (runM aw27b).2 = [] by decide +kernel] at h3
  refine pure_of Tryz.func39 rfl (rs := [.tmp 0]) rfl rfl mixed (by decide +kernel) (Nat.le_of_ble_eq_true rfl) (argsLt_mem (by simp (maxSteps := 1000000) (disch := omega) only [go_sem])) ?_
  repeat' (first | with_reducible exact tr_a | refine un_a ?_ | ((with_reducible refine cw_stepV (id := 2) (fun K hW => ?_)); (try simp (maxSteps := 1000000) (disch := omega) only [go_sem]); (repeat' (refine And.intro ?_ ?_)); (all_goals first | (refine hK _ ?_; clear hK K) | exact auto_cl | skip)) | ((first | refine st_a (fun K hK => ?_) | refine rg_a ?_); (repeat' (refine And.intro ?_ ?_)); (all_goals first | (refine hK _ ?_; clear hK K) | exact auto_cl | skip)) | ((first | apply cw_ite | apply cw_iteN); (case hf => rfl); (case hc => exact ev_a); (all_goals first | (intro hb; (try simp only [hbs] at hb)) | skip)) | exact atN_intro | (refine if_a (fun hb => ?_) (fun hb => ?_); (all_goals (try first | with_reducible exact True.intro | (exfalso; omega)))) | refine cw_blocks (fun KB hB => ?_) | (refine hB _ ?_; clear hB KB) | refine exit_by (S := Sg) (by assumption) ?_ | (refine ret_a ?_; (try clear hB KB); (try clear hK K)))
  refine hW _ (mkSt [(0, .b (B false)), (1, .b (.c (.ptr 1 0))), (2, .b (.c (.ptr 2 0)))] [(1, .fix ((opE awO).map CV.p)), (2, .fix ((scriptE aw27).map CV.p))] 3) ?_ ?_
  · refine le_a [(1, some 0), (2, some 3)] ?_ ?_
    repeat' (refine And.intro ?_ ?_)
    all_goals first | exact le_cl | skip
    · exact nil_le
    · intro i hi j hj
      have hi0 : i = 0 := by omega
      subst hi0
      have hivl : j = 0 ∨ j = 1 ∨ j = 2 ∨ j = 3 ∨ j = 4 ∨ j = 5 ∨ j = 6 ∨ j = 7 ∨ j = 8 ∨ j = 9 ∨ j = 10 ∨ j = 11 ∨ j = 12 ∨ j = 13 ∨ j = 14 ∨ j = 15 ∨ j = 16 ∨ j = 17 ∨ j = 18 ∨ j = 19 ∨ j = 20 ∨ j = 21 ∨ j = 22 ∨ j = 23 ∨ j = 24 ∨ j = 25 ∨ j = 26 ∨ j = 27 := by omega
      rcases hivl with rfl | rfl | rfl | rfl | rfl | rfl | rfl | rfl | rfl | rfl | rfl | rfl | rfl | rfl | rfl | rfl | rfl | rfl | rfl | rfl | rfl | rfl | rfl | rfl | rfl | rfl | rfl | rfl <;> (first | exact fun _ _ _ h => h | exact nil_le)
    · intro i hi j hj
      have hi3 : i = 0 ∨ i = 1 ∨ i = 2 := by omega
      rcases hi3 with rfl | rfl | rfl
      · skip
        have hivl : j = 0 ∨ j = 1 ∨ j = 2 ∨ j = 3 ∨ j = 4 ∨ j = 5 ∨ j = 6 ∨ j = 7 ∨ j = 8 ∨ j = 9 ∨ j = 10 ∨ j = 11 := by omega
        rcases hivl with rfl | rfl | rfl | rfl | rfl | rfl | rfl | rfl | rfl | rfl | rfl | rfl <;> exact fun _ _ _ h => h
      · skip
        have hivl : j = 0 ∨ j = 1 ∨ j = 2 ∨ j = 3 ∨ j = 4 ∨ j = 5 ∨ j = 6 ∨ j = 7 ∨ j = 8 ∨ j = 9 ∨ j = 10 ∨ j = 11 := by omega
        rcases hivl with rfl | rfl | rfl | rfl | rfl | rfl | rfl | rfl | rfl | rfl | rfl | rfl <;> exact fun _ _ _ h => h
      · skip
        have hivl : j = 0 ∨ j = 1 ∨ j = 2 ∨ j = 3 ∨ j = 4 ∨ j = 5 ∨ j = 6 ∨ j = 7 ∨ j = 8 ∨ j = 9 ∨ j = 10 ∨ j = 11 := by omega
        rcases hivl with rfl | rfl | rfl | rfl | rfl | rfl | rfl | rfl | rfl | rfl | rfl | rfl <;> exact fun _ _ _ h => h
  clear hW
  repeat' (first | with_reducible exact tr_a | refine un_a ?_ | ((with_reducible refine cw_stepV (id := 4) (fun K hW => ?_)); (try simp (maxSteps := 1000000) (disch := omega) only [go_sem]); (repeat' (refine And.intro ?_ ?_)); (all_goals first | (refine hK _ ?_; clear hK K) | exact auto_cl | skip)) | ((first | refine st_a (fun K hK => ?_) | refine rg_a ?_ | refine call_c (h1) ?_ | refine gcall_c (fun hg => h1) ?_); (repeat' (refine And.intro ?_ ?_)); (all_goals first | (refine hK _ ?_; clear hK K) | exact auto_cl | skip)) | ((first | apply cw_ite | apply cw_iteN); (case hf => rfl); (case hc => exact ev_a); (all_goals first | (intro hb; (try simp only [hbs] at hb)) | skip)) | exact atN_intro | (refine if_a (fun hb => ?_) (fun hb => ?_); (all_goals (try first | with_reducible exact True.intro | (exfalso; omega)))) | refine cw_blocks (fun KB hB => ?_) | (refine hB _ ?_; clear hB KB) | refine exit_by (S := Sg) (by assumption) ?_ | (refine ret_a ?_; (try clear hB KB); (try clear hK K)))
  refine hW _ (mkSt [(0, .b (B false)), (1, .b (.c (.ptr 1 0))), (2, .b (.c (.ptr 2 0))), (3, .b (.c (.ptr 3 0)))] [(1, .fix ((opE awO).map CV.p)), (2, .fix ((scriptE aw27b).map CV.p)), (3, .fix ((scriptE (withOps aw27 [awO])).map CV.p))] 4) ?_ ?_
  · refine le_a [(1, some 1), (2, some 2), (3, some 3)] ?_ ?_
    repeat' (refine And.intro ?_ ?_)
    all_goals first | exact le_cl | skip
    intro i hi j hj
    have hi0 : i = 0 := by omega
    subst hi0
    have hivl : j = 0 ∨ j = 1 ∨ j = 2 ∨ j = 3 ∨ j = 4 ∨ j = 5 ∨ j = 6 ∨ j = 7 ∨ j = 8 ∨ j = 9 ∨ j = 10 ∨ j = 11 := by omega
    rcases hivl with rfl | rfl | rfl | rfl | rfl | rfl | rfl | rfl | rfl | rfl | rfl | rfl <;> exact fun _ _ _ h => h
  clear hW
  repeat' (first | with_reducible exact tr_a | refine un_a ?_ | ((first | refine st_a (fun K hK => ?_) | refine rg_a ?_ | refine call_c (h2) ?_ | refine gcall_c (fun hg => h2) ?_ | refine call_c (h3) ?_ | refine gcall_c (fun hg => h3) ?_); (repeat' (refine And.intro ?_ ?_)); (all_goals first | (refine hK _ ?_; clear hK K) | exact auto_cl | skip)) | ((first | apply cw_ite | apply cw_iteN); (case hf => rfl); (case hc => exact ev_a); (all_goals first | (intro hb; (try simp only [hbs] at hb)) | skip)) | exact atN_intro | (refine if_a (fun hb => ?_) (fun hb => ?_); (all_goals (try first | with_reducible exact True.intro | (exfalso; omega)))) | refine cw_blocks (fun KB hB => ?_) | (refine hB _ ?_; clear hB KB) | refine exit_by (S := Sg) (by assumption) ?_ | (refine ret_a ?_; (try clear hB KB); (try clear hK K)))
  exact vb (by decide +kernel)
end Go.Proofs.YtbpplplnkgmhlaaGreatDoor
