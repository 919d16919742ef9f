/- Part 7 of the proof: D6, D7, D8, ED. -/
import Derived.Test.YtkjdljcbpbeehaaDoorM0
import Derived.Test.YtkjdljcbpbeehaaDoorM1
import Derived.Test.YtkjdljcbpbeehaaDoorM2
import Derived.Test.YtkjdljcbpbeehaaDoorM3
import Derived.Test.YtkjdljcbpbeehaaDoorM4
import Derived.Test.YtkjdljcbpbeehaaDoorM5
import Derived.Test.YtkjdljcbpbeehaaDoorM6
/- The boxes, as the program computes them. -/
set_option linter.unusedSimpArgs false
set_option linter.unusedVariables false
set_option maxRecDepth 8000
set_option maxHeartbeats 2000000
namespace Go.Proofs.YtkjdljcbpbeehaaDoor
open Go Go.SL
open Go.RowKit (wrap64)

/-- A stack of rectangles in a slice, the top last, with what is left behind it. -/
def rF (l junk : List Rect) (a : Nat) : Rect := (l.reverse ++ junk).getD a zeroR
theorem rF_top {p : Rect} {t junk : List Rect} : rF (p :: t) junk t.length = p := by
  rw [rF, List.reverse_cons, List.append_assoc, List.getD_eq_getElem?_getD, List.getElem?_append_right (by simp)]
  simp
theorem rF_pop {p : Rect} {t junk : List Rect} : rF (p :: t) junk = rF t (p :: junk) := by
  funext a; rw [rF, rF, List.reverse_cons, List.append_assoc]; rfl
theorem rF_top2 {q p : Rect} {t junk : List Rect} : rF (q :: p :: t) junk t.length = p := by rw [rF_pop, rF_top]
theorem rF_top3 {q p : Rect} {t junk : List Rect} : rF (q :: p :: t) junk (t.length + 1) = q := rF_top (t := p :: t)
attribute [local go_sem] pred_cast2 Int.toNat_natCast stF_top rF_top rF_top2 rF_top3
end Go.Proofs.YtkjdljcbpbeehaaDoor

/- The boxes, as the reference computes them: the same. -/
set_option linter.unusedSimpArgs false
set_option linter.unusedVariables false
set_option maxRecDepth 8000
set_option maxHeartbeats 2000000
namespace Go.Proofs.YtkjdljcbpbeehaaDoor
open Go Go.SL
open Go.RowKit (wrap64)
attribute [local go_sem] Int.toNat_natCast

end Go.Proofs.YtkjdljcbpbeehaaDoor

/- What lies between two scripts: the parts of both programs. -/
set_option linter.unusedSimpArgs false
set_option linter.unusedVariables false
set_option maxRecDepth 8000
set_option maxHeartbeats 2000000
namespace Go.Proofs.YtkjdljcbpbeehaaDoor
open Go Go.SL
open Go.RowKit (wrap64)
attribute [local go_sem] Int.toNat_natCast stF_top pred_cast2

theorem op_eq {a b : Op} : a = b ↔ a.kind = b.kind ∧ a.image = b.image ∧ a.x = b.x ∧ a.y = b.y ∧ a.mask = b.mask ∧ a.maskX = b.maskX ∧ a.maskY = b.maskY ∧ a.opacity = b.opacity ∧ a.operator = b.operator ∧
    a.mode = b.mode ∧ a.isolated = b.isolated ∧ a.knockout = b.knockout := by
  cases a; cases b; simp
theorem sameOps_spec (a b : List Op) (ha : a.length ≤ 1000000) (hb : b.length ≤ 1000000) : Pure Sg 23 [.c (.p (opL a)), .c (.p (opL b))] (fun x => x = .b (B (decide (a = b)))) := by
  refine pure_of Tryd.func23 rfl (rs := [.tmp 4]) rfl rfl mixed (by decide +kernel) (Nat.le_of_ble_eq_true rfl) (argsLt_mem (by simp (maxSteps := 1000000) (disch := omega) only [go_sem])) ?_
  repeat' (first | refine cw_assoc ?_ | refine cw_skips ?_ | refine cw_labels ?_ | ((first | refine cw_step (fun K hK => ?_) | refine cw_last (fun K hK => ?_) | refine cw_stepD (by decide +kernel) (by decide +kernel) (fun K hK => ?_) | refine cw_lastD (by decide +kernel) (by decide +kernel) (fun K hK => ?_) | refine rgB_some ?_); (try simp (maxSteps := 1000000) (disch := omega) only [go_sem]); (repeat' (refine And.intro ?_ ?_)); (all_goals first | (refine hK _ ?_; clear hK K) | exact auto_cl | skip)) | ((first | apply cw_ite | apply cw_iteN); (case hf => rfl); (case hc => simp (maxSteps := 1000000) (disch := omega) only [go_sem]; rfl); (all_goals first | (intro hb; (try simp only [hbs] at hb)) | skip)) | exact atN_intro | ((first | apply cw_if | apply cw_cond); (case hc => simp (maxSteps := 1000000) (disch := omega) only [go_sem]; rfl); (all_goals (intro hb; (try simp only [hbs] at hb); try (exfalso; omega)))) | (refine cw_blocks (fun KB hB => ?_)) | (refine cw_block ?_) | ((first | refine cw_exits ?_ | refine cw_exit ?_ | refine cw_skip ?_); simp (maxSteps := 1000000) (disch := omega) only [go_sem]) | (refine hB _ ?_; clear hB KB) | (refine exit_by (S := Sg) (by assumption) ?_) | ((first | refine cw_rets ?_ | refine cw_ret ?_); simp (maxSteps := 1000000) (disch := omega) only [go_sem]; (try clear hB KB); (try clear hK K)))
  · rw [decide_eq_false (fun e => by rw [e] at hb; omega)]
  refine cw_loop (X := Nat) (fun k => mkSt [(0, .b (.c (.p (opL a)))), (1, .b (.c (.p (opL b)))), (4, .b (B false)), (5, .b (I k))] [] 1) (fun k => k ≤ a.length ∧ ∀ j, j < k → opAt a j = opAt b j) (fun k => a.length - k) 0 ?_ ?_ ?_
  · exact ⟨Nat.zero_le _, fun j hj => absurd hj (Nat.not_lt_zero _)⟩
  · refine le_of [] rfl (by decide) rfl ?_ ?_
    all_goals simp (maxSteps := 1000000) (disch := omega) only [go_sem]
    repeat' (refine And.intro ?_ ?_)
    all_goals first | rfl | omega | exact .inl rfl | trivial | skip
  · rintro k ⟨hk, hp⟩
    repeat' (first | refine cw_assoc ?_ | refine cw_skips ?_ | refine cw_labels ?_ | ((first | refine cw_step (fun K hK => ?_) | refine cw_last (fun K hK => ?_) | refine cw_stepD (by decide +kernel) (by decide +kernel) (fun K hK => ?_) | refine cw_lastD (by decide +kernel) (by decide +kernel) (fun K hK => ?_) | refine rgB_some ?_); (try simp (maxSteps := 1000000) (disch := omega) only [go_sem]); (repeat' (refine And.intro ?_ ?_)); (all_goals first | (refine hK _ ?_; clear hK K) | exact auto_cl | skip)) | ((first | apply cw_ite | apply cw_iteN); (case hf => rfl); (case hc => simp (maxSteps := 1000000) (disch := omega) only [go_sem]; rfl); (all_goals first | (intro hb; (try simp only [hbs] at hb)) | skip)) | exact atN_intro | ((first | apply cw_if | apply cw_cond); (case hc => simp (maxSteps := 1000000) (disch := omega) only [go_sem]; rfl); (all_goals (intro hb; (try simp only [hbs] at hb); try (exfalso; omega)))) | (refine cw_blocks (fun KB hB => ?_)) | (refine cw_block ?_) | ((first | refine cw_exits ?_ | refine cw_exit ?_ | refine cw_skip ?_); simp (maxSteps := 1000000) (disch := omega) only [go_sem]) | (refine hB _ ?_; clear hB KB) | (refine exit_by (S := Sg) (by assumption) ?_) | ((first | refine cw_rets ?_ | refine cw_ret ?_); simp (maxSteps := 1000000) (disch := omega) only [go_sem]; (try clear hB KB); (try clear hK K)))
    · rw [decide_eq_false]
      intro e
      subst e
      simp at hb
    · rw [thenQ_normal]
      refine wk_loop (k + 1) ?_ ⟨by omega, fun j hj => ?_⟩ (by omega)
      · refine le_of [] rfl (by decide) rfl ?_ ?_
        all_goals simp (maxSteps := 1000000) (disch := omega) only [go_sem]
        repeat' (refine And.intro ?_ ?_)
        all_goals first | rfl | omega | exact .inl rfl | trivial | skip
      · by_cases e : j = k
        · obtain ⟨e1, e2, e3, e4, e5, e6, e7, e8, e9, e10, e11, e12, _⟩ := hb
          rw [e]; exact op_eq.2 ⟨e1, e2, e3, e4, e5, e6, e7, e8, e9, e10, e11, e12⟩
        · exact hp j (by omega)
    · rw [decide_eq_true (opAt_ext (by omega) fun j hj => hp j (by omega))]
end Go.Proofs.YtkjdljcbpbeehaaDoor

/- SimplifyReachesNormalForm. -/
set_option linter.unusedSimpArgs false
set_option linter.unusedVariables false
set_option maxRecDepth 8000
set_option maxHeartbeats 2000000
namespace Go.Proofs.YtkjdljcbpbeehaaDoor
open Go Go.SL
open Go.RowKit (wrap64)
attribute [local go_sem] Int.toNat_natCast rxE

theorem runGo_len : ∀ (f : Nat) (s : Script), (runGo f s).1.length ≤ s.ops.length
  | 0, s => Nat.le_refl _
  | f + 1, s => by
    cases hr : (redM s).head? with
    | none => rw [run_none hr]; exact Nat.le_refl _
    | some r =>
      rw [run_some hr]
      have hm := (mem_red.1 (red_head hr).1)
      exact Nat.le_trans (runGo_len f (nextS s r)) (rw_len (vops_of hm.1).wf hm.2)
def lessTo (l : List Rx) (i : Nat) : Bool := (l.take i).any fun r => decide (r.1 ≤ 4)
theorem less_step (l : List Rx) {i : Nat} (hi : i < l.length) : lessTo l (i + 1) = (lessTo l i || decide ((l.getD i default).1 ≤ 4)) := by
  have e : l.take (i + 1) = l.take i ++ [l.getD i default] := by
    rw [List.take_add_one, List.getElem?_eq_getElem hi, List.getD_eq_getElem?_getD, List.getElem?_eq_getElem hi]; rfl
  rw [lessTo, e, List.any_append, List.any_cons, List.any_nil, Bool.or_false, lessTo]
theorem normal_law (c : Scene) (hc : SceneOk c) (l : List Int) (hl : l.length ≤ 4611686018427387904) :
    Pure Sg 6 [ag (sceneE c), .c (.p (ints l))] (fun x => x = .b (B true)) := by
  have hg := gscript_spec c hc
  have hi := gImages_le c
  have hgood := (gScript_good c).len
  have hb := bias_sp (gScript c) l (gScript_len c) hl (by omega) (by show (gImages c).length ≤ _; omega)
  have hs := len_bias c l
  have H := sml_bias c l
  have ho := bias_ops c l
  generalize hS : biasM (gScript c) l = s at *
  have hrb : (redM s).length ≤ 10 * s.ops.length := by
    unfold redM
    split
    · exact rxTo_le s _
    · exact Nat.zero_le _
  have hlen := runGo_len (sumW wtOp s.ops + 1) s
  have hsi := Simplify_sp s hs H (by omega)
  have hend := run_end (sumW wtOp s.ops + 1) s (Nat.lt_succ_self _)
  have hle := run_le (sumW wtOp s.ops + 1) s
  have hless := run_less (sumW wtOp s.ops + 1) s (Nat.lt_succ_self _)
  have hT : ∃ t, t = withOps s (runM s).1 := ⟨_, rfl⟩
  obtain ⟨t, ht⟩ := hT
  have hend : redM t = [] := by rw [ht]; exact hend
  have htl : t.ops.length ≤ s.ops.length := by rw [ht]; exact hlen
  have hts : ScriptLen t := by rw [ht]; exact len_with hs (by show (runM s).1.length ≤ _; have : (runM s).1.length ≤ s.ops.length := hlen; omega)
  have htH : Sml t := by rw [ht]; exact sml_with H _
  have hcle : cntM t.ops ≤ cntM s.ops := by rw [ht]; exact hle
  have hclt : (∃ r ∈ redM s, r.1 ≤ 4) → cntM t.ops < cntM s.ops := by rw [ht]; exact hless
  rw [← ht] at hsi
  have hsi2 := Simplify_sp t hts htH (by omega)
  have hu : withOps t (runM t).1 = t := by rw [runM, run_none (by rw [hend]; rfl)]; rfl
  rw [hu] at hsi2
  have hr := Redexes_sp s hs
  have hrt := Redexes_sp t hts
  rw [hend] at hrt
  have hn := Normal_sp s hs
  have hnt := Normal_sp t hts
  rw [show decide (redM t = []) = true by rw [hend]; rfl] at hnt
  have hc1 := rcount_sp s hs
  have hc2 := rcount_sp t hts
  have hso := sameOps_spec t.ops t.ops (by omega) (by omega)
  have haw := awake27_sp
  refine pure_of Tryd.func6 rfl (rs := [.tmp 4]) rfl rfl mixed (by decide +kernel) (Nat.le_of_ble_eq_true rfl) (argsLt_mem (by simp (maxSteps := 1000000) (disch := omega) only [go_sem])) ?_
  repeat' (first | refine cw_assoc ?_ | refine cw_skips ?_ | refine cw_labels ?_ | ((first | refine cw_step (fun K hK => ?_) | refine cw_last (fun K hK => ?_) | refine cw_stepD (by decide +kernel) (by decide +kernel) (fun K hK => ?_) | refine cw_lastD (by decide +kernel) (by decide +kernel) (fun K hK => ?_) | refine rgB_some ?_ | refine call_a (hg) ?_ | refine gcall_a (fun hg => hg) ?_ | refine call_a (hb) ?_ | refine gcall_a (fun hg => hb) ?_ | refine call_a (hsi) ?_ | refine gcall_a (fun hg => hsi) ?_ | refine call_a (hsi2) ?_ | refine gcall_a (fun hg => hsi2) ?_ | refine call_a (hr) ?_ | refine gcall_a (fun hg => hr) ?_); (try simp (maxSteps := 1000000) (disch := omega) only [go_sem]); (repeat' (refine And.intro ?_ ?_)); (all_goals first | (refine hK _ ?_; clear hK K) | exact auto_cl | skip)) | ((first | apply cw_ite | apply cw_iteN); (case hf => rfl); (case hc => simp (maxSteps := 1000000) (disch := omega) only [go_sem]; rfl); (all_goals first | (intro hb; (try simp only [hbs] at hb)) | skip)) | exact atN_intro | ((first | apply cw_if | apply cw_cond); (case hc => simp (maxSteps := 1000000) (disch := omega) only [go_sem]; rfl); (all_goals (intro hb; (try simp only [hbs] at hb); try (exfalso; omega)))) | (refine cw_blocks (fun KB hB => ?_)) | (refine cw_block ?_) | ((first | refine cw_exits ?_ | refine cw_exit ?_ | refine cw_skip ?_); simp (maxSteps := 1000000) (disch := omega) only [go_sem]) | (refine hB _ ?_; clear hB KB) | (refine exit_by (S := Sg) (by assumption) ?_) | ((first | refine cw_rets ?_ | refine cw_ret ?_); simp (maxSteps := 1000000) (disch := omega) only [go_sem]; (try clear hB KB); (try clear hK K)))
  refine cw_loop (X := Nat) (fun i => mkSt [(5, .b (.c (.ptr 1 0))), (6, .b (.c (.ptr 2 0))), (7, .b (.c (.ptr 3 0))), (8, .b (.c (.p (.lst 2 (redM s).length (fnOf rxE (redM s)))))), (9, .b (B (lessTo (redM s) i))), (10, .b (I i))] [(1, .fix ((scriptE s).map CV.p)), (2, .fix ((scriptE t).map CV.p)), (3, .fix ((scriptE t).map CV.p))] 4) (fun i => i ≤ (redM s).length) (fun i => (redM s).length - i) 0 ?_ ?_ ?_
  · exact Nat.zero_le _
  · refine le_of [(1, some 1), (2, some 2), (3, some 3)] rfl (by decide) rfl ?_ ?_
    all_goals simp (maxSteps := 1000000) (disch := omega) only [go_sem]
    repeat' (refine And.intro ?_ ?_)
    all_goals first | rfl | omega | exact .inl rfl | trivial | skip
  · intro i hi2
    rcases Nat.lt_or_ge i (redM s).length with hlt | hge
    · have hls := less_step (redM s) hlt
      repeat' (first | refine cw_assoc ?_ | refine cw_skips ?_ | refine cw_labels ?_ | ((first | refine cw_step (fun K hK => ?_) | refine cw_last (fun K hK => ?_) | refine cw_stepD (by decide +kernel) (by decide +kernel) (fun K hK => ?_) | refine cw_lastD (by decide +kernel) (by decide +kernel) (fun K hK => ?_) | refine rgB_some ?_); (try simp (maxSteps := 1000000) (disch := omega) only [go_sem]); (repeat' (refine And.intro ?_ ?_)); (all_goals first | (refine hK _ ?_; clear hK K) | exact auto_cl | skip)) | ((first | apply cw_ite | apply cw_iteN); (case hf => rfl); (case hc => simp (maxSteps := 1000000) (disch := omega) only [go_sem]; rfl); (all_goals first | (intro hb; (try simp only [hbs] at hb)) | skip)) | exact atN_intro | ((first | apply cw_if | apply cw_cond); (case hc => simp (maxSteps := 1000000) (disch := omega) only [go_sem]; rfl); (all_goals (intro hb; (try simp only [hbs] at hb); try (exfalso; omega)))) | (refine cw_blocks (fun KB hB => ?_)) | (refine cw_block ?_) | ((first | refine cw_exits ?_ | refine cw_exit ?_ | refine cw_skip ?_); simp (maxSteps := 1000000) (disch := omega) only [go_sem]) | (refine hB _ ?_; clear hB KB) | (refine exit_by (S := Sg) (by assumption) ?_) | ((first | refine cw_rets ?_ | refine cw_ret ?_); simp (maxSteps := 1000000) (disch := omega) only [go_sem]; (try clear hB KB); (try clear hK K)))
      rw [thenQ_normal]
      refine wk_loop (i + 1) ?_ (by omega) (by omega)
      rw [hls]
      refine le_of [(1, some 1), (2, some 2), (3, some 3)] rfl (by decide) rfl ?_ ?_
      all_goals simp (maxSteps := 1000000) (disch := omega) only [go_sem]
      repeat' (refine And.intro ?_ ?_)
      all_goals first | rfl | omega | exact .inl rfl | trivial | skip
    · have hi3 : i = (redM s).length := by omega
      subst hi3
      repeat' (first | refine cw_assoc ?_ | refine cw_skips ?_ | refine cw_labels ?_ | ((first | refine cw_step (fun K hK => ?_) | refine cw_last (fun K hK => ?_) | refine cw_stepD (by decide +kernel) (by decide +kernel) (fun K hK => ?_) | refine cw_lastD (by decide +kernel) (by decide +kernel) (fun K hK => ?_) | refine rgB_some ?_ | refine call_a (hc1) ?_ | refine gcall_a (fun hg => hc1) ?_ | refine call_a (hc2) ?_ | refine gcall_a (fun hg => hc2) ?_ | refine call_a (haw) ?_ | refine gcall_a (fun hg => haw) ?_ | refine call_a (hnt) ?_ | refine gcall_a (fun hg => hnt) ?_ | refine call_a (hrt) ?_ | refine gcall_a (fun hg => hrt) ?_ | refine call_a (hso) ?_ | refine gcall_a (fun hg => hso) ?_ | refine call_a (hn) ?_ | refine gcall_a (fun hg => hn) ?_); (try simp (maxSteps := 1000000) (disch := omega) only [go_sem]); (repeat' (refine And.intro ?_ ?_)); (all_goals first | (refine hK _ ?_; clear hK K) | exact auto_cl | skip)) | ((first | apply cw_ite | apply cw_iteN); (case hf => rfl); (case hc => simp (maxSteps := 1000000) (disch := omega) only [go_sem]; rfl); (all_goals first | (intro hb; (try simp only [hbs] at hb)) | skip)) | exact atN_intro | ((first | apply cw_if | apply cw_cond); (case hc => simp (maxSteps := 1000000) (disch := omega) only [go_sem]; rfl); (all_goals (intro hb; (try simp only [hbs] at hb); try (exfalso; omega)))) | (refine cw_blocks (fun KB hB => ?_)) | (refine cw_block ?_) | ((first | refine cw_exits ?_ | refine cw_exit ?_ | refine cw_skip ?_); simp (maxSteps := 1000000) (disch := omega) only [go_sem]) | (refine hB _ ?_; clear hB KB) | (refine exit_by (S := Sg) (by assumption) ?_) | ((first | refine cw_rets ?_ | refine cw_ret ?_); simp (maxSteps := 1000000) (disch := omega) only [go_sem]; (try clear hB KB); (try clear hK K)))
      refine vb ?_
      have e1 : decide ((cntM t.ops : Int) ≤ (cntM s.ops : Int)) = true := decide_eq_true (by omega)
      have e2 : (!lessTo (redM s) (redM s).length || decide ((cntM t.ops : Int) < (cntM s.ops : Int))) = true := by
        cases hlt : lessTo (redM s) (redM s).length with
        | false => rfl
        | true =>
          rw [lessTo, List.take_length, List.any_eq_true] at hlt
          obtain ⟨r, hr1, hr2⟩ := hlt
          have := hclt ⟨r, hr1, of_decide_eq_true hr2⟩
          rw [decide_eq_true (show (cntM t.ops : Int) < (cntM s.ops : Int) by omega)]
          rfl
      have e3 : (decide (redM s = []) == (((redM s).length : Int) == 0)) = true := by
        cases redM s with
        | nil => rfl
        | cons a r =>
          rw [decide_eq_false (List.cons_ne_nil a r), beq_eq_false_iff_ne.2 (show (((a :: r).length : Nat) : Int) ≠ 0 by rw [List.length_cons]; omega)]
          rfl
      rw [e1, e2, e3]
      rfl
end Go.Proofs.YtkjdljcbpbeehaaDoor
