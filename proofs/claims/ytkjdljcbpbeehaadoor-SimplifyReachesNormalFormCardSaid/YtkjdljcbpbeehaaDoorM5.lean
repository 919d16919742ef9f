/- Part 5 of the proof: E7, E8, E9, EA. -/
import Derived.Test.YtkjdljcbpbeehaaDoorM0
import Derived.Test.YtkjdljcbpbeehaaDoorM1
import Derived.Test.YtkjdljcbpbeehaaDoorM2
import Derived.Test.YtkjdljcbpbeehaaDoorM3
import Derived.Test.YtkjdljcbpbeehaaDoorM4
/- All redexes, the first one, rewriting, and the script that comes out. -/
set_option linter.unusedSimpArgs false
set_option linter.unusedVariables false
set_option maxRecDepth 8000
set_option maxHeartbeats 2000000
namespace Go.Proofs.YtkjdljcbpbeehaaDoor
open Go Go.SL
open Go.RowKit (wrap64)
def rxE (r : Rx) : List PV := [PI r.1, PI r.2]
attribute [local go_sem] Int.toNat_natCast vP vf0 vf1 vf2 vf3 vf4 vf5 vf6 vf7 vf8 vf9 vf10 vf11 vf12 vf13 vf14 rxE tiF1 tiF2 tiF3 flR0 flR1 elR

theorem rxAt_succ (s : Script) (i n : Nat) : rxAt s i (n + 1) = rxAt s i n ++ if apM s n i = true then [((n : Int), (i : Int))] else [] := by
  rw [rxAt, List.range_succ, List.filter_append, List.map_append]
  congr 1
  by_cases h : apM s n i = true
  · rw [if_pos h]; simp only [List.filter_cons, h, if_true, List.filter_nil]; rfl
  · rw [if_neg h]; simp only [List.filter_cons, h, List.filter_nil]; rfl
theorem rxTo_succ (s : Script) (i : Nat) : rxTo s (i + 1) = rxTo s i ++ rxAt s i 10 := by
  rw [rxTo, List.range_succ, List.flatMap_append, List.flatMap_cons, List.flatMap_nil, List.append_nil]; rfl
theorem rxAt_le (s : Script) (i : Nat) : ∀ n, (rxAt s i n).length ≤ n
  | 0 => Nat.le_refl _
  | n + 1 => by
    have := rxAt_le s i n
    rw [rxAt_succ, List.length_append]
    split <;> simp <;> omega
theorem rxTo_le (s : Script) : ∀ i, (rxTo s i).length ≤ 10 * i
  | 0 => Nat.le_refl _
  | i + 1 => by
    have := rxTo_le s i
    have := rxAt_le s i 10
    rw [rxTo_succ, List.length_append]
    omega
theorem rxAt_pre (s : Script) (i : Nat) {n m : Nat} (h : n ≤ m) : ∃ r, rxAt s i m = rxAt s i n ++ r := by
  induction m with
  | zero => exact ⟨[], by rw [show n = 0 by omega, List.append_nil]⟩
  | succ m ih =>
    rcases Nat.lt_or_ge n (m + 1) with h1 | h1
    · obtain ⟨r, hr⟩ := ih (by omega)
      rw [rxAt_succ, hr, List.append_assoc]
      exact ⟨_, rfl⟩
    · exact ⟨[], by rw [show n = m + 1 by omega, List.append_nil]⟩
theorem rxTo_pre (s : Script) {n m : Nat} (h : n ≤ m) : ∃ r, rxTo s m = rxTo s n ++ r := by
  induction m with
  | zero => exact ⟨[], by rw [show n = 0 by omega, List.append_nil]⟩
  | succ m ih =>
    rcases Nat.lt_or_ge n (m + 1) with h1 | h1
    · obtain ⟨r, hr⟩ := ih (by omega)
      rw [rxTo_succ, hr, List.append_assoc]
      exact ⟨_, rfl⟩
    · exact ⟨[], by rw [show n = m + 1 by omega, List.append_nil]⟩
theorem rx_head {s : Script} {i n : Nat} (hi : i < s.ops.length) (hn : n < 10) (h0 : rxTo s i = []) (h1 : rxAt s i n = []) (ha : apM s n i = true) : (rxTo s s.ops.length).head? = some ((n : Int), (i : Int)) := by
  obtain ⟨r, hr⟩ := rxTo_pre s (n := i + 1) (m := s.ops.length) hi
  obtain ⟨q, hq⟩ := rxAt_pre s i (n := n + 1) (m := 10) hn
  rw [hr, rxTo_succ, h0, hq, rxAt_succ, h1, if_pos ha]
  rfl
theorem rx_snoc {l : List Rx} {x : Rx} {g : Nat → Nat → PV} (hg : ∀ j, j < 2 → g 0 j = (rxE x).getD j .any) : ∀ a, a < l.length + 1 → ∀ j, j < 2 → PV.le (appF l.length (fnOf rxE l) g a j) (fnOf rxE (l ++ [x]) a j) := fun a ha j hj => by
  have e : appF l.length (fnOf rxE l) g a j = fnOf rxE (l ++ [x]) a j := by
    unfold appF
    by_cases h : a < l.length
    · rw [if_pos h]
      exact congrArg (fun o => (rxE o).getD j .any) (show l.getD a default = (l ++ [x]).getD a default by rw [List.getD_eq_getElem?_getD, List.getD_eq_getElem?_getD, List.getElem?_append_left h])
    · have ea : a = l.length := by omega
      subst ea
      rw [if_neg h, Nat.sub_self, hg j hj]
      exact congrArg (fun o => (rxE o).getD j .any) (show x = (l ++ [x]).getD l.length default by rw [List.getD_eq_getElem?_getD, List.getElem?_append_right (Nat.le_refl _), Nat.sub_self]; rfl)
  rw [e]
  exact fun _ _ _ h => h
theorem Applies_sp (s : Script) (V : VOps s) (hs : ScriptLen s) (n i : Int) : Pure Sg 43 [ag (scriptE s), I n, I i] (fun x => x = .b (B (apM s n i))) := by
  have h1 := look_spec s V hs (ops_ok V)
  have h2 := applies_sp s V hs n i
  refine pure_of Tryd.func43 rfl (rs := [.tmp 6]) rfl rfl mixed (by decide +kernel) (Nat.le_of_ble_eq_true rfl) (argsLt_mem (by simp (maxSteps := 1000000) (disch := omega) only [go_sem])) ?_
  repeat' (first | refine cw_assoc ?_ | refine cw_skips ?_ | refine cw_labels ?_ | ((first | refine cw_step (fun K hK => ?_) | refine cw_last (fun K hK => ?_) | refine cw_stepD (by decide +kernel) (by decide +kernel) (fun K hK => ?_) | refine cw_lastD (by decide +kernel) (by decide +kernel) (fun K hK => ?_) | refine rgB_some ?_ | refine call_a (h1) ?_ | refine gcall_a (fun hg => h1) ?_ | refine call_a (h2) ?_ | refine gcall_a (fun hg => h2) ?_); (try simp (maxSteps := 1000000) (disch := omega) only [go_sem]); (repeat' (refine And.intro ?_ ?_)); (all_goals first | (refine hK _ ?_; clear hK K) | exact auto_cl | skip)) | ((first | apply cw_ite | apply cw_iteN); (case hf => rfl); (case hc => simp (maxSteps := 1000000) (disch := omega) only [go_sem]; rfl); (all_goals first | (intro hb; (try simp only [hbs] at hb)) | skip)) | exact atN_intro | ((first | apply cw_if | apply cw_cond); (case hc => simp (maxSteps := 1000000) (disch := omega) only [go_sem]; rfl); (all_goals (intro hb; (try simp only [hbs] at hb); try (exfalso; omega)))) | (refine cw_blocks (fun KB hB => ?_)) | (refine cw_block ?_) | ((first | refine cw_exits ?_ | refine cw_exit ?_ | refine cw_skip ?_); simp (maxSteps := 1000000) (disch := omega) only [go_sem]) | (refine hB _ ?_; clear hB KB) | (refine exit_by (S := Sg) (by assumption) ?_) | ((first | refine cw_rets ?_ | refine cw_ret ?_); simp (maxSteps := 1000000) (disch := omega) only [go_sem]; (try clear hB KB); (try clear hK K)))
  all_goals trace_state
  all_goals sorry
theorem Redexes_no (s : Script) (hs : ScriptLen s) (he : (opsM s).1 ≠ 0) : Pure Sg 14 [ag (scriptE s)] (fun x => x = .b (.c (.p (.lst 2 (redM s).length (fnOf rxE (redM s)))))) := by
  have h1 := look_no s hs he
  rw [redM, if_neg he]
  refine pure_le ?_
  refine pure_of Tryd.func14 rfl (rs := [.tmp 2]) rfl rfl mixed (by decide +kernel) (Nat.le_of_ble_eq_true rfl) (argsLt_mem (by simp (maxSteps := 1000000) (disch := omega) only [go_sem])) ?_
  repeat' (first | refine cw_assoc ?_ | refine cw_skips ?_ | refine cw_labels ?_ | ((first | refine cw_step (fun K hK => ?_) | refine cw_last (fun K hK => ?_) | refine cw_stepD (by decide +kernel) (by decide +kernel) (fun K hK => ?_) | refine cw_lastD (by decide +kernel) (by decide +kernel) (fun K hK => ?_) | refine rgB_some ?_ | refine call_a (h1) ?_ | refine gcall_a (fun hg => h1) ?_); (try simp (maxSteps := 1000000) (disch := omega) only [go_sem]); (repeat' (refine And.intro ?_ ?_)); (all_goals first | (refine hK _ ?_; clear hK K) | exact auto_cl | skip)) | ((first | apply cw_ite | apply cw_iteN); (case hf => rfl); (case hc => simp (maxSteps := 1000000) (disch := omega) only [go_sem]; rfl); (all_goals first | (intro hb; (try simp only [hbs] at hb)) | skip)) | exact atN_intro | ((first | apply cw_if | apply cw_cond); (case hc => simp (maxSteps := 1000000) (disch := omega) only [go_sem]; rfl); (all_goals (intro hb; (try simp only [hbs] at hb); try (exfalso; omega)))) | (refine cw_blocks (fun KB hB => ?_)) | (refine cw_block ?_) | ((first | refine cw_exits ?_ | refine cw_exit ?_ | refine cw_skip ?_); simp (maxSteps := 1000000) (disch := omega) only [go_sem]) | (refine hB _ ?_; clear hB KB) | (refine exit_by (S := Sg) (by assumption) ?_) | ((first | refine cw_rets ?_ | refine cw_ret ?_); simp (maxSteps := 1000000) (disch := omega) only [go_sem]; (try clear hB KB); (try clear hK K)))
  · exact sle_b (ble_c nil_le)
  · exact absurd hb (by decide)
theorem Redexes_yes (s : Script) (V : VOps s) (hs : ScriptLen s) : Pure Sg 14 [ag (scriptE s)] (fun x => x = .b (.c (.p (.lst 2 (redM s).length (fnOf rxE (redM s)))))) := by
  have hn := V.cnt
  have h1 := look_spec s V hs (ops_ok V)
  rw [redM, if_pos (ops_ok V)]
  refine pure_le ?_
  refine pure_of Tryd.func14 rfl (rs := [.tmp 2]) rfl rfl mixed (by decide +kernel) (Nat.le_of_ble_eq_true rfl) (argsLt_mem (by simp (maxSteps := 1000000) (disch := omega) only [go_sem])) ?_
  repeat' (first | refine cw_assoc ?_ | refine cw_skips ?_ | refine cw_labels ?_ | ((first | refine cw_step (fun K hK => ?_) | refine cw_last (fun K hK => ?_) | refine cw_stepD (by decide +kernel) (by decide +kernel) (fun K hK => ?_) | refine cw_lastD (by decide +kernel) (by decide +kernel) (fun K hK => ?_) | refine rgB_some ?_ | refine call_a (h1) ?_ | refine gcall_a (fun hg => h1) ?_); (try simp (maxSteps := 1000000) (disch := omega) only [go_sem]); (repeat' (refine And.intro ?_ ?_)); (all_goals first | (refine hK _ ?_; clear hK K) | exact auto_cl | skip)) | ((first | apply cw_ite | apply cw_iteN); (case hf => rfl); (case hc => simp (maxSteps := 1000000) (disch := omega) only [go_sem]; rfl); (all_goals first | (intro hb; (try simp only [hbs] at hb)) | skip)) | exact atN_intro | ((first | apply cw_if | apply cw_cond); (case hc => simp (maxSteps := 1000000) (disch := omega) only [go_sem]; rfl); (all_goals (intro hb; (try simp only [hbs] at hb); try (exfalso; omega)))) | (refine cw_blocks (fun KB hB => ?_)) | (refine cw_block ?_) | ((first | refine cw_exits ?_ | refine cw_exit ?_ | refine cw_skip ?_); simp (maxSteps := 1000000) (disch := omega) only [go_sem]) | (refine hB _ ?_; clear hB KB) | (refine exit_by (S := Sg) (by assumption) ?_) | ((first | refine cw_rets ?_ | refine cw_ret ?_); simp (maxSteps := 1000000) (disch := omega) only [go_sem]; (try clear hB KB); (try clear hK K)))
  · exact absurd hb (by decide)
  refine cw_loop (X := Nat) (fun i => mkSt [(1, .b (.c (.ptr 0 0))), (3, .b (vP s)), (5, .b (.c (.own 1 (rxTo s i).length))), (17, .b (I s.ops.length)), (18, .b (I i))]
    [(0, .fix ((scriptE s).map CV.p)), (1, .arr 55 2 (rxTo s i).length (fnOf rxE (rxTo s i)))] 2) (fun i => i ≤ s.ops.length) (fun i => s.ops.length - i) 0 ?_ ?_ ?_
  · exact Nat.zero_le _
  · refine le_of [(1, none)] rfl (by decide) rfl ?_ ?_
    all_goals simp (maxSteps := 1000000) (disch := omega) only [go_sem]
    repeat' (refine And.intro ?_ ?_)
    all_goals first | rfl | omega | exact .inl rfl | trivial | skip
  · intro i hi
    have hl := rxTo_le s i
    rcases Nat.lt_or_ge i s.ops.length with hlt | hge
    · repeat' (first | refine cw_assoc ?_ | refine cw_skips ?_ | refine cw_labels ?_ | ((first | refine cw_step (fun K hK => ?_) | refine cw_last (fun K hK => ?_) | refine cw_stepD (by decide +kernel) (by decide +kernel) (fun K hK => ?_) | refine cw_lastD (by decide +kernel) (by decide +kernel) (fun K hK => ?_) | refine rgB_some ?_ | refine call_a (table_sp) ?_ | refine gcall_a (fun hg => table_sp) ?_); (try simp (maxSteps := 1000000) (disch := omega) only [go_sem]); (repeat' (refine And.intro ?_ ?_)); (all_goals first | (refine hK _ ?_; clear hK K) | exact auto_cl | skip)) | ((first | apply cw_ite | apply cw_iteN); (case hf => rfl); (case hc => simp (maxSteps := 1000000) (disch := omega) only [go_sem]; rfl); (all_goals first | (intro hb; (try simp only [hbs] at hb)) | skip)) | exact atN_intro | ((first | apply cw_if | apply cw_cond); (case hc => simp (maxSteps := 1000000) (disch := omega) only [go_sem]; rfl); (all_goals (intro hb; (try simp only [hbs] at hb); try (exfalso; omega)))) | (refine cw_blocks (fun KB hB => ?_)) | (refine cw_block ?_) | ((first | refine cw_exits ?_ | refine cw_exit ?_ | refine cw_skip ?_); simp (maxSteps := 1000000) (disch := omega) only [go_sem]) | (refine hB _ ?_; clear hB KB) | (refine exit_by (S := Sg) (by assumption) ?_) | ((first | refine cw_rets ?_ | refine cw_ret ?_); simp (maxSteps := 1000000) (disch := omega) only [go_sem]; (try clear hB KB); (try clear hK K)))
      refine cw_loop (X := Nat) (fun n => mkSt [(1, .b (.c (.ptr 0 0))), (3, .b (vP s)), (5, .b (.c (.own 1 (rxTo s i ++ rxAt s i n).length))), (6, .b (I i)), (17, .b (I s.ops.length)), (18, .b (I i)), (22, .b (I 10)), (23, .b (I n))]
        [(0, .fix ((scriptE s).map CV.p)), (1, .arr 55 2 (rxTo s i ++ rxAt s i n).length (fnOf rxE (rxTo s i ++ rxAt s i n)))] 2) (fun n => n ≤ 10) (fun n => 10 - n) 0 ?_ ?_ ?_
      · exact Nat.zero_le _
      · have e0 : rxTo s i ++ rxAt s i 0 = rxTo s i := List.append_nil _
        rw [e0]
        refine le_of [(1, some 1)] rfl (by decide) rfl ?_ ?_
        all_goals simp (maxSteps := 1000000) (disch := omega) only [go_sem]
        repeat' (refine And.intro ?_ ?_)
        all_goals first | rfl | omega | exact .inl rfl | trivial | skip
      · intro n hn10
        have hl2 : (rxTo s i ++ rxAt s i n).length ≤ 10 * i + 10 := by
          have := rxAt_le s i n
          rw [List.length_append]; omega
        rcases Nat.lt_or_ge n 10 with hnl | hng
        · by_cases ha : apM s n i = true
          · repeat' (first | ((first | apply cw_ifT | apply cw_condT); (case hc => simp (maxSteps := 1000000) (disch := omega) only [go_sem]; rfl); (case ht => (simp only [Int.toNat_natCast, Int.reduceBEq, Int.reduceBNe, Int.reduceLT, Int.reduceLE, decide_true, decide_false, Bool.not_true, Bool.not_false, Bool.and_true, Bool.true_and, Bool.and_false, Bool.false_and, Bool.or_true, Bool.true_or, Bool.or_false, Bool.false_or, ha]; done))) | ((first | apply cw_ifF | apply cw_condF); (case hc => simp (maxSteps := 1000000) (disch := omega) only [go_sem]; rfl); (case ht => (simp only [Int.toNat_natCast, Int.reduceBEq, Int.reduceBNe, Int.reduceLT, Int.reduceLE, decide_true, decide_false, Bool.not_true, Bool.not_false, Bool.and_true, Bool.true_and, Bool.and_false, Bool.false_and, Bool.or_true, Bool.true_or, Bool.or_false, Bool.false_or, ha]; done))) | refine cw_assoc ?_ | refine cw_skips ?_ | refine cw_labels ?_ | ((first | refine cw_step (fun K hK => ?_) | refine cw_last (fun K hK => ?_) | refine cw_stepD (by decide +kernel) (by decide +kernel) (fun K hK => ?_) | refine cw_lastD (by decide +kernel) (by decide +kernel) (fun K hK => ?_) | refine rgB_some ?_ | refine call_a (applies_sp s V hs n i) ?_ | refine gcall_a (fun hg => applies_sp s V hs n i) ?_); (try simp (maxSteps := 1000000) (disch := omega) only [go_sem]); (repeat' (refine And.intro ?_ ?_)); (all_goals first | (refine hK _ ?_; clear hK K) | exact auto_cl | skip)) | ((first | apply cw_ite | apply cw_iteN); (case hf => rfl); (case hc => simp (maxSteps := 1000000) (disch := omega) only [go_sem]; rfl); (all_goals first | (intro hb; (try simp only [hbs] at hb)) | skip)) | exact atN_intro | ((first | apply cw_if | apply cw_cond); (case hc => simp (maxSteps := 1000000) (disch := omega) only [go_sem]; rfl); (all_goals (intro hb; (try simp only [hbs] at hb); try (exfalso; omega)))) | (refine cw_blocks (fun KB hB => ?_)) | (refine cw_block ?_) | ((first | refine cw_exits ?_ | refine cw_exit ?_ | refine cw_skip ?_); simp (maxSteps := 1000000) (disch := omega) only [go_sem]) | (refine hB _ ?_; clear hB KB) | (refine exit_by (S := Sg) (by assumption) ?_) | ((first | refine cw_rets ?_ | refine cw_ret ?_); simp (maxSteps := 1000000) (disch := omega) only [go_sem]; (try clear hB KB); (try clear hK K)))
            rw [thenQ_normal]
            refine wk_loop (n + 1) ?_ (by omega) (by omega)
            have e : rxTo s i ++ rxAt s i (n + 1) = rxTo s i ++ rxAt s i n ++ [((n : Int), (i : Int))] := by rw [rxAt_succ, if_pos ha, List.append_assoc]
            rw [e, show (rxTo s i ++ rxAt s i n ++ [((n : Int), (i : Int))]).length = (rxTo s i ++ rxAt s i n).length + 1 from List.length_append]
            refine le_of [(1, some 3)] rfl (by decide) rfl ?_ ?_
            all_goals simp (maxSteps := 1000000) (disch := omega) only [go_sem]
            repeat' (refine And.intro ?_ ?_)
            all_goals first | rfl | omega | exact .inl rfl | trivial | skip
            exact .inr (rx_snoc fun j hj => by
              have hj2 : j = 0 ∨ j = 1 := by omega
              rcases hj2 with rfl | rfl <;> rfl)
          · have e : rxTo s i ++ rxAt s i (n + 1) = rxTo s i ++ rxAt s i n := by rw [rxAt_succ, if_neg ha, List.append_nil]
            rw [Bool.not_eq_true] at ha
            repeat' (first | ((first | apply cw_ifT | apply cw_condT); (case hc => simp (maxSteps := 1000000) (disch := omega) only [go_sem]; rfl); (case ht => (simp only [Int.toNat_natCast, Int.reduceBEq, Int.reduceBNe, Int.reduceLT, Int.reduceLE, decide_true, decide_false, Bool.not_true, Bool.not_false, Bool.and_true, Bool.true_and, Bool.and_false, Bool.false_and, Bool.or_true, Bool.true_or, Bool.or_false, Bool.false_or, ha]; done))) | ((first | apply cw_ifF | apply cw_condF); (case hc => simp (maxSteps := 1000000) (disch := omega) only [go_sem]; rfl); (case ht => (simp only [Int.toNat_natCast, Int.reduceBEq, Int.reduceBNe, Int.reduceLT, Int.reduceLE, decide_true, decide_false, Bool.not_true, Bool.not_false, Bool.and_true, Bool.true_and, Bool.and_false, Bool.false_and, Bool.or_true, Bool.true_or, Bool.or_false, Bool.false_or, ha]; done))) | refine cw_assoc ?_ | refine cw_skips ?_ | refine cw_labels ?_ | ((first | refine cw_step (fun K hK => ?_) | refine cw_last (fun K hK => ?_) | refine cw_stepD (by decide +kernel) (by decide +kernel) (fun K hK => ?_) | refine cw_lastD (by decide +kernel) (by decide +kernel) (fun K hK => ?_) | refine rgB_some ?_ | refine call_a (applies_sp s V hs n i) ?_ | refine gcall_a (fun hg => applies_sp s V hs n i) ?_); (try simp (maxSteps := 1000000) (disch := omega) only [go_sem]); (repeat' (refine And.intro ?_ ?_)); (all_goals first | (refine hK _ ?_; clear hK K) | exact auto_cl | skip)) | ((first | apply cw_ite | apply cw_iteN); (case hf => rfl); (case hc => simp (maxSteps := 1000000) (disch := omega) only [go_sem]; rfl); (all_goals first | (intro hb; (try simp only [hbs] at hb)) | skip)) | exact atN_intro | ((first | apply cw_if | apply cw_cond); (case hc => simp (maxSteps := 1000000) (disch := omega) only [go_sem]; rfl); (all_goals (intro hb; (try simp only [hbs] at hb); try (exfalso; omega)))) | (refine cw_blocks (fun KB hB => ?_)) | (refine cw_block ?_) | ((first | refine cw_exits ?_ | refine cw_exit ?_ | refine cw_skip ?_); simp (maxSteps := 1000000) (disch := omega) only [go_sem]) | (refine hB _ ?_; clear hB KB) | (refine exit_by (S := Sg) (by assumption) ?_) | ((first | refine cw_rets ?_ | refine cw_ret ?_); simp (maxSteps := 1000000) (disch := omega) only [go_sem]; (try clear hB KB); (try clear hK K)))
            rw [thenQ_normal]
            refine wk_loop (n + 1) ?_ (by omega) (by omega)
            rw [e]
            refine le_of [(1, some 1)] rfl (by decide) rfl ?_ ?_
            all_goals simp (maxSteps := 1000000) (disch := omega) only [go_sem]
            repeat' (refine And.intro ?_ ?_)
            all_goals first | rfl | omega | exact .inl rfl | trivial | skip
        · have hn2 : n = 10 := by omega
          subst hn2
          repeat' (first | refine cw_assoc ?_ | refine cw_skips ?_ | refine cw_labels ?_ | ((first | refine cw_step (fun K hK => ?_) | refine cw_last (fun K hK => ?_) | refine cw_stepD (by decide +kernel) (by decide +kernel) (fun K hK => ?_) | refine cw_lastD (by decide +kernel) (by decide +kernel) (fun K hK => ?_) | refine rgB_some ?_); (try simp (maxSteps := 1000000) (disch := omega) only [go_sem]); (repeat' (refine And.intro ?_ ?_)); (all_goals first | (refine hK _ ?_; clear hK K) | exact auto_cl | skip)) | ((first | apply cw_ite | apply cw_iteN); (case hf => rfl); (case hc => simp (maxSteps := 1000000) (disch := omega) only [go_sem]; rfl); (all_goals first | (intro hb; (try simp only [hbs] at hb)) | skip)) | exact atN_intro | ((first | apply cw_if | apply cw_cond); (case hc => simp (maxSteps := 1000000) (disch := omega) only [go_sem]; rfl); (all_goals (intro hb; (try simp only [hbs] at hb); try (exfalso; omega)))) | (refine cw_blocks (fun KB hB => ?_)) | (refine cw_block ?_) | ((first | refine cw_exits ?_ | refine cw_exit ?_ | refine cw_skip ?_); simp (maxSteps := 1000000) (disch := omega) only [go_sem]) | (refine hB _ ?_; clear hB KB) | (refine exit_by (S := Sg) (by assumption) ?_) | ((first | refine cw_rets ?_ | refine cw_ret ?_); simp (maxSteps := 1000000) (disch := omega) only [go_sem]; (try clear hB KB); (try clear hK K)))
          rw [thenQ_normal]
          refine wk_loop (i + 1) ?_ (by omega) (by omega)
          rw [rxTo_succ]
          refine le_of [(1, some 1)] rfl (by decide) rfl ?_ ?_
          all_goals simp (maxSteps := 1000000) (disch := omega) only [go_sem]
          repeat' (refine And.intro ?_ ?_)
          all_goals first | rfl | omega | exact .inl rfl | trivial | skip
    · have hi2 : i = s.ops.length := by omega
      subst hi2
      repeat' (first | refine cw_assoc ?_ | refine cw_skips ?_ | refine cw_labels ?_ | ((first | refine cw_step (fun K hK => ?_) | refine cw_last (fun K hK => ?_) | refine cw_stepD (by decide +kernel) (by decide +kernel) (fun K hK => ?_) | refine cw_lastD (by decide +kernel) (by decide +kernel) (fun K hK => ?_) | refine rgB_some ?_); (try simp (maxSteps := 1000000) (disch := omega) only [go_sem]); (repeat' (refine And.intro ?_ ?_)); (all_goals first | (refine hK _ ?_; clear hK K) | exact auto_cl | skip)) | ((first | apply cw_ite | apply cw_iteN); (case hf => rfl); (case hc => simp (maxSteps := 1000000) (disch := omega) only [go_sem]; rfl); (all_goals first | (intro hb; (try simp only [hbs] at hb)) | skip)) | exact atN_intro | ((first | apply cw_if | apply cw_cond); (case hc => simp (maxSteps := 1000000) (disch := omega) only [go_sem]; rfl); (all_goals (intro hb; (try simp only [hbs] at hb); try (exfalso; omega)))) | (refine cw_blocks (fun KB hB => ?_)) | (refine cw_block ?_) | ((first | refine cw_exits ?_ | refine cw_exit ?_ | refine cw_skip ?_); simp (maxSteps := 1000000) (disch := omega) only [go_sem]) | (refine hB _ ?_; clear hB KB) | (refine exit_by (S := Sg) (by assumption) ?_) | ((first | refine cw_rets ?_ | refine cw_ret ?_); simp (maxSteps := 1000000) (disch := omega) only [go_sem]; (try clear hB KB); (try clear hK K)))
      exact sle_b (ble_rfl trivial)
theorem First_no (s : Script) (hs : ScriptLen s) (he : (opsM s).1 ≠ 0) : Pure Sg 48 [ag (scriptE s)] (fun x => x = .tup [ag [PI 0, PI 0], B false]) := by
  have h1 := look_no s hs he
  refine pure_of Tryd.func48 rfl (rs := [.cell 2 55, .tmp 3]) rfl rfl mixed (by decide +kernel) (Nat.le_of_ble_eq_true rfl) (argsLt_mem (by simp (maxSteps := 1000000) (disch := omega) only [go_sem])) ?_
  repeat' (first | refine cw_assoc ?_ | refine cw_skips ?_ | refine cw_labels ?_ | ((first | refine cw_step (fun K hK => ?_) | refine cw_last (fun K hK => ?_) | refine cw_stepD (by decide +kernel) (by decide +kernel) (fun K hK => ?_) | refine cw_lastD (by decide +kernel) (by decide +kernel) (fun K hK => ?_) | refine rgB_some ?_ | refine call_a (h1) ?_ | refine gcall_a (fun hg => h1) ?_); (try simp (maxSteps := 1000000) (disch := omega) only [go_sem]); (repeat' (refine And.intro ?_ ?_)); (all_goals first | (refine hK _ ?_; clear hK K) | exact auto_cl | skip)) | ((first | apply cw_ite | apply cw_iteN); (case hf => rfl); (case hc => simp (maxSteps := 1000000) (disch := omega) only [go_sem]; rfl); (all_goals first | (intro hb; (try simp only [hbs] at hb)) | skip)) | exact atN_intro | ((first | apply cw_if | apply cw_cond); (case hc => simp (maxSteps := 1000000) (disch := omega) only [go_sem]; rfl); (all_goals (intro hb; (try simp only [hbs] at hb); try (exfalso; omega)))) | (refine cw_blocks (fun KB hB => ?_)) | (refine cw_block ?_) | ((first | refine cw_exits ?_ | refine cw_exit ?_ | refine cw_skip ?_); simp (maxSteps := 1000000) (disch := omega) only [go_sem]) | (refine hB _ ?_; clear hB KB) | (refine exit_by (S := Sg) (by assumption) ?_) | ((first | refine cw_rets ?_ | refine cw_ret ?_); simp (maxSteps := 1000000) (disch := omega) only [go_sem]; (try clear hB KB); (try clear hK K)))
  · rfl
  · exact absurd hb (by decide)
def firstV (l : List Rx) : SV := match l with | [] => .tup [ag [PI 0, PI 0], B false] | r :: _ => .tup [ag (rxE r), B true]
theorem firstV_nil {l : List Rx} (h : l = []) : firstV l = .tup [ag [PI 0, PI 0], B false] := by rw [h]; rfl
theorem firstV_head {l : List Rx} {r : Rx} (h : l.head? = some r) : firstV l = .tup [ag (rxE r), B true] := by
  cases l with
  | nil => cases h
  | cons a t => rw [List.head?_cons, Option.some.injEq] at h; rw [h]; rfl
theorem First_yes (s : Script) (V : VOps s) (hs : ScriptLen s) : Pure Sg 48 [ag (scriptE s)] (fun x => x = firstV (redM s)) := by
  have hn := V.cnt
  have h1 := look_spec s V hs (ops_ok V)
  rw [redM, if_pos (ops_ok V)]
  refine pure_of Tryd.func48 rfl (rs := [.cell 2 55, .tmp 3]) rfl rfl mixed (by decide +kernel) (Nat.le_of_ble_eq_true rfl) (argsLt_mem (by simp (maxSteps := 1000000) (disch := omega) only [go_sem])) ?_
  repeat' (first | refine cw_assoc ?_ | refine cw_skips ?_ | refine cw_labels ?_ | ((first | refine cw_step (fun K hK => ?_) | refine cw_last (fun K hK => ?_) | refine cw_stepD (by decide +kernel) (by decide +kernel) (fun K hK => ?_) | refine cw_lastD (by decide +kernel) (by decide +kernel) (fun K hK => ?_) | refine rgB_some ?_ | refine call_a (h1) ?_ | refine gcall_a (fun hg => h1) ?_); (try simp (maxSteps := 1000000) (disch := omega) only [go_sem]); (repeat' (refine And.intro ?_ ?_)); (all_goals first | (refine hK _ ?_; clear hK K) | exact auto_cl | skip)) | ((first | apply cw_ite | apply cw_iteN); (case hf => rfl); (case hc => simp (maxSteps := 1000000) (disch := omega) only [go_sem]; rfl); (all_goals first | (intro hb; (try simp only [hbs] at hb)) | skip)) | exact atN_intro | ((first | apply cw_if | apply cw_cond); (case hc => simp (maxSteps := 1000000) (disch := omega) only [go_sem]; rfl); (all_goals (intro hb; (try simp only [hbs] at hb); try (exfalso; omega)))) | (refine cw_blocks (fun KB hB => ?_)) | (refine cw_block ?_) | ((first | refine cw_exits ?_ | refine cw_exit ?_ | refine cw_skip ?_); simp (maxSteps := 1000000) (disch := omega) only [go_sem]) | (refine hB _ ?_; clear hB KB) | (refine exit_by (S := Sg) (by assumption) ?_) | ((first | refine cw_rets ?_ | refine cw_ret ?_); simp (maxSteps := 1000000) (disch := omega) only [go_sem]; (try clear hB KB); (try clear hK K)))
  · exact absurd hb (by decide)
  refine cw_loop (X := Nat) (fun i => mkSt [(1, .b (.c (.ptr 0 0))), (2, .b (.c (.ptr 1 0))), (4, .b (vP s)), (18, .b (I s.ops.length)), (19, .b (I i))]
    [(0, .fix ((scriptE s).map CV.p)), (1, .fix [.p (PI 0), .p (PI 0)])] 2) (fun i => i ≤ s.ops.length ∧ rxTo s i = []) (fun i => s.ops.length - i) 0 ?_ ?_ ?_
  · exact ⟨Nat.zero_le _, rfl⟩
  · refine le_of [(1, some 1)] rfl (by decide) rfl ?_ ?_
    all_goals simp (maxSteps := 1000000) (disch := omega) only [go_sem]
    repeat' (refine And.intro ?_ ?_)
    all_goals first | rfl | omega | exact .inl rfl | trivial | skip
  · rintro i ⟨hi, h0⟩
    rcases Nat.lt_or_ge i s.ops.length with hlt | hge
    · repeat' (first | refine cw_assoc ?_ | refine cw_skips ?_ | refine cw_labels ?_ | ((first | refine cw_step (fun K hK => ?_) | refine cw_last (fun K hK => ?_) | refine cw_stepD (by decide +kernel) (by decide +kernel) (fun K hK => ?_) | refine cw_lastD (by decide +kernel) (by decide +kernel) (fun K hK => ?_) | refine rgB_some ?_ | refine call_a (table_sp) ?_ | refine gcall_a (fun hg => table_sp) ?_); (try simp (maxSteps := 1000000) (disch := omega) only [go_sem]); (repeat' (refine And.intro ?_ ?_)); (all_goals first | (refine hK _ ?_; clear hK K) | exact auto_cl | skip)) | ((first | apply cw_ite | apply cw_iteN); (case hf => rfl); (case hc => simp (maxSteps := 1000000) (disch := omega) only [go_sem]; rfl); (all_goals first | (intro hb; (try simp only [hbs] at hb)) | skip)) | exact atN_intro | ((first | apply cw_if | apply cw_cond); (case hc => simp (maxSteps := 1000000) (disch := omega) only [go_sem]; rfl); (all_goals (intro hb; (try simp only [hbs] at hb); try (exfalso; omega)))) | (refine cw_blocks (fun KB hB => ?_)) | (refine cw_block ?_) | ((first | refine cw_exits ?_ | refine cw_exit ?_ | refine cw_skip ?_); simp (maxSteps := 1000000) (disch := omega) only [go_sem]) | (refine hB _ ?_; clear hB KB) | (refine exit_by (S := Sg) (by assumption) ?_) | ((first | refine cw_rets ?_ | refine cw_ret ?_); simp (maxSteps := 1000000) (disch := omega) only [go_sem]; (try clear hB KB); (try clear hK K)))
      refine cw_loop (X := Nat) (fun n => mkSt [(1, .b (.c (.ptr 0 0))), (2, .b (.c (.ptr 1 0))), (4, .b (vP s)), (6, .b (I i)), (18, .b (I s.ops.length)), (19, .b (I i)), (23, .b (I 10)), (24, .b (I n))]
        [(0, .fix ((scriptE s).map CV.p)), (1, .fix [.p (PI 0), .p (PI 0)])] 2) (fun n => n ≤ 10 ∧ rxAt s i n = []) (fun n => 10 - n) 0 ?_ ?_ ?_
      · exact ⟨Nat.zero_le _, rfl⟩
      · refine le_of [(1, some 1)] rfl (by decide) rfl ?_ ?_
        all_goals simp (maxSteps := 1000000) (disch := omega) only [go_sem]
        repeat' (refine And.intro ?_ ?_)
        all_goals first | rfl | omega | exact .inl rfl | trivial | skip
      · rintro n ⟨hn10, h2⟩
        rcases Nat.lt_or_ge n 10 with hnl | hng
        · by_cases ha : apM s n i = true
          · repeat' (first | ((first | apply cw_ifT | apply cw_condT); (case hc => simp (maxSteps := 1000000) (disch := omega) only [go_sem]; rfl); (case ht => (simp only [Int.toNat_natCast, Int.reduceBEq, Int.reduceBNe, Int.reduceLT, Int.reduceLE, decide_true, decide_false, Bool.not_true, Bool.not_false, Bool.and_true, Bool.true_and, Bool.and_false, Bool.false_and, Bool.or_true, Bool.true_or, Bool.or_false, Bool.false_or, ha]; done))) | ((first | apply cw_ifF | apply cw_condF); (case hc => simp (maxSteps := 1000000) (disch := omega) only [go_sem]; rfl); (case ht => (simp only [Int.toNat_natCast, Int.reduceBEq, Int.reduceBNe, Int.reduceLT, Int.reduceLE, decide_true, decide_false, Bool.not_true, Bool.not_false, Bool.and_true, Bool.true_and, Bool.and_false, Bool.false_and, Bool.or_true, Bool.true_or, Bool.or_false, Bool.false_or, ha]; done))) | refine cw_assoc ?_ | refine cw_skips ?_ | refine cw_labels ?_ | ((first | refine cw_step (fun K hK => ?_) | refine cw_last (fun K hK => ?_) | refine cw_stepD (by decide +kernel) (by decide +kernel) (fun K hK => ?_) | refine cw_lastD (by decide +kernel) (by decide +kernel) (fun K hK => ?_) | refine rgB_some ?_ | refine call_a (applies_sp s V hs n i) ?_ | refine gcall_a (fun hg => applies_sp s V hs n i) ?_); (try simp (maxSteps := 1000000) (disch := omega) only [go_sem]); (repeat' (refine And.intro ?_ ?_)); (all_goals first | (refine hK _ ?_; clear hK K) | exact auto_cl | skip)) | ((first | apply cw_ite | apply cw_iteN); (case hf => rfl); (case hc => simp (maxSteps := 1000000) (disch := omega) only [go_sem]; rfl); (all_goals first | (intro hb; (try simp only [hbs] at hb)) | skip)) | exact atN_intro | ((first | apply cw_if | apply cw_cond); (case hc => simp (maxSteps := 1000000) (disch := omega) only [go_sem]; rfl); (all_goals (intro hb; (try simp only [hbs] at hb); try (exfalso; omega)))) | (refine cw_blocks (fun KB hB => ?_)) | (refine cw_block ?_) | ((first | refine cw_exits ?_ | refine cw_exit ?_ | refine cw_skip ?_); simp (maxSteps := 1000000) (disch := omega) only [go_sem]) | (refine hB _ ?_; clear hB KB) | (refine exit_by (S := Sg) (by assumption) ?_) | ((first | refine cw_rets ?_ | refine cw_ret ?_); simp (maxSteps := 1000000) (disch := omega) only [go_sem]; (try clear hB KB); (try clear hK K)))
            rw [firstV_head (rx_head hlt hnl h0 h2 ha)]
            rfl
          · have e : rxAt s i (n + 1) = [] := by rw [rxAt_succ, if_neg ha, h2]; rfl
            rw [Bool.not_eq_true] at ha
            repeat' (first | ((first | apply cw_ifT | apply cw_condT); (case hc => simp (maxSteps := 1000000) (disch := omega) only [go_sem]; rfl); (case ht => (simp only [Int.toNat_natCast, Int.reduceBEq, Int.reduceBNe, Int.reduceLT, Int.reduceLE, decide_true, decide_false, Bool.not_true, Bool.not_false, Bool.and_true, Bool.true_and, Bool.and_false, Bool.false_and, Bool.or_true, Bool.true_or, Bool.or_false, Bool.false_or, ha]; done))) | ((first | apply cw_ifF | apply cw_condF); (case hc => simp (maxSteps := 1000000) (disch := omega) only [go_sem]; rfl); (case ht => (simp only [Int.toNat_natCast, Int.reduceBEq, Int.reduceBNe, Int.reduceLT, Int.reduceLE, decide_true, decide_false, Bool.not_true, Bool.not_false, Bool.and_true, Bool.true_and, Bool.and_false, Bool.false_and, Bool.or_true, Bool.true_or, Bool.or_false, Bool.false_or, ha]; done))) | refine cw_assoc ?_ | refine cw_skips ?_ | refine cw_labels ?_ | ((first | refine cw_step (fun K hK => ?_) | refine cw_last (fun K hK => ?_) | refine cw_stepD (by decide +kernel) (by decide +kernel) (fun K hK => ?_) | refine cw_lastD (by decide +kernel) (by decide +kernel) (fun K hK => ?_) | refine rgB_some ?_ | refine call_a (applies_sp s V hs n i) ?_ | refine gcall_a (fun hg => applies_sp s V hs n i) ?_); (try simp (maxSteps := 1000000) (disch := omega) only [go_sem]); (repeat' (refine And.intro ?_ ?_)); (all_goals first | (refine hK _ ?_; clear hK K) | exact auto_cl | skip)) | ((first | apply cw_ite | apply cw_iteN); (case hf => rfl); (case hc => simp (maxSteps := 1000000) (disch := omega) only [go_sem]; rfl); (all_goals first | (intro hb; (try simp only [hbs] at hb)) | skip)) | exact atN_intro | ((first | apply cw_if | apply cw_cond); (case hc => simp (maxSteps := 1000000) (disch := omega) only [go_sem]; rfl); (all_goals (intro hb; (try simp only [hbs] at hb); try (exfalso; omega)))) | (refine cw_blocks (fun KB hB => ?_)) | (refine cw_block ?_) | ((first | refine cw_exits ?_ | refine cw_exit ?_ | refine cw_skip ?_); simp (maxSteps := 1000000) (disch := omega) only [go_sem]) | (refine hB _ ?_; clear hB KB) | (refine exit_by (S := Sg) (by assumption) ?_) | ((first | refine cw_rets ?_ | refine cw_ret ?_); simp (maxSteps := 1000000) (disch := omega) only [go_sem]; (try clear hB KB); (try clear hK K)))
            rw [thenQ_normal]
            refine wk_loop (n + 1) ?_ ⟨by omega, e⟩ (by omega)
            refine le_of [(1, some 1)] rfl (by decide) rfl ?_ ?_
            all_goals simp (maxSteps := 1000000) (disch := omega) only [go_sem]
            repeat' (refine And.intro ?_ ?_)
            all_goals first | rfl | omega | exact .inl rfl | trivial | skip
        · have hn2 : n = 10 := by omega
          subst hn2
          repeat' (first | refine cw_assoc ?_ | refine cw_skips ?_ | refine cw_labels ?_ | ((first | refine cw_step (fun K hK => ?_) | refine cw_last (fun K hK => ?_) | refine cw_stepD (by decide +kernel) (by decide +kernel) (fun K hK => ?_) | refine cw_lastD (by decide +kernel) (by decide +kernel) (fun K hK => ?_) | refine rgB_some ?_); (try simp (maxSteps := 1000000) (disch := omega) only [go_sem]); (repeat' (refine And.intro ?_ ?_)); (all_goals first | (refine hK _ ?_; clear hK K) | exact auto_cl | skip)) | ((first | apply cw_ite | apply cw_iteN); (case hf => rfl); (case hc => simp (maxSteps := 1000000) (disch := omega) only [go_sem]; rfl); (all_goals first | (intro hb; (try simp only [hbs] at hb)) | skip)) | exact atN_intro | ((first | apply cw_if | apply cw_cond); (case hc => simp (maxSteps := 1000000) (disch := omega) only [go_sem]; rfl); (all_goals (intro hb; (try simp only [hbs] at hb); try (exfalso; omega)))) | (refine cw_blocks (fun KB hB => ?_)) | (refine cw_block ?_) | ((first | refine cw_exits ?_ | refine cw_exit ?_ | refine cw_skip ?_); simp (maxSteps := 1000000) (disch := omega) only [go_sem]) | (refine hB _ ?_; clear hB KB) | (refine exit_by (S := Sg) (by assumption) ?_) | ((first | refine cw_rets ?_ | refine cw_ret ?_); simp (maxSteps := 1000000) (disch := omega) only [go_sem]; (try clear hB KB); (try clear hK K)))
          rw [thenQ_normal]
          refine wk_loop (i + 1) ?_ ⟨by omega, by rw [rxTo_succ, h0, h2]; rfl⟩ (by omega)
          refine le_of [(1, some 1)] rfl (by decide) rfl ?_ ?_
          all_goals simp (maxSteps := 1000000) (disch := omega) only [go_sem]
          repeat' (refine And.intro ?_ ?_)
          all_goals first | rfl | omega | exact .inl rfl | trivial | skip
    · have hi2 : i = s.ops.length := by omega
      subst hi2
      repeat' (first | refine cw_assoc ?_ | refine cw_skips ?_ | refine cw_labels ?_ | ((first | refine cw_step (fun K hK => ?_) | refine cw_last (fun K hK => ?_) | refine cw_stepD (by decide +kernel) (by decide +kernel) (fun K hK => ?_) | refine cw_lastD (by decide +kernel) (by decide +kernel) (fun K hK => ?_) | refine rgB_some ?_); (try simp (maxSteps := 1000000) (disch := omega) only [go_sem]); (repeat' (refine And.intro ?_ ?_)); (all_goals first | (refine hK _ ?_; clear hK K) | exact auto_cl | skip)) | ((first | apply cw_ite | apply cw_iteN); (case hf => rfl); (case hc => simp (maxSteps := 1000000) (disch := omega) only [go_sem]; rfl); (all_goals first | (intro hb; (try simp only [hbs] at hb)) | skip)) | exact atN_intro | ((first | apply cw_if | apply cw_cond); (case hc => simp (maxSteps := 1000000) (disch := omega) only [go_sem]; rfl); (all_goals (intro hb; (try simp only [hbs] at hb); try (exfalso; omega)))) | (refine cw_blocks (fun KB hB => ?_)) | (refine cw_block ?_) | ((first | refine cw_exits ?_ | refine cw_exit ?_ | refine cw_skip ?_); simp (maxSteps := 1000000) (disch := omega) only [go_sem]) | (refine hB _ ?_; clear hB KB) | (refine exit_by (S := Sg) (by assumption) ?_) | ((first | refine cw_rets ?_ | refine cw_ret ?_); simp (maxSteps := 1000000) (disch := omega) only [go_sem]; (try clear hB KB); (try clear hK K)))
      rw [firstV_nil h0]
      rfl
theorem Rewrite_yes (s : Script) (V : VOps s) (hs : ScriptLen s) (r : Rx) (ha : apM s r.1 r.2 = true) : Pure Sg 44 [ag (scriptE s), ag (rxE r)] (fun x => x = .tup [.c (.p (opL (rwM s r.1.toNat r.2.toNat))), I 0]) := by
  have hn := V.cnt
  have h1 := look_spec s V hs (ops_ok V)
  have h2 := applies_sp s V hs r.1 r.2
  rw [ha] at h2
  obtain ⟨n, i⟩ := r
  dsimp only at ha h2 ⊢
  obtain ⟨⟨g1, g2⟩, g3, g4, g5, g6⟩ := apM_lt ha
  obtain ⟨k, rfl⟩ := Int.eq_ofNat_of_zero_le g3
  have hi : k < s.ops.length := g4
  have hv : n = 1 ∨ n = 2 ∨ n = 3 ∨ n = 4 ∨ n = 5 ∨ n = 6 ∨ n = 7 ∨ n = 8 ∨ n = 9 := by omega
  rcases hv with rfl | rfl | rfl | rfl | rfl | rfl | rfl | rfl | rfl
  · have ht : tblF 1 1 = fnV 70 := rfl
    refine pure_of Tryd.func44 rfl (rs := [.tmp 4, .tmp 5]) rfl rfl mixed (by decide +kernel) (Nat.le_of_ble_eq_true rfl) (argsLt_mem (by simp (maxSteps := 1000000) (disch := omega) only [go_sem])) ?_
    repeat' (first | refine cw_assoc ?_ | refine cw_skips ?_ | refine cw_labels ?_ | ((first | refine cw_step (fun K hK => ?_) | refine cw_last (fun K hK => ?_) | refine cw_stepD (by decide +kernel) (by decide +kernel) (fun K hK => ?_) | refine cw_lastD (by decide +kernel) (by decide +kernel) (fun K hK => ?_) | refine rgB_some ?_ | refine call_a (h1) ?_ | refine gcall_a (fun hg => h1) ?_ | refine call_a (h2) ?_ | refine gcall_a (fun hg => h2) ?_ | refine call_a (table_sp) ?_ | refine gcall_a (fun hg => table_sp) ?_); (try simp (maxSteps := 1000000) (disch := omega) only [go_sem]); (repeat' (refine And.intro ?_ ?_)); (all_goals first | (refine hK _ ?_; clear hK K) | exact auto_cl | skip)) | ((first | apply cw_ite | apply cw_iteN); (case hf => rfl); (case hc => simp (maxSteps := 1000000) (disch := omega) only [go_sem]; rfl); (all_goals first | (intro hb; (try simp only [hbs] at hb)) | skip)) | exact atN_intro | ((first | apply cw_if | apply cw_cond); (case hc => simp (maxSteps := 1000000) (disch := omega) only [go_sem]; rfl); (all_goals (intro hb; (try simp only [hbs] at hb); try (exfalso; omega)))) | (refine cw_blocks (fun KB hB => ?_)) | (refine cw_block ?_) | ((first | refine cw_exits ?_ | refine cw_exit ?_ | refine cw_skip ?_); simp (maxSteps := 1000000) (disch := omega) only [go_sem]) | (refine hB _ ?_; clear hB KB) | (refine exit_by (S := Sg) (by assumption) ?_) | ((first | refine cw_rets ?_ | refine cw_ret ?_); simp (maxSteps := 1000000) (disch := omega) only [go_sem]; (try clear hB KB); (try clear hK K)))
    · exact absurd hb (by decide)
    · simp (maxSteps := 1000000) (disch := omega) only [go_sem, ht, fnV, chgV]
      refine call_a (removed_sp s V k hi) ?_
      simp (maxSteps := 1000000) (disch := omega) only [go_sem]
      refine hK _ ?_
      clear hK
      repeat' (first | refine cw_assoc ?_ | refine cw_skips ?_ | refine cw_labels ?_ | ((first | refine cw_step (fun K hK => ?_) | refine cw_last (fun K hK => ?_) | refine cw_stepD (by decide +kernel) (by decide +kernel) (fun K hK => ?_) | refine cw_lastD (by decide +kernel) (by decide +kernel) (fun K hK => ?_) | refine rgB_some ?_); (try simp (maxSteps := 1000000) (disch := omega) only [go_sem]); (repeat' (refine And.intro ?_ ?_)); (all_goals first | (refine hK _ ?_; clear hK K) | exact auto_cl | skip)) | ((first | apply cw_ite | apply cw_iteN); (case hf => rfl); (case hc => simp (maxSteps := 1000000) (disch := omega) only [go_sem]; rfl); (all_goals first | (intro hb; (try simp only [hbs] at hb)) | skip)) | exact atN_intro | ((first | apply cw_if | apply cw_cond); (case hc => simp (maxSteps := 1000000) (disch := omega) only [go_sem]; rfl); (all_goals (intro hb; (try simp only [hbs] at hb); try (exfalso; omega)))) | (refine cw_blocks (fun KB hB => ?_)) | (refine cw_block ?_) | ((first | refine cw_exits ?_ | refine cw_exit ?_ | refine cw_skip ?_); simp (maxSteps := 1000000) (disch := omega) only [go_sem]) | (refine hB _ ?_; clear hB KB) | (refine exit_by (S := Sg) (by assumption) ?_) | ((first | refine cw_rets ?_ | refine cw_ret ?_); simp (maxSteps := 1000000) (disch := omega) only [go_sem]; (try clear hB KB); (try clear hK K)))
      rfl
  · have ht : tblF 2 1 = fnV 70 := rfl
    refine pure_of Tryd.func44 rfl (rs := [.tmp 4, .tmp 5]) rfl rfl mixed (by decide +kernel) (Nat.le_of_ble_eq_true rfl) (argsLt_mem (by simp (maxSteps := 1000000) (disch := omega) only [go_sem])) ?_
    repeat' (first | refine cw_assoc ?_ | refine cw_skips ?_ | refine cw_labels ?_ | ((first | refine cw_step (fun K hK => ?_) | refine cw_last (fun K hK => ?_) | refine cw_stepD (by decide +kernel) (by decide +kernel) (fun K hK => ?_) | refine cw_lastD (by decide +kernel) (by decide +kernel) (fun K hK => ?_) | refine rgB_some ?_ | refine call_a (h1) ?_ | refine gcall_a (fun hg => h1) ?_ | refine call_a (h2) ?_ | refine gcall_a (fun hg => h2) ?_ | refine call_a (table_sp) ?_ | refine gcall_a (fun hg => table_sp) ?_); (try simp (maxSteps := 1000000) (disch := omega) only [go_sem]); (repeat' (refine And.intro ?_ ?_)); (all_goals first | (refine hK _ ?_; clear hK K) | exact auto_cl | skip)) | ((first | apply cw_ite | apply cw_iteN); (case hf => rfl); (case hc => simp (maxSteps := 1000000) (disch := omega) only [go_sem]; rfl); (all_goals first | (intro hb; (try simp only [hbs] at hb)) | skip)) | exact atN_intro | ((first | apply cw_if | apply cw_cond); (case hc => simp (maxSteps := 1000000) (disch := omega) only [go_sem]; rfl); (all_goals (intro hb; (try simp only [hbs] at hb); try (exfalso; omega)))) | (refine cw_blocks (fun KB hB => ?_)) | (refine cw_block ?_) | ((first | refine cw_exits ?_ | refine cw_exit ?_ | refine cw_skip ?_); simp (maxSteps := 1000000) (disch := omega) only [go_sem]) | (refine hB _ ?_; clear hB KB) | (refine exit_by (S := Sg) (by assumption) ?_) | ((first | refine cw_rets ?_ | refine cw_ret ?_); simp (maxSteps := 1000000) (disch := omega) only [go_sem]; (try clear hB KB); (try clear hK K)))
    · exact absurd hb (by decide)
    · simp (maxSteps := 1000000) (disch := omega) only [go_sem, ht, fnV, chgV]
      refine call_a (removed_sp s V k hi) ?_
      simp (maxSteps := 1000000) (disch := omega) only [go_sem]
      refine hK _ ?_
      clear hK
      repeat' (first | refine cw_assoc ?_ | refine cw_skips ?_ | refine cw_labels ?_ | ((first | refine cw_step (fun K hK => ?_) | refine cw_last (fun K hK => ?_) | refine cw_stepD (by decide +kernel) (by decide +kernel) (fun K hK => ?_) | refine cw_lastD (by decide +kernel) (by decide +kernel) (fun K hK => ?_) | refine rgB_some ?_); (try simp (maxSteps := 1000000) (disch := omega) only [go_sem]); (repeat' (refine And.intro ?_ ?_)); (all_goals first | (refine hK _ ?_; clear hK K) | exact auto_cl | skip)) | ((first | apply cw_ite | apply cw_iteN); (case hf => rfl); (case hc => simp (maxSteps := 1000000) (disch := omega) only [go_sem]; rfl); (all_goals first | (intro hb; (try simp only [hbs] at hb)) | skip)) | exact atN_intro | ((first | apply cw_if | apply cw_cond); (case hc => simp (maxSteps := 1000000) (disch := omega) only [go_sem]; rfl); (all_goals (intro hb; (try simp only [hbs] at hb); try (exfalso; omega)))) | (refine cw_blocks (fun KB hB => ?_)) | (refine cw_block ?_) | ((first | refine cw_exits ?_ | refine cw_exit ?_ | refine cw_skip ?_); simp (maxSteps := 1000000) (disch := omega) only [go_sem]) | (refine hB _ ?_; clear hB KB) | (refine exit_by (S := Sg) (by assumption) ?_) | ((first | refine cw_rets ?_ | refine cw_ret ?_); simp (maxSteps := 1000000) (disch := omega) only [go_sem]; (try clear hB KB); (try clear hK K)))
      rfl
  · have ht : tblF 3 1 = fnV 70 := rfl
    refine pure_of Tryd.func44 rfl (rs := [.tmp 4, .tmp 5]) rfl rfl mixed (by decide +kernel) (Nat.le_of_ble_eq_true rfl) (argsLt_mem (by simp (maxSteps := 1000000) (disch := omega) only [go_sem])) ?_
    repeat' (first | refine cw_assoc ?_ | refine cw_skips ?_ | refine cw_labels ?_ | ((first | refine cw_step (fun K hK => ?_) | refine cw_last (fun K hK => ?_) | refine cw_stepD (by decide +kernel) (by decide +kernel) (fun K hK => ?_) | refine cw_lastD (by decide +kernel) (by decide +kernel) (fun K hK => ?_) | refine rgB_some ?_ | refine call_a (h1) ?_ | refine gcall_a (fun hg => h1) ?_ | refine call_a (h2) ?_ | refine gcall_a (fun hg => h2) ?_ | refine call_a (table_sp) ?_ | refine gcall_a (fun hg => table_sp) ?_); (try simp (maxSteps := 1000000) (disch := omega) only [go_sem]); (repeat' (refine And.intro ?_ ?_)); (all_goals first | (refine hK _ ?_; clear hK K) | exact auto_cl | skip)) | ((first | apply cw_ite | apply cw_iteN); (case hf => rfl); (case hc => simp (maxSteps := 1000000) (disch := omega) only [go_sem]; rfl); (all_goals first | (intro hb; (try simp only [hbs] at hb)) | skip)) | exact atN_intro | ((first | apply cw_if | apply cw_cond); (case hc => simp (maxSteps := 1000000) (disch := omega) only [go_sem]; rfl); (all_goals (intro hb; (try simp only [hbs] at hb); try (exfalso; omega)))) | (refine cw_blocks (fun KB hB => ?_)) | (refine cw_block ?_) | ((first | refine cw_exits ?_ | refine cw_exit ?_ | refine cw_skip ?_); simp (maxSteps := 1000000) (disch := omega) only [go_sem]) | (refine hB _ ?_; clear hB KB) | (refine exit_by (S := Sg) (by assumption) ?_) | ((first | refine cw_rets ?_ | refine cw_ret ?_); simp (maxSteps := 1000000) (disch := omega) only [go_sem]; (try clear hB KB); (try clear hK K)))
    · exact absurd hb (by decide)
    · simp (maxSteps := 1000000) (disch := omega) only [go_sem, ht, fnV, chgV]
      refine call_a (removed_sp s V k hi) ?_
      simp (maxSteps := 1000000) (disch := omega) only [go_sem]
      refine hK _ ?_
      clear hK
      repeat' (first | refine cw_assoc ?_ | refine cw_skips ?_ | refine cw_labels ?_ | ((first | refine cw_step (fun K hK => ?_) | refine cw_last (fun K hK => ?_) | refine cw_stepD (by decide +kernel) (by decide +kernel) (fun K hK => ?_) | refine cw_lastD (by decide +kernel) (by decide +kernel) (fun K hK => ?_) | refine rgB_some ?_); (try simp (maxSteps := 1000000) (disch := omega) only [go_sem]); (repeat' (refine And.intro ?_ ?_)); (all_goals first | (refine hK _ ?_; clear hK K) | exact auto_cl | skip)) | ((first | apply cw_ite | apply cw_iteN); (case hf => rfl); (case hc => simp (maxSteps := 1000000) (disch := omega) only [go_sem]; rfl); (all_goals first | (intro hb; (try simp only [hbs] at hb)) | skip)) | exact atN_intro | ((first | apply cw_if | apply cw_cond); (case hc => simp (maxSteps := 1000000) (disch := omega) only [go_sem]; rfl); (all_goals (intro hb; (try simp only [hbs] at hb); try (exfalso; omega)))) | (refine cw_blocks (fun KB hB => ?_)) | (refine cw_block ?_) | ((first | refine cw_exits ?_ | refine cw_exit ?_ | refine cw_skip ?_); simp (maxSteps := 1000000) (disch := omega) only [go_sem]) | (refine hB _ ?_; clear hB KB) | (refine exit_by (S := Sg) (by assumption) ?_) | ((first | refine cw_rets ?_ | refine cw_ret ?_); simp (maxSteps := 1000000) (disch := omega) only [go_sem]; (try clear hB KB); (try clear hK K)))
      rfl
  · have ht : tblF 4 1 = fnV 70 := rfl
    refine pure_of Tryd.func44 rfl (rs := [.tmp 4, .tmp 5]) rfl rfl mixed (by decide +kernel) (Nat.le_of_ble_eq_true rfl) (argsLt_mem (by simp (maxSteps := 1000000) (disch := omega) only [go_sem])) ?_
    repeat' (first | refine cw_assoc ?_ | refine cw_skips ?_ | refine cw_labels ?_ | ((first | refine cw_step (fun K hK => ?_) | refine cw_last (fun K hK => ?_) | refine cw_stepD (by decide +kernel) (by decide +kernel) (fun K hK => ?_) | refine cw_lastD (by decide +kernel) (by decide +kernel) (fun K hK => ?_) | refine rgB_some ?_ | refine call_a (h1) ?_ | refine gcall_a (fun hg => h1) ?_ | refine call_a (h2) ?_ | refine gcall_a (fun hg => h2) ?_ | refine call_a (table_sp) ?_ | refine gcall_a (fun hg => table_sp) ?_); (try simp (maxSteps := 1000000) (disch := omega) only [go_sem]); (repeat' (refine And.intro ?_ ?_)); (all_goals first | (refine hK _ ?_; clear hK K) | exact auto_cl | skip)) | ((first | apply cw_ite | apply cw_iteN); (case hf => rfl); (case hc => simp (maxSteps := 1000000) (disch := omega) only [go_sem]; rfl); (all_goals first | (intro hb; (try simp only [hbs] at hb)) | skip)) | exact atN_intro | ((first | apply cw_if | apply cw_cond); (case hc => simp (maxSteps := 1000000) (disch := omega) only [go_sem]; rfl); (all_goals (intro hb; (try simp only [hbs] at hb); try (exfalso; omega)))) | (refine cw_blocks (fun KB hB => ?_)) | (refine cw_block ?_) | ((first | refine cw_exits ?_ | refine cw_exit ?_ | refine cw_skip ?_); simp (maxSteps := 1000000) (disch := omega) only [go_sem]) | (refine hB _ ?_; clear hB KB) | (refine exit_by (S := Sg) (by assumption) ?_) | ((first | refine cw_rets ?_ | refine cw_ret ?_); simp (maxSteps := 1000000) (disch := omega) only [go_sem]; (try clear hB KB); (try clear hK K)))
    · exact absurd hb (by decide)
    · simp (maxSteps := 1000000) (disch := omega) only [go_sem, ht, fnV, chgV]
      refine call_a (removed_sp s V k hi) ?_
      simp (maxSteps := 1000000) (disch := omega) only [go_sem]
      refine hK _ ?_
      clear hK
      repeat' (first | refine cw_assoc ?_ | refine cw_skips ?_ | refine cw_labels ?_ | ((first | refine cw_step (fun K hK => ?_) | refine cw_last (fun K hK => ?_) | refine cw_stepD (by decide +kernel) (by decide +kernel) (fun K hK => ?_) | refine cw_lastD (by decide +kernel) (by decide +kernel) (fun K hK => ?_) | refine rgB_some ?_); (try simp (maxSteps := 1000000) (disch := omega) only [go_sem]); (repeat' (refine And.intro ?_ ?_)); (all_goals first | (refine hK _ ?_; clear hK K) | exact auto_cl | skip)) | ((first | apply cw_ite | apply cw_iteN); (case hf => rfl); (case hc => simp (maxSteps := 1000000) (disch := omega) only [go_sem]; rfl); (all_goals first | (intro hb; (try simp only [hbs] at hb)) | skip)) | exact atN_intro | ((first | apply cw_if | apply cw_cond); (case hc => simp (maxSteps := 1000000) (disch := omega) only [go_sem]; rfl); (all_goals (intro hb; (try simp only [hbs] at hb); try (exfalso; omega)))) | (refine cw_blocks (fun KB hB => ?_)) | (refine cw_block ?_) | ((first | refine cw_exits ?_ | refine cw_exit ?_ | refine cw_skip ?_); simp (maxSteps := 1000000) (disch := omega) only [go_sem]) | (refine hB _ ?_; clear hB KB) | (refine exit_by (S := Sg) (by assumption) ?_) | ((first | refine cw_rets ?_ | refine cw_ret ?_); simp (maxSteps := 1000000) (disch := omega) only [go_sem]; (try clear hB KB); (try clear hK K)))
      rfl
  · have ht : tblF 5 1 = chgV 76 := rfl
    refine pure_of Tryd.func44 rfl (rs := [.tmp 4, .tmp 5]) rfl rfl mixed (by decide +kernel) (Nat.le_of_ble_eq_true rfl) (argsLt_mem (by simp (maxSteps := 1000000) (disch := omega) only [go_sem])) ?_
    repeat' (first | refine cw_assoc ?_ | refine cw_skips ?_ | refine cw_labels ?_ | ((first | refine cw_step (fun K hK => ?_) | refine cw_last (fun K hK => ?_) | refine cw_stepD (by decide +kernel) (by decide +kernel) (fun K hK => ?_) | refine cw_lastD (by decide +kernel) (by decide +kernel) (fun K hK => ?_) | refine rgB_some ?_ | refine call_a (h1) ?_ | refine gcall_a (fun hg => h1) ?_ | refine call_a (h2) ?_ | refine gcall_a (fun hg => h2) ?_ | refine call_a (table_sp) ?_ | refine gcall_a (fun hg => table_sp) ?_); (try simp (maxSteps := 1000000) (disch := omega) only [go_sem]); (repeat' (refine And.intro ?_ ?_)); (all_goals first | (refine hK _ ?_; clear hK K) | exact auto_cl | skip)) | ((first | apply cw_ite | apply cw_iteN); (case hf => rfl); (case hc => simp (maxSteps := 1000000) (disch := omega) only [go_sem]; rfl); (all_goals first | (intro hb; (try simp only [hbs] at hb)) | skip)) | exact atN_intro | ((first | apply cw_if | apply cw_cond); (case hc => simp (maxSteps := 1000000) (disch := omega) only [go_sem]; rfl); (all_goals (intro hb; (try simp only [hbs] at hb); try (exfalso; omega)))) | (refine cw_blocks (fun KB hB => ?_)) | (refine cw_block ?_) | ((first | refine cw_exits ?_ | refine cw_exit ?_ | refine cw_skip ?_); simp (maxSteps := 1000000) (disch := omega) only [go_sem]) | (refine hB _ ?_; clear hB KB) | (refine exit_by (S := Sg) (by assumption) ?_) | ((first | refine cw_rets ?_ | refine cw_ret ?_); simp (maxSteps := 1000000) (disch := omega) only [go_sem]; (try clear hB KB); (try clear hK K)))
    · exact absurd hb (by decide)
    · simp (maxSteps := 1000000) (disch := omega) only [go_sem, ht, fnV, chgV]
      refine call_a (args := [vP s, I k, .c (.ipt 1 (fun _ => fnV 76) 0)]) (chg1_sp s V k hi) ?_
      simp (maxSteps := 1000000) (disch := omega) only [go_sem]
      refine hK _ ?_
      clear hK
      repeat' (first | refine cw_assoc ?_ | refine cw_skips ?_ | refine cw_labels ?_ | ((first | refine cw_step (fun K hK => ?_) | refine cw_last (fun K hK => ?_) | refine cw_stepD (by decide +kernel) (by decide +kernel) (fun K hK => ?_) | refine cw_lastD (by decide +kernel) (by decide +kernel) (fun K hK => ?_) | refine rgB_some ?_); (try simp (maxSteps := 1000000) (disch := omega) only [go_sem]); (repeat' (refine And.intro ?_ ?_)); (all_goals first | (refine hK _ ?_; clear hK K) | exact auto_cl | skip)) | ((first | apply cw_ite | apply cw_iteN); (case hf => rfl); (case hc => simp (maxSteps := 1000000) (disch := omega) only [go_sem]; rfl); (all_goals first | (intro hb; (try simp only [hbs] at hb)) | skip)) | exact atN_intro | ((first | apply cw_if | apply cw_cond); (case hc => simp (maxSteps := 1000000) (disch := omega) only [go_sem]; rfl); (all_goals (intro hb; (try simp only [hbs] at hb); try (exfalso; omega)))) | (refine cw_blocks (fun KB hB => ?_)) | (refine cw_block ?_) | ((first | refine cw_exits ?_ | refine cw_exit ?_ | refine cw_skip ?_); simp (maxSteps := 1000000) (disch := omega) only [go_sem]) | (refine hB _ ?_; clear hB KB) | (refine exit_by (S := Sg) (by assumption) ?_) | ((first | refine cw_rets ?_ | refine cw_ret ?_); simp (maxSteps := 1000000) (disch := omega) only [go_sem]; (try clear hB KB); (try clear hK K)))
      rfl
  · have ht : tblF 6 1 = chgV 78 := rfl
    refine pure_of Tryd.func44 rfl (rs := [.tmp 4, .tmp 5]) rfl rfl mixed (by decide +kernel) (Nat.le_of_ble_eq_true rfl) (argsLt_mem (by simp (maxSteps := 1000000) (disch := omega) only [go_sem])) ?_
    repeat' (first | refine cw_assoc ?_ | refine cw_skips ?_ | refine cw_labels ?_ | ((first | refine cw_step (fun K hK => ?_) | refine cw_last (fun K hK => ?_) | refine cw_stepD (by decide +kernel) (by decide +kernel) (fun K hK => ?_) | refine cw_lastD (by decide +kernel) (by decide +kernel) (fun K hK => ?_) | refine rgB_some ?_ | refine call_a (h1) ?_ | refine gcall_a (fun hg => h1) ?_ | refine call_a (h2) ?_ | refine gcall_a (fun hg => h2) ?_ | refine call_a (table_sp) ?_ | refine gcall_a (fun hg => table_sp) ?_); (try simp (maxSteps := 1000000) (disch := omega) only [go_sem]); (repeat' (refine And.intro ?_ ?_)); (all_goals first | (refine hK _ ?_; clear hK K) | exact auto_cl | skip)) | ((first | apply cw_ite | apply cw_iteN); (case hf => rfl); (case hc => simp (maxSteps := 1000000) (disch := omega) only [go_sem]; rfl); (all_goals first | (intro hb; (try simp only [hbs] at hb)) | skip)) | exact atN_intro | ((first | apply cw_if | apply cw_cond); (case hc => simp (maxSteps := 1000000) (disch := omega) only [go_sem]; rfl); (all_goals (intro hb; (try simp only [hbs] at hb); try (exfalso; omega)))) | (refine cw_blocks (fun KB hB => ?_)) | (refine cw_block ?_) | ((first | refine cw_exits ?_ | refine cw_exit ?_ | refine cw_skip ?_); simp (maxSteps := 1000000) (disch := omega) only [go_sem]) | (refine hB _ ?_; clear hB KB) | (refine exit_by (S := Sg) (by assumption) ?_) | ((first | refine cw_rets ?_ | refine cw_ret ?_); simp (maxSteps := 1000000) (disch := omega) only [go_sem]; (try clear hB KB); (try clear hK K)))
    · exact absurd hb (by decide)
    · simp (maxSteps := 1000000) (disch := omega) only [go_sem, ht, fnV, chgV]
      refine call_a (args := [vP s, I k, .c (.ipt 1 (fun _ => fnV 78) 0)]) (chg2_sp s V k hi) ?_
      simp (maxSteps := 1000000) (disch := omega) only [go_sem]
      refine hK _ ?_
      clear hK
      repeat' (first | refine cw_assoc ?_ | refine cw_skips ?_ | refine cw_labels ?_ | ((first | refine cw_step (fun K hK => ?_) | refine cw_last (fun K hK => ?_) | refine cw_stepD (by decide +kernel) (by decide +kernel) (fun K hK => ?_) | refine cw_lastD (by decide +kernel) (by decide +kernel) (fun K hK => ?_) | refine rgB_some ?_); (try simp (maxSteps := 1000000) (disch := omega) only [go_sem]); (repeat' (refine And.intro ?_ ?_)); (all_goals first | (refine hK _ ?_; clear hK K) | exact auto_cl | skip)) | ((first | apply cw_ite | apply cw_iteN); (case hf => rfl); (case hc => simp (maxSteps := 1000000) (disch := omega) only [go_sem]; rfl); (all_goals first | (intro hb; (try simp only [hbs] at hb)) | skip)) | exact atN_intro | ((first | apply cw_if | apply cw_cond); (case hc => simp (maxSteps := 1000000) (disch := omega) only [go_sem]; rfl); (all_goals (intro hb; (try simp only [hbs] at hb); try (exfalso; omega)))) | (refine cw_blocks (fun KB hB => ?_)) | (refine cw_block ?_) | ((first | refine cw_exits ?_ | refine cw_exit ?_ | refine cw_skip ?_); simp (maxSteps := 1000000) (disch := omega) only [go_sem]) | (refine hB _ ?_; clear hB KB) | (refine exit_by (S := Sg) (by assumption) ?_) | ((first | refine cw_rets ?_ | refine cw_ret ?_); simp (maxSteps := 1000000) (disch := omega) only [go_sem]; (try clear hB KB); (try clear hK K)))
      rfl
  · have ht : tblF 7 1 = chgV 80 := rfl
    refine pure_of Tryd.func44 rfl (rs := [.tmp 4, .tmp 5]) rfl rfl mixed (by decide +kernel) (Nat.le_of_ble_eq_true rfl) (argsLt_mem (by simp (maxSteps := 1000000) (disch := omega) only [go_sem])) ?_
    repeat' (first | refine cw_assoc ?_ | refine cw_skips ?_ | refine cw_labels ?_ | ((first | refine cw_step (fun K hK => ?_) | refine cw_last (fun K hK => ?_) | refine cw_stepD (by decide +kernel) (by decide +kernel) (fun K hK => ?_) | refine cw_lastD (by decide +kernel) (by decide +kernel) (fun K hK => ?_) | refine rgB_some ?_ | refine call_a (h1) ?_ | refine gcall_a (fun hg => h1) ?_ | refine call_a (h2) ?_ | refine gcall_a (fun hg => h2) ?_ | refine call_a (table_sp) ?_ | refine gcall_a (fun hg => table_sp) ?_); (try simp (maxSteps := 1000000) (disch := omega) only [go_sem]); (repeat' (refine And.intro ?_ ?_)); (all_goals first | (refine hK _ ?_; clear hK K) | exact auto_cl | skip)) | ((first | apply cw_ite | apply cw_iteN); (case hf => rfl); (case hc => simp (maxSteps := 1000000) (disch := omega) only [go_sem]; rfl); (all_goals first | (intro hb; (try simp only [hbs] at hb)) | skip)) | exact atN_intro | ((first | apply cw_if | apply cw_cond); (case hc => simp (maxSteps := 1000000) (disch := omega) only [go_sem]; rfl); (all_goals (intro hb; (try simp only [hbs] at hb); try (exfalso; omega)))) | (refine cw_blocks (fun KB hB => ?_)) | (refine cw_block ?_) | ((first | refine cw_exits ?_ | refine cw_exit ?_ | refine cw_skip ?_); simp (maxSteps := 1000000) (disch := omega) only [go_sem]) | (refine hB _ ?_; clear hB KB) | (refine exit_by (S := Sg) (by assumption) ?_) | ((first | refine cw_rets ?_ | refine cw_ret ?_); simp (maxSteps := 1000000) (disch := omega) only [go_sem]; (try clear hB KB); (try clear hK K)))
    · exact absurd hb (by decide)
    · simp (maxSteps := 1000000) (disch := omega) only [go_sem, ht, fnV, chgV]
      refine call_a (args := [vP s, I k, .c (.ipt 1 (fun _ => fnV 80) 0)]) (chg3_sp s V k hi) ?_
      simp (maxSteps := 1000000) (disch := omega) only [go_sem]
      refine hK _ ?_
      clear hK
      repeat' (first | refine cw_assoc ?_ | refine cw_skips ?_ | refine cw_labels ?_ | ((first | refine cw_step (fun K hK => ?_) | refine cw_last (fun K hK => ?_) | refine cw_stepD (by decide +kernel) (by decide +kernel) (fun K hK => ?_) | refine cw_lastD (by decide +kernel) (by decide +kernel) (fun K hK => ?_) | refine rgB_some ?_); (try simp (maxSteps := 1000000) (disch := omega) only [go_sem]); (repeat' (refine And.intro ?_ ?_)); (all_goals first | (refine hK _ ?_; clear hK K) | exact auto_cl | skip)) | ((first | apply cw_ite | apply cw_iteN); (case hf => rfl); (case hc => simp (maxSteps := 1000000) (disch := omega) only [go_sem]; rfl); (all_goals first | (intro hb; (try simp only [hbs] at hb)) | skip)) | exact atN_intro | ((first | apply cw_if | apply cw_cond); (case hc => simp (maxSteps := 1000000) (disch := omega) only [go_sem]; rfl); (all_goals (intro hb; (try simp only [hbs] at hb); try (exfalso; omega)))) | (refine cw_blocks (fun KB hB => ?_)) | (refine cw_block ?_) | ((first | refine cw_exits ?_ | refine cw_exit ?_ | refine cw_skip ?_); simp (maxSteps := 1000000) (disch := omega) only [go_sem]) | (refine hB _ ?_; clear hB KB) | (refine exit_by (S := Sg) (by assumption) ?_) | ((first | refine cw_rets ?_ | refine cw_ret ?_); simp (maxSteps := 1000000) (disch := omega) only [go_sem]; (try clear hB KB); (try clear hK K)))
      rfl
  · have ht : tblF 8 1 = chgV 82 := rfl
    refine pure_of Tryd.func44 rfl (rs := [.tmp 4, .tmp 5]) rfl rfl mixed (by decide +kernel) (Nat.le_of_ble_eq_true rfl) (argsLt_mem (by simp (maxSteps := 1000000) (disch := omega) only [go_sem])) ?_
    repeat' (first | refine cw_assoc ?_ | refine cw_skips ?_ | refine cw_labels ?_ | ((first | refine cw_step (fun K hK => ?_) | refine cw_last (fun K hK => ?_) | refine cw_stepD (by decide +kernel) (by decide +kernel) (fun K hK => ?_) | refine cw_lastD (by decide +kernel) (by decide +kernel) (fun K hK => ?_) | refine rgB_some ?_ | refine call_a (h1) ?_ | refine gcall_a (fun hg => h1) ?_ | refine call_a (h2) ?_ | refine gcall_a (fun hg => h2) ?_ | refine call_a (table_sp) ?_ | refine gcall_a (fun hg => table_sp) ?_); (try simp (maxSteps := 1000000) (disch := omega) only [go_sem]); (repeat' (refine And.intro ?_ ?_)); (all_goals first | (refine hK _ ?_; clear hK K) | exact auto_cl | skip)) | ((first | apply cw_ite | apply cw_iteN); (case hf => rfl); (case hc => simp (maxSteps := 1000000) (disch := omega) only [go_sem]; rfl); (all_goals first | (intro hb; (try simp only [hbs] at hb)) | skip)) | exact atN_intro | ((first | apply cw_if | apply cw_cond); (case hc => simp (maxSteps := 1000000) (disch := omega) only [go_sem]; rfl); (all_goals (intro hb; (try simp only [hbs] at hb); try (exfalso; omega)))) | (refine cw_blocks (fun KB hB => ?_)) | (refine cw_block ?_) | ((first | refine cw_exits ?_ | refine cw_exit ?_ | refine cw_skip ?_); simp (maxSteps := 1000000) (disch := omega) only [go_sem]) | (refine hB _ ?_; clear hB KB) | (refine exit_by (S := Sg) (by assumption) ?_) | ((first | refine cw_rets ?_ | refine cw_ret ?_); simp (maxSteps := 1000000) (disch := omega) only [go_sem]; (try clear hB KB); (try clear hK K)))
    · exact absurd hb (by decide)
    · simp (maxSteps := 1000000) (disch := omega) only [go_sem, ht, fnV, chgV]
      refine call_a (args := [vP s, I k, .c (.ipt 1 (fun _ => fnV 82) 0)]) (chg4_sp s V k hi) ?_
      simp (maxSteps := 1000000) (disch := omega) only [go_sem]
      refine hK _ ?_
      clear hK
      repeat' (first | refine cw_assoc ?_ | refine cw_skips ?_ | refine cw_labels ?_ | ((first | refine cw_step (fun K hK => ?_) | refine cw_last (fun K hK => ?_) | refine cw_stepD (by decide +kernel) (by decide +kernel) (fun K hK => ?_) | refine cw_lastD (by decide +kernel) (by decide +kernel) (fun K hK => ?_) | refine rgB_some ?_); (try simp (maxSteps := 1000000) (disch := omega) only [go_sem]); (repeat' (refine And.intro ?_ ?_)); (all_goals first | (refine hK _ ?_; clear hK K) | exact auto_cl | skip)) | ((first | apply cw_ite | apply cw_iteN); (case hf => rfl); (case hc => simp (maxSteps := 1000000) (disch := omega) only [go_sem]; rfl); (all_goals first | (intro hb; (try simp only [hbs] at hb)) | skip)) | exact atN_intro | ((first | apply cw_if | apply cw_cond); (case hc => simp (maxSteps := 1000000) (disch := omega) only [go_sem]; rfl); (all_goals (intro hb; (try simp only [hbs] at hb); try (exfalso; omega)))) | (refine cw_blocks (fun KB hB => ?_)) | (refine cw_block ?_) | ((first | refine cw_exits ?_ | refine cw_exit ?_ | refine cw_skip ?_); simp (maxSteps := 1000000) (disch := omega) only [go_sem]) | (refine hB _ ?_; clear hB KB) | (refine exit_by (S := Sg) (by assumption) ?_) | ((first | refine cw_rets ?_ | refine cw_ret ?_); simp (maxSteps := 1000000) (disch := omega) only [go_sem]; (try clear hB KB); (try clear hK K)))
      rfl
  · have ht : tblF 9 1 = fnV 84 := rfl
    have hu : (opAt s.ops k).kind = 2 ∧ 1 ≤ kidsM s.ops k := by
      have g6 : unwM s k = true := g6
      simp only [unwM, Bool.and_eq_true, decide_eq_true_eq] at g6
      exact ⟨g6.1.1.1, by omega⟩
    refine pure_of Tryd.func44 rfl (rs := [.tmp 4, .tmp 5]) rfl rfl mixed (by decide +kernel) (Nat.le_of_ble_eq_true rfl) (argsLt_mem (by simp (maxSteps := 1000000) (disch := omega) only [go_sem])) ?_
    repeat' (first | refine cw_assoc ?_ | refine cw_skips ?_ | refine cw_labels ?_ | ((first | refine cw_step (fun K hK => ?_) | refine cw_last (fun K hK => ?_) | refine cw_stepD (by decide +kernel) (by decide +kernel) (fun K hK => ?_) | refine cw_lastD (by decide +kernel) (by decide +kernel) (fun K hK => ?_) | refine rgB_some ?_ | refine call_a (h1) ?_ | refine gcall_a (fun hg => h1) ?_ | refine call_a (h2) ?_ | refine gcall_a (fun hg => h2) ?_ | refine call_a (table_sp) ?_ | refine gcall_a (fun hg => table_sp) ?_); (try simp (maxSteps := 1000000) (disch := omega) only [go_sem]); (repeat' (refine And.intro ?_ ?_)); (all_goals first | (refine hK _ ?_; clear hK K) | exact auto_cl | skip)) | ((first | apply cw_ite | apply cw_iteN); (case hf => rfl); (case hc => simp (maxSteps := 1000000) (disch := omega) only [go_sem]; rfl); (all_goals first | (intro hb; (try simp only [hbs] at hb)) | skip)) | exact atN_intro | ((first | apply cw_if | apply cw_cond); (case hc => simp (maxSteps := 1000000) (disch := omega) only [go_sem]; rfl); (all_goals (intro hb; (try simp only [hbs] at hb); try (exfalso; omega)))) | (refine cw_blocks (fun KB hB => ?_)) | (refine cw_block ?_) | ((first | refine cw_exits ?_ | refine cw_exit ?_ | refine cw_skip ?_); simp (maxSteps := 1000000) (disch := omega) only [go_sem]) | (refine hB _ ?_; clear hB KB) | (refine exit_by (S := Sg) (by assumption) ?_) | ((first | refine cw_rets ?_ | refine cw_ret ?_); simp (maxSteps := 1000000) (disch := omega) only [go_sem]; (try clear hB KB); (try clear hK K)))
    · exact absurd hb (by decide)
    · simp (maxSteps := 1000000) (disch := omega) only [go_sem, ht, fnV, chgV]
      refine call_a (unwrapped_sp s V k hi hu.1 hu.2) ?_
      simp (maxSteps := 1000000) (disch := omega) only [go_sem]
      refine hK _ ?_
      clear hK
      repeat' (first | refine cw_assoc ?_ | refine cw_skips ?_ | refine cw_labels ?_ | ((first | refine cw_step (fun K hK => ?_) | refine cw_last (fun K hK => ?_) | refine cw_stepD (by decide +kernel) (by decide +kernel) (fun K hK => ?_) | refine cw_lastD (by decide +kernel) (by decide +kernel) (fun K hK => ?_) | refine rgB_some ?_); (try simp (maxSteps := 1000000) (disch := omega) only [go_sem]); (repeat' (refine And.intro ?_ ?_)); (all_goals first | (refine hK _ ?_; clear hK K) | exact auto_cl | skip)) | ((first | apply cw_ite | apply cw_iteN); (case hf => rfl); (case hc => simp (maxSteps := 1000000) (disch := omega) only [go_sem]; rfl); (all_goals first | (intro hb; (try simp only [hbs] at hb)) | skip)) | exact atN_intro | ((first | apply cw_if | apply cw_cond); (case hc => simp (maxSteps := 1000000) (disch := omega) only [go_sem]; rfl); (all_goals (intro hb; (try simp only [hbs] at hb); try (exfalso; omega)))) | (refine cw_blocks (fun KB hB => ?_)) | (refine cw_block ?_) | ((first | refine cw_exits ?_ | refine cw_exit ?_ | refine cw_skip ?_); simp (maxSteps := 1000000) (disch := omega) only [go_sem]) | (refine hB _ ?_; clear hB KB) | (refine exit_by (S := Sg) (by assumption) ?_) | ((first | refine cw_rets ?_ | refine cw_ret ?_); simp (maxSteps := 1000000) (disch := omega) only [go_sem]; (try clear hB KB); (try clear hK K)))
      rfl
end Go.Proofs.YtkjdljcbpbeehaaDoor

/- The script that comes out of a rule, and simplifying. -/
set_option linter.unusedSimpArgs false
set_option linter.unusedVariables false
set_option maxRecDepth 8000
set_option maxHeartbeats 2000000
namespace Go.Proofs.YtkjdljcbpbeehaaDoor
open Go Go.SL
open Go.RowKit (wrap64)
attribute [local go_sem] Int.toNat_natCast rxE

structure Sml (s : Script) : Prop where
  order : s.order.length ≤ 1000000000
  im0 : 0 < s.images.length
  im : s.images.length ≤ 1000000000
  p0 : ∀ i, i < s.images.length → (s.images.getD i default).p0.s.length ≤ 1000000000
  p1 : ∀ i, i < s.images.length → (s.images.getD i default).p1.s.length ≤ 1000000000
  p2 : ∀ i, i < s.images.length → (s.images.getD i default).p2.s.length ≤ 1000000000
  p3 : ∀ i, i < s.images.length → (s.images.getD i default).p3.s.length ≤ 1000000000
  p4 : ∀ i, i < s.images.length → (s.images.getD i default).p4.s.length ≤ 1000000000
theorem call_img {st : St} {K : SV → St → Prop} (n : Nat) (g : Nat → Nat → PV) (h0 : 0 < n) (hn : n ≤ 1000000000) (hw : WfN 0 st)
    (hK : ∀ G : Nat → Nat → PV, K (.b (.c (.own (st.nx + 1) n))) (st.turn (bxIns (st.nx + 1) (.arr 45 28 n g) (bxDel st.nx (bxIns st.nx (.arr 45 28 0 G) st.bx))) (st.nx + 2))) :
    CallS Sg st 86 [.c (.p (.lst 28 n g))] (Sl.of K) := by
  obtain ⟨F, hF, G, hI⟩ := cloneImg_inl st.bx st.nx n g h0 hn hw.1
  have e : F = g := funext fun i => funext fun j => hF i j
  subst e
  refine call_inl hI rfl (fun i hi => ?_) (by omega) (hK G)
  simp only [bxIns, bxDel]
  rw [if_neg (by omega), if_neg (by omega), if_neg (by omega)]
  exact hw.1 i (by omega)
def withB (s : Script) (l : List Op) : List (Nat × Bx) := [(0, .fix [.p (PI s.bits), .p (PI s.canvas.x0), .p (PI s.canvas.y0), .p (PI s.canvas.x1), .p (PI s.canvas.y1), .p (PI s.tileW), .p (PI s.tileH), .p (ints s.order), .own 2 s.images.length, .p (opL l)]),
  (1, .fix [.p (PI 0), .p (PI 0), .p (PI 0), .p (PI 0), .p (PI 0), .p (PI 0), .p (PI 0), .p (.val (.slice none 0 0)), .p (.val (.slice none 0 0)), .p (.val (.slice none 0 0))]), (2, .arr 45 28 s.images.length (fnOf imageE s.images))]
attribute [local go_sem] withB
theorem With_sp (s : Script) (l : List Op) (H : Sml s) (hl : l.length ≤ 1000000000) : Pure Sg 45 [ag (scriptE s), .c (.p (opL l))] (fun x => x = .b (ag (scriptE (withOps s l)))) := by
  obtain ⟨b1, b2, b3, q0, q1, q2, q3, q4⟩ := id H
  have hci := cloneI_spec s.order.length (fnOf intE s.order) b1
  refine pure_of Tryd.func45 rfl (rs := [.cell 4 32]) rfl rfl mixed (by decide +kernel) (Nat.le_of_ble_eq_true rfl) (argsLt_mem (by simp (maxSteps := 1000000) (disch := omega) only [go_sem])) ?_
  repeat' (first | refine cw_assoc ?_ | refine cw_skips ?_ | refine cw_labels ?_ | ((first | (with_reducible refine cw_stepV (id := 0) (fun K hW => ?_)) | refine cw_step (fun K hK => ?_) | refine cw_last (fun K hK => ?_) | refine cw_stepD (by decide +kernel) (by decide +kernel) (fun K hK => ?_) | refine cw_lastD (by decide +kernel) (by decide +kernel) (fun K hK => ?_) | refine rgB_some ?_); (try simp (maxSteps := 1000000) (disch := omega) only [go_sem]); (repeat' (refine And.intro ?_ ?_)); (all_goals first | (refine hK _ ?_; clear hK K) | exact auto_cl | skip)) | ((first | apply cw_ite | apply cw_iteN); (case hf => rfl); (case hc => simp (maxSteps := 1000000) (disch := omega) only [go_sem]; rfl); (all_goals first | (intro hb; (try simp only [hbs] at hb)) | skip)) | exact atN_intro | ((first | apply cw_if | apply cw_cond); (case hc => simp (maxSteps := 1000000) (disch := omega) only [go_sem]; rfl); (all_goals (intro hb; (try simp only [hbs] at hb); try (exfalso; omega)))) | (refine cw_blocks (fun KB hB => ?_)) | (refine cw_block ?_) | ((first | refine cw_exits ?_ | refine cw_exit ?_ | refine cw_skip ?_); simp (maxSteps := 1000000) (disch := omega) only [go_sem]) | (refine hB _ ?_; clear hB KB) | (refine exit_by (S := Sg) (by assumption) ?_) | ((first | refine cw_rets ?_ | refine cw_ret ?_); simp (maxSteps := 1000000) (disch := omega) only [go_sem]; (try clear hB KB); (try clear hK K)))
  refine hW _ (mkSt [(1, .b (.c (.p (opL l)))), (2, .b (.c (.ptr 0 0))), (4, .b (.c (.ptr 1 0)))] [(0, .fix ((scriptE s).map CV.p)), (1, .fix [.p (PI 0), .p (PI 0), .p (PI 0), .p (PI 0), .p (PI 0), .p (PI 0), .p (PI 0), .p (.val (.slice none 0 0)), .p (.val (.slice none 0 0)), .p (.val (.slice none 0 0))])] 2) ?_ ?_
  · refine le_of [(1, some 1)] rfl (by decide) rfl ?_ ?_
    all_goals simp (maxSteps := 1000000) (disch := omega) only [go_sem]
    repeat' (refine And.intro ?_ ?_)
    all_goals first | rfl | omega | exact .inl rfl | trivial | skip
  clear hW
  refine cw_stepR (id := 1) (.br 0 (.br 1 (.br 2 (.br 4 (.br 3 (.br 5 (.br 7 (.br 6 (.br 8 (.br 9 (.br 10 (.br 11 (.br 12 .leaf .nil) .nil) .nil) .nil) .nil) .nil) .nil) .nil) (.br 5 (.br 7 (.br 3 (.br 6 (.br 8 (.br 9 (.br 10 (.br 11 (.br 12 .leaf .nil) .nil) .nil) .nil) .nil) .nil) .nil) .nil) .nil)) .nil) .nil) .nil) .nil) (by decide +kernel) (by (focus (refine And.intro (fun iw hiw => by ((try simp (maxSteps := 1000000) (disch := omega) only [go_sem] at hiw ⊢); (repeat (first | rfl | exact if_neg (by omega) | rw [if_neg (by omega)])); done)) (by first | exact Nat.zero_le _ | (simp (maxSteps := 1000000) (disch := omega) only [go_sem]; done) | (simp (maxSteps := 1000000) (disch := omega) only [go_sem]; omega) | decide)))) (fun K0 hW => ?_)
  refine (fun (tl : ∀ st, Le st (mkSt [(2, .b (.c (.ptr 0 0))), (4, .b (.c (.ptr 1 0)))] (withB s l) 3) → K0 st) => ?_) (fun st hl => hW st _ hl ?_)
  · clear hW
    repeat' (first | exact tree_nil | (refine tree_br (fun K' hK' => ?_) ?_) | (refine tree_leaf (tl _ ?_); clear tl) | ((first | refine call_a (hci) ?_ | refine gcall_a (fun hg => hci) ?_); (try simp (maxSteps := 1000000) (disch := omega) only [go_sem]); (repeat' (refine And.intro ?_ ?_)); (all_goals first | (refine hK' _ ?_; clear hK' K') | trivial | omega | exact Nat.le_of_ble_eq_true rfl | exact auto_cl | skip)) | (simp (maxSteps := 1000000) (disch := omega) only [go_sem]; (repeat' (refine And.intro ?_ ?_)); (all_goals first | (refine hK' _ ?_; clear hK' K') | trivial | omega | exact Nat.le_of_ble_eq_true rfl | exact auto_cl | skip)))
    all_goals
      refine call_img s.images.length (fnOf imageE s.images) b2 b3 ?_ (fun G => ?_)
      · (focus (refine And.intro (fun iw hiw => by ((try simp (maxSteps := 1000000) (disch := omega) only [go_sem] at hiw ⊢); (repeat (first | rfl | exact if_neg (by omega) | rw [if_neg (by omega)])); done)) (by first | exact Nat.zero_le _ | (simp (maxSteps := 1000000) (disch := omega) only [go_sem]; done) | (simp (maxSteps := 1000000) (disch := omega) only [go_sem]; omega) | decide)))
      refine hK' _ ?_
      clear hK' K'
      repeat' (first | exact tree_nil | (refine tree_br (fun K' hK' => ?_) ?_) | (refine tree_leaf (tl _ ?_); clear tl) | ((first | refine call_a (hci) ?_ | refine gcall_a (fun hg => hci) ?_); (try simp (maxSteps := 1000000) (disch := omega) only [go_sem]); (repeat' (refine And.intro ?_ ?_)); (all_goals first | (refine hK' _ ?_; clear hK' K') | trivial | omega | exact Nat.le_of_ble_eq_true rfl | exact auto_cl | skip)) | (simp (maxSteps := 1000000) (disch := omega) only [go_sem]; (repeat' (refine And.intro ?_ ?_)); (all_goals first | (refine hK' _ ?_; clear hK' K') | trivial | omega | exact Nat.le_of_ble_eq_true rfl | exact auto_cl | skip)))
      refine le_of [(1, some 1), (2, some 3)] rfl (by decide) rfl ?_ ?_
      all_goals simp (maxSteps := 1000000) (disch := omega) only [go_sem]
      repeat' (refine And.intro ?_ ?_)
      all_goals first | rfl | omega | exact .inl rfl | trivial | skip
  clear hW
  repeat' (first | refine cw_assoc ?_ | refine cw_skips ?_ | refine cw_labels ?_ | ((first | refine cw_step (fun K hK => ?_) | refine cw_last (fun K hK => ?_) | refine cw_stepD (by decide +kernel) (by decide +kernel) (fun K hK => ?_) | refine cw_lastD (by decide +kernel) (by decide +kernel) (fun K hK => ?_) | refine rgB_some ?_); (try simp (maxSteps := 1000000) (disch := omega) only [go_sem]); (repeat' (refine And.intro ?_ ?_)); (all_goals first | (refine hK _ ?_; clear hK K) | exact auto_cl | skip)) | ((first | apply cw_ite | apply cw_iteN); (case hf => rfl); (case hc => simp (maxSteps := 1000000) (disch := omega) only [go_sem]; rfl); (all_goals first | (intro hb; (try simp only [hbs] at hb)) | skip)) | exact atN_intro | ((first | apply cw_if | apply cw_cond); (case hc => simp (maxSteps := 1000000) (disch := omega) only [go_sem]; rfl); (all_goals (intro hb; (try simp only [hbs] at hb); try (exfalso; omega)))) | (refine cw_blocks (fun KB hB => ?_)) | (refine cw_block ?_) | ((first | refine cw_exits ?_ | refine cw_exit ?_ | refine cw_skip ?_); simp (maxSteps := 1000000) (disch := omega) only [go_sem]) | (refine hB _ ?_; clear hB KB) | (refine exit_by (S := Sg) (by assumption) ?_) | ((first | refine cw_rets ?_ | refine cw_ret ?_); simp (maxSteps := 1000000) (disch := omega) only [go_sem]; (try clear hB KB); (try clear hK K)))
  refine cw_loop (X := Nat) (fun i => mkSt [(2, .b (.c (.ptr 0 0))), (4, .b (.c (.ptr 1 0))), (20, .b (I s.images.length)), (21, .b (I i))] (withB s l) 3) (fun i => i ≤ s.images.length) (fun i => s.images.length - i) 0 ?_ ?_ ?_
  · exact Nat.zero_le _
  · refine le_of [(1, some 1), (2, some 2)] rfl (by decide) rfl ?_ ?_
    all_goals simp (maxSteps := 1000000) (disch := omega) only [go_sem]
    repeat' (refine And.intro ?_ ?_)
    all_goals first | rfl | omega | exact .inl rfl | trivial | skip
  · intro i hi
    rcases Nat.lt_or_ge i s.images.length with hlt | hge
    · repeat' (first | refine cw_assoc ?_ | refine cw_skips ?_ | refine cw_labels ?_ | ((first | refine cw_step (fun K hK => ?_) | refine cw_last (fun K hK => ?_) | refine cw_stepD (by decide +kernel) (by decide +kernel) (fun K hK => ?_) | refine cw_lastD (by decide +kernel) (by decide +kernel) (fun K hK => ?_) | refine rgB_some ?_); (try simp (maxSteps := 1000000) (disch := omega) only [go_sem]); (repeat' (refine And.intro ?_ ?_)); (all_goals first | (refine hK _ ?_; clear hK K) | exact auto_cl | skip)) | ((first | apply cw_ite | apply cw_iteN); (case hf => rfl); (case hc => simp (maxSteps := 1000000) (disch := omega) only [go_sem]; rfl); (all_goals first | (intro hb; (try simp only [hbs] at hb)) | skip)) | exact atN_intro | ((first | apply cw_if | apply cw_cond); (case hc => simp (maxSteps := 1000000) (disch := omega) only [go_sem]; rfl); (all_goals (intro hb; (try simp only [hbs] at hb); try (exfalso; omega)))) | (refine cw_blocks (fun KB hB => ?_)) | (refine cw_block ?_) | ((first | refine cw_exits ?_ | refine cw_exit ?_ | refine cw_skip ?_); simp (maxSteps := 1000000) (disch := omega) only [go_sem]) | (refine hB _ ?_; clear hB KB) | (refine exit_by (S := Sg) (by assumption) ?_) | ((first | refine cw_rets ?_ | refine cw_ret ?_); simp (maxSteps := 1000000) (disch := omega) only [go_sem]; (try clear hB KB); (try clear hK K)))
      refine cw_loop (X := Nat) (fun k => mkSt [(2, .b (.c (.ptr 0 0))), (4, .b (.c (.ptr 1 0))), (5, .b (I i)), (6, .b (.c (.pel 2 28 i 8))), (20, .b (I s.images.length)), (21, .b (I i)), (29, .b (I k))] (withB s l) 3) (fun k => k ≤ 5) (fun k => 5 - k) 0 ?_ ?_ ?_
      · omega
      · refine le_of [(1, some 1), (2, some 2)] rfl (by decide) rfl ?_ ?_
        all_goals simp (maxSteps := 1000000) (disch := omega) only [go_sem]
        repeat' (refine And.intro ?_ ?_)
        all_goals first | rfl | omega | exact .inl rfl | trivial | skip
      · intro k hk
        have hcu : ∀ n g, n ≤ 1000000000 → _ := fun n g h => cloneU_spec n g h
        have w0 := q0 i hlt
        have w1 := q1 i hlt
        have w2 := q2 i hlt
        have w3 := q3 i hlt
        have w4 := q4 i hlt
        have hkv : k = 0 ∨ k = 1 ∨ k = 2 ∨ k = 3 ∨ k = 4 ∨ k = 5 := by omega
        rcases hkv with rfl | rfl | rfl | rfl | rfl | rfl
        · repeat' (first | refine cw_assoc ?_ | refine cw_skips ?_ | refine cw_labels ?_ | ((first | refine cw_step (fun K hK => ?_) | refine cw_last (fun K hK => ?_) | refine cw_stepD (by decide +kernel) (by decide +kernel) (fun K hK => ?_) | refine cw_lastD (by decide +kernel) (by decide +kernel) (fun K hK => ?_) | refine rgB_some ?_ | refine call_a (cloneU_spec _ _ w0) ?_ | refine gcall_a (fun hg => cloneU_spec _ _ w0) ?_); (try simp (maxSteps := 1000000) (disch := omega) only [go_sem]); (repeat' (refine And.intro ?_ ?_)); (all_goals first | (refine hK _ ?_; clear hK K) | exact auto_cl | skip)) | ((first | apply cw_ite | apply cw_iteN); (case hf => rfl); (case hc => simp (maxSteps := 1000000) (disch := omega) only [go_sem]; rfl); (all_goals first | (intro hb; (try simp only [hbs] at hb)) | skip)) | exact atN_intro | ((first | apply cw_if | apply cw_cond); (case hc => simp (maxSteps := 1000000) (disch := omega) only [go_sem]; rfl); (all_goals (intro hb; (try simp only [hbs] at hb); try (exfalso; omega)))) | (refine cw_blocks (fun KB hB => ?_)) | (refine cw_block ?_) | ((first | refine cw_exits ?_ | refine cw_exit ?_ | refine cw_skip ?_); simp (maxSteps := 1000000) (disch := omega) only [go_sem]) | (refine hB _ ?_; clear hB KB) | (refine exit_by (S := Sg) (by assumption) ?_) | ((first | refine cw_rets ?_ | refine cw_ret ?_); simp (maxSteps := 1000000) (disch := omega) only [go_sem]; (try clear hB KB); (try clear hK K)))
          rw [thenQ_normal]
          refine wk_loop 1 ?_ (by omega) (by omega)
          refine le_of [(1, some 1), (2, some 2)] rfl (by decide) rfl ?_ ?_
          all_goals simp (maxSteps := 1000000) (disch := omega) only [go_sem]
          repeat' (refine And.intro ?_ ?_)
          all_goals first | rfl | omega | exact .inl rfl | trivial | skip
          refine .inr fun a ha j hj => ?_
          by_cases e : a = i
          · rw [if_pos e, e]
            have hivl : j = 0 ∨ j = 1 ∨ j = 2 ∨ j = 3 ∨ j = 4 ∨ j = 5 ∨ j = 6 ∨ j = 7 ∨ j = 8 ∨ j = 9 ∨ j = 10 ∨ j = 11 ∨ j = 12 ∨ j = 13 ∨ j = 14 ∨ j = 15 ∨ j = 16 ∨ j = 17 ∨ j = 18 ∨ j = 19 ∨ j = 20 ∨ j = 21 ∨ j = 22 ∨ j = 23 ∨ j = 24 ∨ j = 25 ∨ j = 26 ∨ j = 27 := by omega
            rcases hivl with rfl | rfl | rfl | rfl | rfl | rfl | rfl | rfl | rfl | rfl | rfl | rfl | rfl | rfl | rfl | rfl | rfl | rfl | rfl | rfl | rfl | rfl | rfl | rfl | rfl | rfl | rfl | rfl <;> exact fun _ _ _ h => h
          · rw [if_neg e]
            exact fun _ _ _ h => h
        · repeat' (first | refine cw_assoc ?_ | refine cw_skips ?_ | refine cw_labels ?_ | ((first | refine cw_step (fun K hK => ?_) | refine cw_last (fun K hK => ?_) | refine cw_stepD (by decide +kernel) (by decide +kernel) (fun K hK => ?_) | refine cw_lastD (by decide +kernel) (by decide +kernel) (fun K hK => ?_) | refine rgB_some ?_ | refine call_a (cloneU_spec _ _ w1) ?_ | refine gcall_a (fun hg => cloneU_spec _ _ w1) ?_); (try simp (maxSteps := 1000000) (disch := omega) only [go_sem]); (repeat' (refine And.intro ?_ ?_)); (all_goals first | (refine hK _ ?_; clear hK K) | exact auto_cl | skip)) | ((first | apply cw_ite | apply cw_iteN); (case hf => rfl); (case hc => simp (maxSteps := 1000000) (disch := omega) only [go_sem]; rfl); (all_goals first | (intro hb; (try simp only [hbs] at hb)) | skip)) | exact atN_intro | ((first | apply cw_if | apply cw_cond); (case hc => simp (maxSteps := 1000000) (disch := omega) only [go_sem]; rfl); (all_goals (intro hb; (try simp only [hbs] at hb); try (exfalso; omega)))) | (refine cw_blocks (fun KB hB => ?_)) | (refine cw_block ?_) | ((first | refine cw_exits ?_ | refine cw_exit ?_ | refine cw_skip ?_); simp (maxSteps := 1000000) (disch := omega) only [go_sem]) | (refine hB _ ?_; clear hB KB) | (refine exit_by (S := Sg) (by assumption) ?_) | ((first | refine cw_rets ?_ | refine cw_ret ?_); simp (maxSteps := 1000000) (disch := omega) only [go_sem]; (try clear hB KB); (try clear hK K)))
          rw [thenQ_normal]
          refine wk_loop 2 ?_ (by omega) (by omega)
          refine le_of [(1, some 1), (2, some 2)] rfl (by decide) rfl ?_ ?_
          all_goals simp (maxSteps := 1000000) (disch := omega) only [go_sem]
          repeat' (refine And.intro ?_ ?_)
          all_goals first | rfl | omega | exact .inl rfl | trivial | skip
          refine .inr fun a ha j hj => ?_
          by_cases e : a = i
          · rw [if_pos e, e]
            have hivl : j = 0 ∨ j = 1 ∨ j = 2 ∨ j = 3 ∨ j = 4 ∨ j = 5 ∨ j = 6 ∨ j = 7 ∨ j = 8 ∨ j = 9 ∨ j = 10 ∨ j = 11 ∨ j = 12 ∨ j = 13 ∨ j = 14 ∨ j = 15 ∨ j = 16 ∨ j = 17 ∨ j = 18 ∨ j = 19 ∨ j = 20 ∨ j = 21 ∨ j = 22 ∨ j = 23 ∨ j = 24 ∨ j = 25 ∨ j = 26 ∨ j = 27 := by omega
            rcases hivl with rfl | rfl | rfl | rfl | rfl | rfl | rfl | rfl | rfl | rfl | rfl | rfl | rfl | rfl | rfl | rfl | rfl | rfl | rfl | rfl | rfl | rfl | rfl | rfl | rfl | rfl | rfl | rfl <;> exact fun _ _ _ h => h
          · rw [if_neg e]
            exact fun _ _ _ h => h
        · repeat' (first | refine cw_assoc ?_ | refine cw_skips ?_ | refine cw_labels ?_ | ((first | refine cw_step (fun K hK => ?_) | refine cw_last (fun K hK => ?_) | refine cw_stepD (by decide +kernel) (by decide +kernel) (fun K hK => ?_) | refine cw_lastD (by decide +kernel) (by decide +kernel) (fun K hK => ?_) | refine rgB_some ?_ | refine call_a (cloneU_spec _ _ w2) ?_ | refine gcall_a (fun hg => cloneU_spec _ _ w2) ?_); (try simp (maxSteps := 1000000) (disch := omega) only [go_sem]); (repeat' (refine And.intro ?_ ?_)); (all_goals first | (refine hK _ ?_; clear hK K) | exact auto_cl | skip)) | ((first | apply cw_ite | apply cw_iteN); (case hf => rfl); (case hc => simp (maxSteps := 1000000) (disch := omega) only [go_sem]; rfl); (all_goals first | (intro hb; (try simp only [hbs] at hb)) | skip)) | exact atN_intro | ((first | apply cw_if | apply cw_cond); (case hc => simp (maxSteps := 1000000) (disch := omega) only [go_sem]; rfl); (all_goals (intro hb; (try simp only [hbs] at hb); try (exfalso; omega)))) | (refine cw_blocks (fun KB hB => ?_)) | (refine cw_block ?_) | ((first | refine cw_exits ?_ | refine cw_exit ?_ | refine cw_skip ?_); simp (maxSteps := 1000000) (disch := omega) only [go_sem]) | (refine hB _ ?_; clear hB KB) | (refine exit_by (S := Sg) (by assumption) ?_) | ((first | refine cw_rets ?_ | refine cw_ret ?_); simp (maxSteps := 1000000) (disch := omega) only [go_sem]; (try clear hB KB); (try clear hK K)))
          rw [thenQ_normal]
          refine wk_loop 3 ?_ (by omega) (by omega)
          refine le_of [(1, some 1), (2, some 2)] rfl (by decide) rfl ?_ ?_
          all_goals simp (maxSteps := 1000000) (disch := omega) only [go_sem]
          repeat' (refine And.intro ?_ ?_)
          all_goals first | rfl | omega | exact .inl rfl | trivial | skip
          refine .inr fun a ha j hj => ?_
          by_cases e : a = i
          · rw [if_pos e, e]
            have hivl : j = 0 ∨ j = 1 ∨ j = 2 ∨ j = 3 ∨ j = 4 ∨ j = 5 ∨ j = 6 ∨ j = 7 ∨ j = 8 ∨ j = 9 ∨ j = 10 ∨ j = 11 ∨ j = 12 ∨ j = 13 ∨ j = 14 ∨ j = 15 ∨ j = 16 ∨ j = 17 ∨ j = 18 ∨ j = 19 ∨ j = 20 ∨ j = 21 ∨ j = 22 ∨ j = 23 ∨ j = 24 ∨ j = 25 ∨ j = 26 ∨ j = 27 := by omega
            rcases hivl with rfl | rfl | rfl | rfl | rfl | rfl | rfl | rfl | rfl | rfl | rfl | rfl | rfl | rfl | rfl | rfl | rfl | rfl | rfl | rfl | rfl | rfl | rfl | rfl | rfl | rfl | rfl | rfl <;> exact fun _ _ _ h => h
          · rw [if_neg e]
            exact fun _ _ _ h => h
        · repeat' (first | refine cw_assoc ?_ | refine cw_skips ?_ | refine cw_labels ?_ | ((first | refine cw_step (fun K hK => ?_) | refine cw_last (fun K hK => ?_) | refine cw_stepD (by decide +kernel) (by decide +kernel) (fun K hK => ?_) | refine cw_lastD (by decide +kernel) (by decide +kernel) (fun K hK => ?_) | refine rgB_some ?_ | refine call_a (cloneU_spec _ _ w3) ?_ | refine gcall_a (fun hg => cloneU_spec _ _ w3) ?_); (try simp (maxSteps := 1000000) (disch := omega) only [go_sem]); (repeat' (refine And.intro ?_ ?_)); (all_goals first | (refine hK _ ?_; clear hK K) | exact auto_cl | skip)) | ((first | apply cw_ite | apply cw_iteN); (case hf => rfl); (case hc => simp (maxSteps := 1000000) (disch := omega) only [go_sem]; rfl); (all_goals first | (intro hb; (try simp only [hbs] at hb)) | skip)) | exact atN_intro | ((first | apply cw_if | apply cw_cond); (case hc => simp (maxSteps := 1000000) (disch := omega) only [go_sem]; rfl); (all_goals (intro hb; (try simp only [hbs] at hb); try (exfalso; omega)))) | (refine cw_blocks (fun KB hB => ?_)) | (refine cw_block ?_) | ((first | refine cw_exits ?_ | refine cw_exit ?_ | refine cw_skip ?_); simp (maxSteps := 1000000) (disch := omega) only [go_sem]) | (refine hB _ ?_; clear hB KB) | (refine exit_by (S := Sg) (by assumption) ?_) | ((first | refine cw_rets ?_ | refine cw_ret ?_); simp (maxSteps := 1000000) (disch := omega) only [go_sem]; (try clear hB KB); (try clear hK K)))
          rw [thenQ_normal]
          refine wk_loop 4 ?_ (by omega) (by omega)
          refine le_of [(1, some 1), (2, some 2)] rfl (by decide) rfl ?_ ?_
          all_goals simp (maxSteps := 1000000) (disch := omega) only [go_sem]
          repeat' (refine And.intro ?_ ?_)
          all_goals first | rfl | omega | exact .inl rfl | trivial | skip
          refine .inr fun a ha j hj => ?_
          by_cases e : a = i
          · rw [if_pos e, e]
            have hivl : j = 0 ∨ j = 1 ∨ j = 2 ∨ j = 3 ∨ j = 4 ∨ j = 5 ∨ j = 6 ∨ j = 7 ∨ j = 8 ∨ j = 9 ∨ j = 10 ∨ j = 11 ∨ j = 12 ∨ j = 13 ∨ j = 14 ∨ j = 15 ∨ j = 16 ∨ j = 17 ∨ j = 18 ∨ j = 19 ∨ j = 20 ∨ j = 21 ∨ j = 22 ∨ j = 23 ∨ j = 24 ∨ j = 25 ∨ j = 26 ∨ j = 27 := by omega
            rcases hivl with rfl | rfl | rfl | rfl | rfl | rfl | rfl | rfl | rfl | rfl | rfl | rfl | rfl | rfl | rfl | rfl | rfl | rfl | rfl | rfl | rfl | rfl | rfl | rfl | rfl | rfl | rfl | rfl <;> exact fun _ _ _ h => h
          · rw [if_neg e]
            exact fun _ _ _ h => h
        · repeat' (first | refine cw_assoc ?_ | refine cw_skips ?_ | refine cw_labels ?_ | ((first | refine cw_step (fun K hK => ?_) | refine cw_last (fun K hK => ?_) | refine cw_stepD (by decide +kernel) (by decide +kernel) (fun K hK => ?_) | refine cw_lastD (by decide +kernel) (by decide +kernel) (fun K hK => ?_) | refine rgB_some ?_ | refine call_a (cloneU_spec _ _ w4) ?_ | refine gcall_a (fun hg => cloneU_spec _ _ w4) ?_); (try simp (maxSteps := 1000000) (disch := omega) only [go_sem]); (repeat' (refine And.intro ?_ ?_)); (all_goals first | (refine hK _ ?_; clear hK K) | exact auto_cl | skip)) | ((first | apply cw_ite | apply cw_iteN); (case hf => rfl); (case hc => simp (maxSteps := 1000000) (disch := omega) only [go_sem]; rfl); (all_goals first | (intro hb; (try simp only [hbs] at hb)) | skip)) | exact atN_intro | ((first | apply cw_if | apply cw_cond); (case hc => simp (maxSteps := 1000000) (disch := omega) only [go_sem]; rfl); (all_goals (intro hb; (try simp only [hbs] at hb); try (exfalso; omega)))) | (refine cw_blocks (fun KB hB => ?_)) | (refine cw_block ?_) | ((first | refine cw_exits ?_ | refine cw_exit ?_ | refine cw_skip ?_); simp (maxSteps := 1000000) (disch := omega) only [go_sem]) | (refine hB _ ?_; clear hB KB) | (refine exit_by (S := Sg) (by assumption) ?_) | ((first | refine cw_rets ?_ | refine cw_ret ?_); simp (maxSteps := 1000000) (disch := omega) only [go_sem]; (try clear hB KB); (try clear hK K)))
          rw [thenQ_normal]
          refine wk_loop 5 ?_ (by omega) (by omega)
          refine le_of [(1, some 1), (2, some 2)] rfl (by decide) rfl ?_ ?_
          all_goals simp (maxSteps := 1000000) (disch := omega) only [go_sem]
          repeat' (refine And.intro ?_ ?_)
          all_goals first | rfl | omega | exact .inl rfl | trivial | skip
          refine .inr fun a ha j hj => ?_
          by_cases e : a = i
          · rw [if_pos e, e]
            have hivl : j = 0 ∨ j = 1 ∨ j = 2 ∨ j = 3 ∨ j = 4 ∨ j = 5 ∨ j = 6 ∨ j = 7 ∨ j = 8 ∨ j = 9 ∨ j = 10 ∨ j = 11 ∨ j = 12 ∨ j = 13 ∨ j = 14 ∨ j = 15 ∨ j = 16 ∨ j = 17 ∨ j = 18 ∨ j = 19 ∨ j = 20 ∨ j = 21 ∨ j = 22 ∨ j = 23 ∨ j = 24 ∨ j = 25 ∨ j = 26 ∨ j = 27 := by omega
            rcases hivl with rfl | rfl | rfl | rfl | rfl | rfl | rfl | rfl | rfl | rfl | rfl | rfl | rfl | rfl | rfl | rfl | rfl | rfl | rfl | rfl | rfl | rfl | rfl | rfl | rfl | rfl | rfl | rfl <;> exact fun _ _ _ h => h
          · rw [if_neg e]
            exact fun _ _ _ h => h
        · repeat' (first | refine cw_assoc ?_ | refine cw_skips ?_ | refine cw_labels ?_ | ((first | refine cw_step (fun K hK => ?_) | refine cw_last (fun K hK => ?_) | refine cw_stepD (by decide +kernel) (by decide +kernel) (fun K hK => ?_) | refine cw_lastD (by decide +kernel) (by decide +kernel) (fun K hK => ?_) | refine rgB_some ?_); (try simp (maxSteps := 1000000) (disch := omega) only [go_sem]); (repeat' (refine And.intro ?_ ?_)); (all_goals first | (refine hK _ ?_; clear hK K) | exact auto_cl | skip)) | ((first | apply cw_ite | apply cw_iteN); (case hf => rfl); (case hc => simp (maxSteps := 1000000) (disch := omega) only [go_sem]; rfl); (all_goals first | (intro hb; (try simp only [hbs] at hb)) | skip)) | exact atN_intro | ((first | apply cw_if | apply cw_cond); (case hc => simp (maxSteps := 1000000) (disch := omega) only [go_sem]; rfl); (all_goals (intro hb; (try simp only [hbs] at hb); try (exfalso; omega)))) | (refine cw_blocks (fun KB hB => ?_)) | (refine cw_block ?_) | ((first | refine cw_exits ?_ | refine cw_exit ?_ | refine cw_skip ?_); simp (maxSteps := 1000000) (disch := omega) only [go_sem]) | (refine hB _ ?_; clear hB KB) | (refine exit_by (S := Sg) (by assumption) ?_) | ((first | refine cw_rets ?_ | refine cw_ret ?_); simp (maxSteps := 1000000) (disch := omega) only [go_sem]; (try clear hB KB); (try clear hK K)))
          rw [thenQ_normal]
          refine wk_loop (i + 1) ?_ (by omega) (by omega)
          refine le_of [(1, some 1), (2, some 2)] rfl (by decide) rfl ?_ ?_
          all_goals simp (maxSteps := 1000000) (disch := omega) only [go_sem]
          repeat' (refine And.intro ?_ ?_)
          all_goals first | rfl | omega | exact .inl rfl | trivial | skip
    · have hi2 : i = s.images.length := by omega
      subst hi2
      repeat' (first | refine cw_assoc ?_ | refine cw_skips ?_ | refine cw_labels ?_ | ((first | refine cw_step (fun K hK => ?_) | refine cw_last (fun K hK => ?_) | refine cw_stepD (by decide +kernel) (by decide +kernel) (fun K hK => ?_) | refine cw_lastD (by decide +kernel) (by decide +kernel) (fun K hK => ?_) | refine rgB_some ?_); (try simp (maxSteps := 1000000) (disch := omega) only [go_sem]); (repeat' (refine And.intro ?_ ?_)); (all_goals first | (refine hK _ ?_; clear hK K) | exact auto_cl | skip)) | ((first | apply cw_ite | apply cw_iteN); (case hf => rfl); (case hc => simp (maxSteps := 1000000) (disch := omega) only [go_sem]; rfl); (all_goals first | (intro hb; (try simp only [hbs] at hb)) | skip)) | exact atN_intro | ((first | apply cw_if | apply cw_cond); (case hc => simp (maxSteps := 1000000) (disch := omega) only [go_sem]; rfl); (all_goals (intro hb; (try simp only [hbs] at hb); try (exfalso; omega)))) | (refine cw_blocks (fun KB hB => ?_)) | (refine cw_block ?_) | ((first | refine cw_exits ?_ | refine cw_exit ?_ | refine cw_skip ?_); simp (maxSteps := 1000000) (disch := omega) only [go_sem]) | (refine hB _ ?_; clear hB KB) | (refine exit_by (S := Sg) (by assumption) ?_) | ((first | refine cw_rets ?_ | refine cw_ret ?_); simp (maxSteps := 1000000) (disch := omega) only [go_sem]; (try clear hB KB); (try clear hK K)))
      rfl
theorem Apply_sp (s : Script) (V : VOps s) (hs : ScriptLen s) (H : Sml s) (r : Rx) (ha : apM s r.1 r.2 = true) (hl : (rwM s r.1.toNat r.2.toNat).length ≤ 1000000000) : Pure Sg 16 [ag (scriptE s), ag (rxE r)] (fun x => x = .tup [ag (scriptE (nextS s r)), I 0]) := by
  have h1 := Rewrite_yes s V hs r ha
  have h2 := With_sp s (rwM s r.1.toNat r.2.toNat) H hl
  refine pure_of Tryd.func16 rfl (rs := [.cell 4 32, .tmp 5]) rfl rfl mixed (by decide +kernel) (Nat.le_of_ble_eq_true rfl) (argsLt_mem (by simp (maxSteps := 1000000) (disch := omega) only [go_sem])) ?_
  repeat' (first | refine cw_assoc ?_ | refine cw_skips ?_ | refine cw_labels ?_ | ((first | refine cw_step (fun K hK => ?_) | refine cw_last (fun K hK => ?_) | refine cw_stepD (by decide +kernel) (by decide +kernel) (fun K hK => ?_) | refine cw_lastD (by decide +kernel) (by decide +kernel) (fun K hK => ?_) | refine rgB_some ?_ | refine call_a (h1) ?_ | refine gcall_a (fun hg => h1) ?_ | refine call_a (h2) ?_ | refine gcall_a (fun hg => h2) ?_); (try simp (maxSteps := 1000000) (disch := omega) only [go_sem]); (repeat' (refine And.intro ?_ ?_)); (all_goals first | (refine hK _ ?_; clear hK K) | exact auto_cl | skip)) | ((first | apply cw_ite | apply cw_iteN); (case hf => rfl); (case hc => simp (maxSteps := 1000000) (disch := omega) only [go_sem]; rfl); (all_goals first | (intro hb; (try simp only [hbs] at hb)) | skip)) | exact atN_intro | ((first | apply cw_if | apply cw_cond); (case hc => simp (maxSteps := 1000000) (disch := omega) only [go_sem]; rfl); (all_goals (intro hb; (try simp only [hbs] at hb); try (exfalso; omega)))) | (refine cw_blocks (fun KB hB => ?_)) | (refine cw_block ?_) | ((first | refine cw_exits ?_ | refine cw_exit ?_ | refine cw_skip ?_); simp (maxSteps := 1000000) (disch := omega) only [go_sem]) | (refine hB _ ?_; clear hB KB) | (refine exit_by (S := Sg) (by assumption) ?_) | ((first | refine cw_rets ?_ | refine cw_ret ?_); simp (maxSteps := 1000000) (disch := omega) only [go_sem]; (try clear hB KB); (try clear hK K)))
  · exact absurd trivial hb
  · rfl
theorem First_sp (s : Script) (hs : ScriptLen s) : Pure Sg 48 [ag (scriptE s)] (fun x => x = firstV (redM s)) := by
  by_cases he : (opsM s).1 = 0
  · exact First_yes s (vops_of he) hs
  · rw [firstV_nil (show redM s = [] by rw [redM, if_neg he])]
    exact First_no s hs he
theorem Redexes_sp (s : Script) (hs : ScriptLen s) : Pure Sg 14 [ag (scriptE s)] (fun x => x = .b (.c (.p (.lst 2 (redM s).length (fnOf rxE (redM s)))))) := by
  by_cases he : (opsM s).1 = 0
  · exact Redexes_yes s (vops_of he) hs
  · exact Redexes_no s hs he
theorem Normal_sp (s : Script) (hs : ScriptLen s) : Pure Sg 22 [ag (scriptE s)] (fun x => x = .b (B (decide (redM s = [])))) := by
  have h1 := First_sp s hs
  cases hr : redM s with
  | nil =>
    rw [firstV_nil hr] at h1
    refine pure_of Tryd.func22 rfl (rs := [.tmp 2]) rfl rfl mixed (by decide +kernel) (Nat.le_of_ble_eq_true rfl) (argsLt_mem (by simp (maxSteps := 1000000) (disch := omega) only [go_sem])) ?_
    repeat' (first | refine cw_assoc ?_ | refine cw_skips ?_ | refine cw_labels ?_ | ((first | refine cw_step (fun K hK => ?_) | refine cw_last (fun K hK => ?_) | refine cw_stepD (by decide +kernel) (by decide +kernel) (fun K hK => ?_) | refine cw_lastD (by decide +kernel) (by decide +kernel) (fun K hK => ?_) | refine rgB_some ?_ | refine call_a (h1) ?_ | refine gcall_a (fun hg => h1) ?_); (try simp (maxSteps := 1000000) (disch := omega) only [go_sem]); (repeat' (refine And.intro ?_ ?_)); (all_goals first | (refine hK _ ?_; clear hK K) | exact auto_cl | skip)) | ((first | apply cw_ite | apply cw_iteN); (case hf => rfl); (case hc => simp (maxSteps := 1000000) (disch := omega) only [go_sem]; rfl); (all_goals first | (intro hb; (try simp only [hbs] at hb)) | skip)) | exact atN_intro | ((first | apply cw_if | apply cw_cond); (case hc => simp (maxSteps := 1000000) (disch := omega) only [go_sem]; rfl); (all_goals (intro hb; (try simp only [hbs] at hb); try (exfalso; omega)))) | (refine cw_blocks (fun KB hB => ?_)) | (refine cw_block ?_) | ((first | refine cw_exits ?_ | refine cw_exit ?_ | refine cw_skip ?_); simp (maxSteps := 1000000) (disch := omega) only [go_sem]) | (refine hB _ ?_; clear hB KB) | (refine exit_by (S := Sg) (by assumption) ?_) | ((first | refine cw_rets ?_ | refine cw_ret ?_); simp (maxSteps := 1000000) (disch := omega) only [go_sem]; (try clear hB KB); (try clear hK K)))
    rfl
  | cons r t =>
    rw [firstV_head (r := r) (by rw [hr]; rfl)] at h1
    refine pure_of Tryd.func22 rfl (rs := [.tmp 2]) rfl rfl mixed (by decide +kernel) (Nat.le_of_ble_eq_true rfl) (argsLt_mem (by simp (maxSteps := 1000000) (disch := omega) only [go_sem])) ?_
    repeat' (first | refine cw_assoc ?_ | refine cw_skips ?_ | refine cw_labels ?_ | ((first | refine cw_step (fun K hK => ?_) | refine cw_last (fun K hK => ?_) | refine cw_stepD (by decide +kernel) (by decide +kernel) (fun K hK => ?_) | refine cw_lastD (by decide +kernel) (by decide +kernel) (fun K hK => ?_) | refine rgB_some ?_ | refine call_a (h1) ?_ | refine gcall_a (fun hg => h1) ?_); (try simp (maxSteps := 1000000) (disch := omega) only [go_sem]); (repeat' (refine And.intro ?_ ?_)); (all_goals first | (refine hK _ ?_; clear hK K) | exact auto_cl | skip)) | ((first | apply cw_ite | apply cw_iteN); (case hf => rfl); (case hc => simp (maxSteps := 1000000) (disch := omega) only [go_sem]; rfl); (all_goals first | (intro hb; (try simp only [hbs] at hb)) | skip)) | exact atN_intro | ((first | apply cw_if | apply cw_cond); (case hc => simp (maxSteps := 1000000) (disch := omega) only [go_sem]; rfl); (all_goals (intro hb; (try simp only [hbs] at hb); try (exfalso; omega)))) | (refine cw_blocks (fun KB hB => ?_)) | (refine cw_block ?_) | ((first | refine cw_exits ?_ | refine cw_exit ?_ | refine cw_skip ?_); simp (maxSteps := 1000000) (disch := omega) only [go_sem]) | (refine hB _ ?_; clear hB KB) | (refine exit_by (S := Sg) (by assumption) ?_) | ((first | refine cw_rets ?_ | refine cw_ret ?_); simp (maxSteps := 1000000) (disch := omega) only [go_sem]; (try clear hB KB); (try clear hK K)))
    rfl
end Go.Proofs.YtkjdljcbpbeehaaDoor

/- Simplifying: the walk. -/
set_option linter.unusedSimpArgs false
set_option linter.unusedVariables false
set_option maxRecDepth 8000
set_option maxHeartbeats 2000000
namespace Go.Proofs.YtkjdljcbpbeehaaDoor
open Go Go.SL
open Go.RowKit (wrap64)
attribute [local go_sem] Int.toNat_natCast rxE

theorem sum_one (l : List Op) : sumW (fun _ => 1) l = l.length := by
  induction l with
  | nil => rfl
  | cons a l ih => rw [sumW_cons, ih, List.length_cons, Nat.add_comm]
theorem rw_len {s : Script} (W : Wf s.ops) {r : Rx} (h : apM s r.1 r.2 = true) : (rwM s r.1.toNat r.2.toNat).length ≤ s.ops.length := by
  obtain ⟨g1, g2, g3, g4, g5⟩ := apM_lt h
  rw [← sum_one, ← sum_one s.ops]
  by_cases h4 : r.1 ≤ 4
  · rw [rwM, if_pos (by omega)]
    have := sum_cut (fun _ => 1) W g3
    omega
  by_cases h9 : r.1 = 9
  · have e : r.1.toNat = 9 := by omega
    rw [rwM, if_neg (by omega), if_pos e]
    rw [e] at g5
    have hu : unwM s r.2.toNat = true := g5
    simp only [unwM, Bool.and_eq_true, decide_eq_true_eq] at hu
    obtain ⟨he, hk3⟩ := kid_next W g3 hu.1.1.1 (by rw [hu.1.2]; exact Nat.le_refl _)
    have hl := ends_lt W g3
    have := sum_unw (fun _ => 1) W (i := r.2.toNat) (by omega) hu.1.1.1 he
    omega
  · have := (cnt_same h (by omega) (by omega)).2
    rw [sum_one, sum_one]; omega
def runM (s : Script) : List Op × List Rx := runGo (sumW wtOp s.ops + 1) s
theorem sml_with {s : Script} (H : Sml s) (l : List Op) : Sml (withOps s l) := ⟨H.order, H.im0, H.im, H.p0, H.p1, H.p2, H.p3, H.p4⟩
theorem len_with {s : Script} (hs : ScriptLen s) {l : List Op} (h : l.length ≤ 1000000) : ScriptLen (withOps s l) := ⟨hs.order, hs.images, by show l.length ≤ _; omega⟩
theorem wt_bnd : ∀ l : List Op, sumW wtOp l ≤ 5 * l.length
  | [] => Nat.le_refl _
  | o :: l => by
    have := wt_bnd l
    have h : wtOp o ≤ 5 := by
      unfold wtOp
      split <;> split <;> split <;> split <;> split <;> omega
    rw [sumW_cons, List.length_cons]
    omega
def zerosB : Bx := .fix [.p (PI 0), .p (PI 0), .p (PI 0), .p (PI 0), .p (PI 0), .p (PI 0), .p (PI 0), .p (.val (.slice none 0 0)), .p (.val (.slice none 0 0)), .p (.val (.slice none 0 0))]
attribute [local go_sem] zerosB
theorem run_sp (s : Script) (hs : ScriptLen s) (H : Sml s) (ho : s.ops.length ≤ 1000000) :
    Pure Sg 46 [ag (scriptE s)] (fun x => x = .tup [ag (scriptE (withOps s (runM s).1)), .c (.p (.lst 2 (runM s).2.length (fnOf rxE (runM s).2)))]) := by
  have h1 := cloneOps_spec s.ops.length (fnOf opE s.ops) (by omega)
  have h2 := With_sp s s.ops H (by omega)
  have hwb := wt_bnd s.ops
  refine pure_le ?_
  refine pure_of Tryd.func46 rfl (rs := [.cell 2 32, .tmp 3]) rfl rfl mixed (by decide +kernel) (Nat.le_of_ble_eq_true rfl) (argsLt_mem (by simp (maxSteps := 1000000) (disch := omega) only [go_sem])) ?_
  repeat' (first | refine cw_assoc ?_ | refine cw_skips ?_ | refine cw_labels ?_ | ((first | (with_reducible refine cw_stepV (id := 1) (fun K hW => ?_)) | refine cw_step (fun K hK => ?_) | refine cw_last (fun K hK => ?_) | refine cw_stepD (by decide +kernel) (by decide +kernel) (fun K hK => ?_) | refine cw_lastD (by decide +kernel) (by decide +kernel) (fun K hK => ?_) | refine rgB_some ?_); (try simp (maxSteps := 1000000) (disch := omega) only [go_sem]); (repeat' (refine And.intro ?_ ?_)); (all_goals first | (refine hK _ ?_; clear hK K) | exact auto_cl | skip)) | ((first | apply cw_ite | apply cw_iteN); (case hf => rfl); (case hc => simp (maxSteps := 1000000) (disch := omega) only [go_sem]; rfl); (all_goals first | (intro hb; (try simp only [hbs] at hb)) | skip)) | exact atN_intro | ((first | apply cw_if | apply cw_cond); (case hc => simp (maxSteps := 1000000) (disch := omega) only [go_sem]; rfl); (all_goals (intro hb; (try simp only [hbs] at hb); try (exfalso; omega)))) | (refine cw_blocks (fun KB hB => ?_)) | (refine cw_block ?_) | ((first | refine cw_exits ?_ | refine cw_exit ?_ | refine cw_skip ?_); simp (maxSteps := 1000000) (disch := omega) only [go_sem]) | (refine hB _ ?_; clear hB KB) | (refine exit_by (S := Sg) (by assumption) ?_) | ((first | refine cw_rets ?_ | refine cw_ret ?_); simp (maxSteps := 1000000) (disch := omega) only [go_sem]; (try clear hB KB); (try clear hK K)))
  refine hW _ (mkSt [(1, .b (.c (.ptr 0 0))), (2, .b (.c (.ptr 1 0))), (4, .b (.c (.p (.val (.slice none 0 0)))))] [(0, .fix ((scriptE s).map CV.p)), (1, zerosB)] 2) ?_ ?_
  · refine le_of [(1, some 1)] rfl (by decide) rfl ?_ ?_
    all_goals simp (maxSteps := 1000000) (disch := omega) only [go_sem]
    repeat' (refine And.intro ?_ ?_)
    all_goals first | rfl | omega | exact .inl rfl | trivial | skip
  clear hW
  refine cw_stepR (id := 2) (.br 1 (.br 2 (.br 0 (.br 3 (.br 4 (.br 5 (.br 6 .leaf .nil) .nil) (.br 5 (.br 4 (.br 6 .leaf .nil) .nil) .nil)) (.br 5 (.br 3 (.br 4 (.br 6 .leaf .nil) .nil) .nil) .nil)) (.br 3 (.br 0 (.br 4 (.br 5 (.br 6 .leaf .nil) .nil) (.br 5 (.br 4 (.br 6 .leaf .nil) .nil) .nil)) .nil) (.br 5 (.br 0 (.br 3 (.br 4 (.br 6 .leaf .nil) .nil) .nil) (.br 3 (.br 0 (.br 4 (.br 6 .leaf .nil) .nil) .nil) .nil)) .nil))) .nil) .nil) (by decide +kernel) (by (focus (refine And.intro (fun iw hiw => by ((try simp (maxSteps := 1000000) (disch := omega) only [go_sem] at hiw ⊢); (repeat (first | rfl | exact if_neg (by omega) | rw [if_neg (by omega)])); done)) (by first | exact Nat.zero_le _ | (simp (maxSteps := 1000000) (disch := omega) only [go_sem]; done) | (simp (maxSteps := 1000000) (disch := omega) only [go_sem]; omega) | decide)))) (fun K0 hW => ?_)
  refine (fun (tl : ∀ st, Le st (mkSt [(2, .b (.c (.ptr 1 0))), (4, .b (.c (.p (.val (.slice none 0 0))))), (5, .b (.c (.ptr 2 0)))] [(1, zerosB), (2, .fix ((scriptE s).map CV.p))] 3) → K0 st) => ?_) (fun st hl => hW st _ hl ?_)
  · clear hW
    repeat' (first | exact tree_nil | (refine tree_br (fun K' hK' => ?_) ?_) | (refine tree_leaf (tl _ ?_); clear tl) | ((first | refine call_a (h1) ?_ | refine gcall_a (fun hg => h1) ?_ | refine call_a (h2) ?_ | refine gcall_a (fun hg => h2) ?_); (try simp (maxSteps := 1000000) (disch := omega) only [go_sem]); (repeat' (refine And.intro ?_ ?_)); (all_goals first | (refine hK' _ ?_; clear hK' K') | trivial | omega | exact Nat.le_of_ble_eq_true rfl | exact auto_cl | skip)) | (simp (maxSteps := 1000000) (disch := omega) only [go_sem]; (repeat' (refine And.intro ?_ ?_)); (all_goals first | (refine hK' _ ?_; clear hK' K') | trivial | omega | exact Nat.le_of_ble_eq_true rfl | exact auto_cl | skip)))
    all_goals
      refine le_of [(1, some 1), (2, some 2)] rfl (by decide) rfl ?_ ?_
      all_goals simp (maxSteps := 1000000) (disch := omega) only [go_sem]
      repeat' (refine And.intro ?_ ?_)
      all_goals first | rfl | omega | exact .inl rfl | trivial | skip
  clear hW
  repeat' (first | refine cw_assoc ?_ | refine cw_skips ?_ | refine cw_labels ?_ | ((first | refine cw_step (fun K hK => ?_) | refine cw_last (fun K hK => ?_) | refine cw_stepD (by decide +kernel) (by decide +kernel) (fun K hK => ?_) | refine cw_lastD (by decide +kernel) (by decide +kernel) (fun K hK => ?_) | refine rgB_some ?_); (try simp (maxSteps := 1000000) (disch := omega) only [go_sem]); (repeat' (refine And.intro ?_ ?_)); (all_goals first | (refine hK _ ?_; clear hK K) | exact auto_cl | skip)) | ((first | apply cw_ite | apply cw_iteN); (case hf => rfl); (case hc => simp (maxSteps := 1000000) (disch := omega) only [go_sem]; rfl); (all_goals first | (intro hb; (try simp only [hbs] at hb)) | skip)) | exact atN_intro | ((first | apply cw_if | apply cw_cond); (case hc => simp (maxSteps := 1000000) (disch := omega) only [go_sem]; rfl); (all_goals (intro hb; (try simp only [hbs] at hb); try (exfalso; omega)))) | (refine cw_blocks (fun KB hB => ?_)) | (refine cw_block ?_) | ((first | refine cw_exits ?_ | refine cw_exit ?_ | refine cw_skip ?_); simp (maxSteps := 1000000) (disch := omega) only [go_sem]) | (refine hB _ ?_; clear hB KB) | (refine exit_by (S := Sg) (by assumption) ?_) | ((first | refine cw_rets ?_ | refine cw_ret ?_); simp (maxSteps := 1000000) (disch := omega) only [go_sem]; (try clear hB KB); (try clear hK K)))
  refine cw_loop (X := Nat × List Op × List Rx) (fun x => mkSt [(2, .b (.c (.ptr 1 0))), (4, .b (.c (.own 3 x.2.2.length))), (5, .b (.c (.ptr 2 0)))] [(1, zerosB), (2, .fix ((scriptE (withOps s x.2.1)).map CV.p)), (3, .arr 55 2 x.2.2.length (fnOf rxE x.2.2))] 4)
    (fun x => sumW wtOp x.2.1 < x.1 ∧ x.2.1.length ≤ 1000000 ∧ x.2.2.length + x.1 ≤ 5000001 ∧ runM s = ((runGo x.1 (withOps s x.2.1)).1, x.2.2 ++ (runGo x.1 (withOps s x.2.1)).2)) (fun x => x.1) (sumW wtOp s.ops + 1, s.ops, []) ?_ ?_ ?_
  · exact ⟨Nat.lt_succ_self _, ho, by dsimp only [List.length_nil]; omega, rfl⟩
  · refine le_of [(1, some 1), (2, some 2), (3, none)] rfl (by decide) rfl ?_ ?_
    all_goals simp (maxSteps := 1000000) (disch := omega) only [go_sem]
    repeat' (refine And.intro ?_ ?_)
    all_goals first | rfl | omega | exact .inl rfl | trivial | skip
  · rintro ⟨f, cur, steps⟩ ⟨i1, i2, i3, i4⟩
    dsimp only at i1 i2 i3 i4 ⊢
    have hs2 := len_with hs i2
    have hf := First_sp (withOps s cur) hs2
    cases hr : (redM (withOps s cur)).head? with
    | none =>
      rw [firstV_nil (red_none hr)] at hf
      rw [run_none hr] at i4
      repeat' (first | refine cw_assoc ?_ | refine cw_skips ?_ | refine cw_labels ?_ | ((first | refine cw_step (fun K hK => ?_) | refine cw_last (fun K hK => ?_) | refine cw_stepD (by decide +kernel) (by decide +kernel) (fun K hK => ?_) | refine cw_lastD (by decide +kernel) (by decide +kernel) (fun K hK => ?_) | refine rgB_some ?_ | refine call_a (hf) ?_ | refine gcall_a (fun hg => hf) ?_); (try simp (maxSteps := 1000000) (disch := omega) only [go_sem]); (repeat' (refine And.intro ?_ ?_)); (all_goals first | (refine hK _ ?_; clear hK K) | exact auto_cl | skip)) | ((first | apply cw_ite | apply cw_iteN); (case hf => rfl); (case hc => simp (maxSteps := 1000000) (disch := omega) only [go_sem]; rfl); (all_goals first | (intro hb; (try simp only [hbs] at hb)) | skip)) | exact atN_intro | ((first | apply cw_if | apply cw_cond); (case hc => simp (maxSteps := 1000000) (disch := omega) only [go_sem]; rfl); (all_goals (intro hb; (try simp only [hbs] at hb); try (exfalso; omega)))) | (refine cw_blocks (fun KB hB => ?_)) | (refine cw_block ?_) | ((first | refine cw_exits ?_ | refine cw_exit ?_ | refine cw_skip ?_); simp (maxSteps := 1000000) (disch := omega) only [go_sem]) | (refine hB _ ?_; clear hB KB) | (refine exit_by (S := Sg) (by assumption) ?_) | ((first | refine cw_rets ?_ | refine cw_ret ?_); simp (maxSteps := 1000000) (disch := omega) only [go_sem]; (try clear hB KB); (try clear hK K)))
      · have e : runM s = (cur, steps) := by rw [i4]; exact congrArg (fun q => (cur, q)) (List.append_nil _)
        rw [e]
        refine sle_tup ⟨ble_agg ?_, ble_rfl trivial, trivial⟩
        simp only [List.map_cons, List.map_nil, cleL_cons, cleL_nil]
        repeat' (refine And.intro ?_ ?_)
        all_goals first | exact .inl rfl | exact .inl trivial | exact .inr nil_le | trivial | skip
    | some r =>
      rw [firstV_head hr] at hf
      obtain ⟨f, rfl⟩ : ∃ g, f = g + 1 := ⟨f - 1, by omega⟩
      rw [run_some hr] at i4
      have hm := mem_red.1 (red_head hr).1
      have V := vops_of hm.1
      have hw := Rewrite_yes (withOps s cur) V hs2 r hm.2
      have hlt := wt_less V.wf hm.2
      have hle := rw_len V.wf hm.2
      repeat' (first | refine cw_assoc ?_ | refine cw_skips ?_ | refine cw_labels ?_ | ((first | refine cw_step (fun K hK => ?_) | refine cw_last (fun K hK => ?_) | refine cw_stepD (by decide +kernel) (by decide +kernel) (fun K hK => ?_) | refine cw_lastD (by decide +kernel) (by decide +kernel) (fun K hK => ?_) | refine rgB_some ?_ | refine call_a (hf) ?_ | refine gcall_a (fun hg => hf) ?_ | refine call_a (hw) ?_ | refine gcall_a (fun hg => hw) ?_); (try simp (maxSteps := 1000000) (disch := omega) only [go_sem]); (repeat' (refine And.intro ?_ ?_)); (all_goals first | (refine hK _ ?_; clear hK K) | exact auto_cl | skip)) | ((first | apply cw_ite | apply cw_iteN); (case hf => rfl); (case hc => simp (maxSteps := 1000000) (disch := omega) only [go_sem]; rfl); (all_goals first | (intro hb; (try simp only [hbs] at hb)) | skip)) | exact atN_intro | ((first | apply cw_if | apply cw_cond); (case hc => simp (maxSteps := 1000000) (disch := omega) only [go_sem]; rfl); (all_goals (intro hb; (try simp only [hbs] at hb); try (exfalso; omega)))) | (refine cw_blocks (fun KB hB => ?_)) | (refine cw_block ?_) | ((first | refine cw_exits ?_ | refine cw_exit ?_ | refine cw_skip ?_); simp (maxSteps := 1000000) (disch := omega) only [go_sem]) | (refine hB _ ?_; clear hB KB) | (refine exit_by (S := Sg) (by assumption) ?_) | ((first | refine cw_rets ?_ | refine cw_ret ?_); simp (maxSteps := 1000000) (disch := omega) only [go_sem]; (try clear hB KB); (try clear hK K)))
      · exact absurd hb (by decide)
      · exact absurd trivial hb
      rw [blockQ_normal, thenQ_normal]
      refine wk_loop (f, rwM (withOps s cur) r.1.toNat r.2.toNat, steps ++ [r]) ?_ ⟨?_, ?_, ?_, ?_⟩ (Nat.lt_succ_self f)
      · dsimp only
        rw [show (steps ++ [r]).length = steps.length + 1 from List.length_append]
        refine le_of [(1, some 1), (2, some 2), (3, some 6)] rfl (by decide) rfl ?_ ?_
        all_goals simp (maxSteps := 1000000) (disch := omega) only [go_sem]
        repeat' (refine And.intro ?_ ?_)
        all_goals first | rfl | omega | exact .inl rfl | trivial | skip
        exact .inr (rx_snoc fun j hj => by
          have hj2 : j = 0 ∨ j = 1 := by omega
          rcases hj2 with rfl | rfl <;> rfl)
      · show sumW wtOp (rwM (withOps s cur) r.1.toNat r.2.toNat) < f
        have : sumW wtOp (withOps s cur).ops = sumW wtOp cur := rfl
        omega
      · show (rwM (withOps s cur) r.1.toNat r.2.toNat).length ≤ 1000000
        have : (withOps s cur).ops.length = cur.length := rfl
        omega
      · show (steps ++ [r]).length + f ≤ 5000001
        rw [List.length_append, List.length_cons, List.length_nil]; omega
      · rw [i4]
        exact congrArg (fun q => (_, q)) (List.append_cons steps r _)
theorem Simplify_sp (s : Script) (hs : ScriptLen s) (H : Sml s) (ho : s.ops.length ≤ 1000000) : Pure Sg 19 [ag (scriptE s)] (fun x => x = .b (ag (scriptE (withOps s (runM s).1)))) := by
  have h1 := run_sp s hs H ho
  refine pure_of Tryd.func19 rfl (rs := [.cell 2 32]) rfl rfl mixed (by decide +kernel) (Nat.le_of_ble_eq_true rfl) (argsLt_mem (by simp (maxSteps := 1000000) (disch := omega) only [go_sem])) ?_
  repeat' (first | refine cw_assoc ?_ | refine cw_skips ?_ | refine cw_labels ?_ | ((first | refine cw_step (fun K hK => ?_) | refine cw_last (fun K hK => ?_) | refine cw_stepD (by decide +kernel) (by decide +kernel) (fun K hK => ?_) | refine cw_lastD (by decide +kernel) (by decide +kernel) (fun K hK => ?_) | refine rgB_some ?_ | refine call_a (h1) ?_ | refine gcall_a (fun hg => h1) ?_); (try simp (maxSteps := 1000000) (disch := omega) only [go_sem]); (repeat' (refine And.intro ?_ ?_)); (all_goals first | (refine hK _ ?_; clear hK K) | exact auto_cl | skip)) | ((first | apply cw_ite | apply cw_iteN); (case hf => rfl); (case hc => simp (maxSteps := 1000000) (disch := omega) only [go_sem]; rfl); (all_goals first | (intro hb; (try simp only [hbs] at hb)) | skip)) | exact atN_intro | ((first | apply cw_if | apply cw_cond); (case hc => simp (maxSteps := 1000000) (disch := omega) only [go_sem]; rfl); (all_goals (intro hb; (try simp only [hbs] at hb); try (exfalso; omega)))) | (refine cw_blocks (fun KB hB => ?_)) | (refine cw_block ?_) | ((first | refine cw_exits ?_ | refine cw_exit ?_ | refine cw_skip ?_); simp (maxSteps := 1000000) (disch := omega) only [go_sem]) | (refine hB _ ?_; clear hB KB) | (refine exit_by (S := Sg) (by assumption) ?_) | ((first | refine cw_rets ?_ | refine cw_ret ?_); simp (maxSteps := 1000000) (disch := omega) only [go_sem]; (try clear hB KB); (try clear hK K)))
  rfl
theorem Steps_sp (s : Script) (hs : ScriptLen s) (H : Sml s) (ho : s.ops.length ≤ 1000000) : Pure Sg 47 [ag (scriptE s)] (fun x => x = .b (.c (.p (.lst 2 (runM s).2.length (fnOf rxE (runM s).2))))) := by
  have h1 := run_sp s hs H ho
  refine pure_of Tryd.func47 rfl (rs := [.tmp 2]) rfl rfl mixed (by decide +kernel) (Nat.le_of_ble_eq_true rfl) (argsLt_mem (by simp (maxSteps := 1000000) (disch := omega) only [go_sem])) ?_
  repeat' (first | refine cw_assoc ?_ | refine cw_skips ?_ | refine cw_labels ?_ | ((first | refine cw_step (fun K hK => ?_) | refine cw_last (fun K hK => ?_) | refine cw_stepD (by decide +kernel) (by decide +kernel) (fun K hK => ?_) | refine cw_lastD (by decide +kernel) (by decide +kernel) (fun K hK => ?_) | refine rgB_some ?_ | refine call_a (h1) ?_ | refine gcall_a (fun hg => h1) ?_); (try simp (maxSteps := 1000000) (disch := omega) only [go_sem]); (repeat' (refine And.intro ?_ ?_)); (all_goals first | (refine hK _ ?_; clear hK K) | exact auto_cl | skip)) | ((first | apply cw_ite | apply cw_iteN); (case hf => rfl); (case hc => simp (maxSteps := 1000000) (disch := omega) only [go_sem]; rfl); (all_goals first | (intro hb; (try simp only [hbs] at hb)) | skip)) | exact atN_intro | ((first | apply cw_if | apply cw_cond); (case hc => simp (maxSteps := 1000000) (disch := omega) only [go_sem]; rfl); (all_goals (intro hb; (try simp only [hbs] at hb); try (exfalso; omega)))) | (refine cw_blocks (fun KB hB => ?_)) | (refine cw_block ?_) | ((first | refine cw_exits ?_ | refine cw_exit ?_ | refine cw_skip ?_); simp (maxSteps := 1000000) (disch := omega) only [go_sem]) | (refine hB _ ?_; clear hB KB) | (refine exit_by (S := Sg) (by assumption) ?_) | ((first | refine cw_rets ?_ | refine cw_ret ?_); simp (maxSteps := 1000000) (disch := omega) only [go_sem]; (try clear hB KB); (try clear hK K)))
end Go.Proofs.YtkjdljcbpbeehaaDoor

/- The sanity checks of the two laws. -/
set_option linter.unusedSimpArgs false
set_option linter.unusedVariables false
set_option maxRecDepth 8000
set_option maxHeartbeats 2000000
namespace Go.Proofs.YtkjdljcbpbeehaaDoor
open Go Go.SL
open Go.RowKit (wrap64)
attribute [local go_sem] Int.toNat_natCast rxE zerosB

def awO : Op := ⟨1, 0, 0, 0, 0, 0, 0, 255, 4, 1, false, false⟩
def awI (w : Int) (a : Int) : Image := solidOf w w ⟨0, 0, 0, a, a⟩
def aw26 : Script := ⟨8, ⟨0, 0, 1, 1⟩, 1, 1, [], [awI 2 9], [⟨2, 0, 0, 0, 0, 0, 0, 128, 12, 1, true, false⟩, awO, ⟨3, 0, 0, 0, 0, 0, 0, 0, 0, 0, false, false⟩]⟩
def aw26t : Script := ⟨8, ⟨0, 0, 1, 1⟩, 1, 1, [], [awI 2 9], [⟨1, 0, 0, 0, 0, 0, 0, 128, 12, 1, false, false⟩]⟩
theorem aw26_len : ScriptLen aw26 := ⟨by decide, by decide, by decide⟩
theorem aw26_ok : VOps aw26 := vops_of (by decide +kernel)
theorem one_lt {P : Nat → Prop} (h : P 0) : ∀ i, i < 1 → P i := fun i hi => by
  have : i = 0 := by omega
  subst this; exact h
theorem aw26_sml : Sml aw26 := ⟨by decide, by decide, by decide, one_lt (by decide), one_lt (by decide), one_lt (by decide), one_lt (by decide), one_lt (by decide)⟩
theorem aw26_next : nextS aw26 (9, 0) = aw26t := by decide +kernel
theorem awake26_sp : Pure Sg 15 [] (fun x => x = .b (B true)) := by
  have h1 := Apply_sp aw26 aw26_ok aw26_len aw26_sml (9, 0) (by decide +kernel) (by decide +kernel)
  rw [aw26_next] at h1
  have h2 := Applies_sp aw26 aw26_ok aw26_len 9 0
  rw [show apM aw26 9 0 = true by decide +kernel] at h2
  have h3 := Applies_sp aw26 aw26_ok aw26_len 1 1
  rw [show apM aw26 1 1 = false by decide +kernel] at h3
  have h4 := count_sp aw26 aw26_len
  rw [show cntM aw26.ops = 2 by decide +kernel] at h4
  refine pure_of Tryd.func15 rfl (rs := [.tmp 0]) rfl rfl mixed (by decide +kernel) (Nat.le_of_ble_eq_true rfl) (argsLt_mem (by simp (maxSteps := 1000000) (disch := omega) only [go_sem])) ?_
  repeat' (first | refine cw_assoc ?_ | refine cw_skips ?_ | refine cw_labels ?_ | ((first | (with_reducible refine cw_stepV (id := 1) (fun K hW => ?_)) | refine cw_step (fun K hK => ?_) | refine cw_last (fun K hK => ?_) | refine cw_stepD (by decide +kernel) (by decide +kernel) (fun K hK => ?_) | refine cw_lastD (by decide +kernel) (by decide +kernel) (fun K hK => ?_) | refine rgB_some ?_); (try simp (maxSteps := 1000000) (disch := omega) only [go_sem]); (repeat' (refine And.intro ?_ ?_)); (all_goals first | (refine hK _ ?_; clear hK K) | exact auto_cl | skip)) | ((first | apply cw_ite | apply cw_iteN); (case hf => rfl); (case hc => simp (maxSteps := 1000000) (disch := omega) only [go_sem]; rfl); (all_goals first | (intro hb; (try simp only [hbs] at hb)) | skip)) | exact atN_intro | ((first | apply cw_if | apply cw_cond); (case hc => simp (maxSteps := 1000000) (disch := omega) only [go_sem]; rfl); (all_goals (intro hb; (try simp only [hbs] at hb); try (exfalso; omega)))) | (refine cw_blocks (fun KB hB => ?_)) | (refine cw_block ?_) | ((first | refine cw_exits ?_ | refine cw_exit ?_ | refine cw_skip ?_); simp (maxSteps := 1000000) (disch := omega) only [go_sem]) | (refine hB _ ?_; clear hB KB) | (refine exit_by (S := Sg) (by assumption) ?_) | ((first | refine cw_rets ?_ | refine cw_ret ?_); simp (maxSteps := 1000000) (disch := omega) only [go_sem]; (try clear hB KB); (try clear hK K)))
  refine hW _ (mkSt [(0, .b (B false)), (1, .b (.c (.ptr 1 0)))] [(1, .fix ((scriptE aw26).map CV.p))] 2) ?_ ?_
  · refine le_of [(1, some 2)] rfl (by decide) rfl ?_ ?_
    all_goals simp (maxSteps := 1000000) (disch := omega) only [go_sem]
    repeat' (refine And.intro ?_ ?_)
    all_goals first | rfl | omega | exact .inl rfl | trivial | skip
    · exact nil_le
    · intro i hi j hj
      have hi0 : i = 0 := by omega
      subst hi0
      have hivl : j = 0 ∨ j = 1 ∨ j = 2 ∨ j = 3 ∨ j = 4 ∨ j = 5 ∨ j = 6 ∨ j = 7 ∨ j = 8 ∨ j = 9 ∨ j = 10 ∨ j = 11 ∨ j = 12 ∨ j = 13 ∨ j = 14 ∨ j = 15 ∨ j = 16 ∨ j = 17 ∨ j = 18 ∨ j = 19 ∨ j = 20 ∨ j = 21 ∨ j = 22 ∨ j = 23 ∨ j = 24 ∨ j = 25 ∨ j = 26 ∨ j = 27 := by omega
      rcases hivl with rfl | rfl | rfl | rfl | rfl | rfl | rfl | rfl | rfl | rfl | rfl | rfl | rfl | rfl | rfl | rfl | rfl | rfl | rfl | rfl | rfl | rfl | rfl | rfl | rfl | rfl | rfl | rfl <;> (first | exact fun _ _ _ h => h | exact nil_le)
    · intro i hi j hj
      have hi3 : i = 0 ∨ i = 1 ∨ i = 2 := by omega
      rcases hi3 with rfl | rfl | rfl
      · skip
        have hivl : j = 0 ∨ j = 1 ∨ j = 2 ∨ j = 3 ∨ j = 4 ∨ j = 5 ∨ j = 6 ∨ j = 7 ∨ j = 8 ∨ j = 9 ∨ j = 10 ∨ j = 11 := by omega
        rcases hivl with rfl | rfl | rfl | rfl | rfl | rfl | rfl | rfl | rfl | rfl | rfl | rfl <;> exact fun _ _ _ h => h
      · skip
        have hivl : j = 0 ∨ j = 1 ∨ j = 2 ∨ j = 3 ∨ j = 4 ∨ j = 5 ∨ j = 6 ∨ j = 7 ∨ j = 8 ∨ j = 9 ∨ j = 10 ∨ j = 11 := by omega
        rcases hivl with rfl | rfl | rfl | rfl | rfl | rfl | rfl | rfl | rfl | rfl | rfl | rfl <;> exact fun _ _ _ h => h
      · skip
        have hivl : j = 0 ∨ j = 1 ∨ j = 2 ∨ j = 3 ∨ j = 4 ∨ j = 5 ∨ j = 6 ∨ j = 7 ∨ j = 8 ∨ j = 9 ∨ j = 10 ∨ j = 11 := by omega
        rcases hivl with rfl | rfl | rfl | rfl | rfl | rfl | rfl | rfl | rfl | rfl | rfl | rfl <;> exact fun _ _ _ h => h
  clear hW
  repeat' (first | refine cw_assoc ?_ | refine cw_skips ?_ | refine cw_labels ?_ | ((first | refine cw_step (fun K hK => ?_) | refine cw_last (fun K hK => ?_) | refine cw_stepD (by decide +kernel) (by decide +kernel) (fun K hK => ?_) | refine cw_lastD (by decide +kernel) (by decide +kernel) (fun K hK => ?_) | refine rgB_some ?_ | refine call_a (h1) ?_ | refine gcall_a (fun hg => h1) ?_ | refine call_a (h2) ?_ | refine gcall_a (fun hg => h2) ?_ | refine call_a (h3) ?_ | refine gcall_a (fun hg => h3) ?_ | refine call_a (h4) ?_ | refine gcall_a (fun hg => h4) ?_); (try simp (maxSteps := 1000000) (disch := omega) only [go_sem]); (repeat' (refine And.intro ?_ ?_)); (all_goals first | (refine hK _ ?_; clear hK K) | exact auto_cl | skip)) | ((first | apply cw_ite | apply cw_iteN); (case hf => rfl); (case hc => simp (maxSteps := 1000000) (disch := omega) only [go_sem]; rfl); (all_goals first | (intro hb; (try simp only [hbs] at hb)) | skip)) | exact atN_intro | ((first | apply cw_if | apply cw_cond); (case hc => simp (maxSteps := 1000000) (disch := omega) only [go_sem]; rfl); (all_goals (intro hb; (try simp only [hbs] at hb); try (exfalso; omega)))) | (refine cw_blocks (fun KB hB => ?_)) | (refine cw_block ?_) | ((first | refine cw_exits ?_ | refine cw_exit ?_ | refine cw_skip ?_); simp (maxSteps := 1000000) (disch := omega) only [go_sem]) | (refine hB _ ?_; clear hB KB) | (refine exit_by (S := Sg) (by assumption) ?_) | ((first | refine cw_rets ?_ | refine cw_ret ?_); simp (maxSteps := 1000000) (disch := omega) only [go_sem]; (try clear hB KB); (try clear hK K)))
  exact vb (by decide +kernel)
def aw27 : Script := ⟨8, ⟨0, 0, 2, 2⟩, 1, 1, [], [awI 2 255], [awO, awO, awO]⟩
def aw27b : Script := ⟨8, ⟨0, 0, 2, 2⟩, 1, 1, [], [awI 2 255], [⟨1, 0, 0, 0, 0, 0, 0, 255, 1, 1, false, false⟩]⟩
theorem awake27_sp : Pure Sg 21 [] (fun x => x = .b (B true)) := by
  have s1 : Sml aw27 := ⟨by decide, by decide, by decide, one_lt (by decide), one_lt (by decide), one_lt (by decide), one_lt (by decide), one_lt (by decide)⟩
  have s2 : Sml aw27b := ⟨by decide, by decide, by decide, one_lt (by decide), one_lt (by decide), one_lt (by decide), one_lt (by decide), one_lt (by decide)⟩
  have l1 : ScriptLen aw27 := ⟨by decide, by decide, by decide⟩
  have l2 : ScriptLen aw27b := ⟨by decide, by decide, by decide⟩
  have h1 := Simplify_sp aw27 l1 s1 (by decide)
  rw [show (runM aw27).1 = [awO] by decide +kernel] at h1
  have h2 := Normal_sp aw27b l2
  rw [show decide (redM aw27b = []) = true by decide +kernel] at h2
  have h3 := Steps_sp aw27b l2 s2 (by decide)
  rw [show (runM aw27b).2 = [] by decide +kernel] at h3
  refine pure_of Tryd.func21 rfl (rs := [.tmp 0]) rfl rfl mixed (by decide +kernel) (Nat.le_of_ble_eq_true rfl) (argsLt_mem (by simp (maxSteps := 1000000) (disch := omega) only [go_sem])) ?_
  repeat' (first | refine cw_assoc ?_ | refine cw_skips ?_ | refine cw_labels ?_ | ((first | (with_reducible refine cw_stepV (id := 2) (fun K hW => ?_)) | refine cw_step (fun K hK => ?_) | refine cw_last (fun K hK => ?_) | refine cw_stepD (by decide +kernel) (by decide +kernel) (fun K hK => ?_) | refine cw_lastD (by decide +kernel) (by decide +kernel) (fun K hK => ?_) | refine rgB_some ?_); (try simp (maxSteps := 1000000) (disch := omega) only [go_sem]); (repeat' (refine And.intro ?_ ?_)); (all_goals first | (refine hK _ ?_; clear hK K) | exact auto_cl | skip)) | ((first | apply cw_ite | apply cw_iteN); (case hf => rfl); (case hc => simp (maxSteps := 1000000) (disch := omega) only [go_sem]; rfl); (all_goals first | (intro hb; (try simp only [hbs] at hb)) | skip)) | exact atN_intro | ((first | apply cw_if | apply cw_cond); (case hc => simp (maxSteps := 1000000) (disch := omega) only [go_sem]; rfl); (all_goals (intro hb; (try simp only [hbs] at hb); try (exfalso; omega)))) | (refine cw_blocks (fun KB hB => ?_)) | (refine cw_block ?_) | ((first | refine cw_exits ?_ | refine cw_exit ?_ | refine cw_skip ?_); simp (maxSteps := 1000000) (disch := omega) only [go_sem]) | (refine hB _ ?_; clear hB KB) | (refine exit_by (S := Sg) (by assumption) ?_) | ((first | refine cw_rets ?_ | refine cw_ret ?_); simp (maxSteps := 1000000) (disch := omega) only [go_sem]; (try clear hB KB); (try clear hK K)))
  refine hW _ (mkSt [(0, .b (B false)), (1, .b (.c (.ptr 1 0))), (2, .b (.c (.ptr 2 0)))] [(1, .fix ((opE awO).map CV.p)), (2, .fix ((scriptE aw27).map CV.p))] 3) ?_ ?_
  · refine le_of [(1, some 0), (2, some 3)] rfl (by decide) rfl ?_ ?_
    all_goals simp (maxSteps := 1000000) (disch := omega) only [go_sem]
    repeat' (refine And.intro ?_ ?_)
    all_goals first | rfl | omega | exact .inl rfl | trivial | skip
    · exact nil_le
    · intro i hi j hj
      have hi0 : i = 0 := by omega
      subst hi0
      have hivl : j = 0 ∨ j = 1 ∨ j = 2 ∨ j = 3 ∨ j = 4 ∨ j = 5 ∨ j = 6 ∨ j = 7 ∨ j = 8 ∨ j = 9 ∨ j = 10 ∨ j = 11 ∨ j = 12 ∨ j = 13 ∨ j = 14 ∨ j = 15 ∨ j = 16 ∨ j = 17 ∨ j = 18 ∨ j = 19 ∨ j = 20 ∨ j = 21 ∨ j = 22 ∨ j = 23 ∨ j = 24 ∨ j = 25 ∨ j = 26 ∨ j = 27 := by omega
      rcases hivl with rfl | rfl | rfl | rfl | rfl | rfl | rfl | rfl | rfl | rfl | rfl | rfl | rfl | rfl | rfl | rfl | rfl | rfl | rfl | rfl | rfl | rfl | rfl | rfl | rfl | rfl | rfl | rfl <;> (first | exact fun _ _ _ h => h | exact nil_le)
    · intro i hi j hj
      have hi3 : i = 0 ∨ i = 1 ∨ i = 2 := by omega
      rcases hi3 with rfl | rfl | rfl
      · skip
        have hivl : j = 0 ∨ j = 1 ∨ j = 2 ∨ j = 3 ∨ j = 4 ∨ j = 5 ∨ j = 6 ∨ j = 7 ∨ j = 8 ∨ j = 9 ∨ j = 10 ∨ j = 11 := by omega
        rcases hivl with rfl | rfl | rfl | rfl | rfl | rfl | rfl | rfl | rfl | rfl | rfl | rfl <;> exact fun _ _ _ h => h
      · skip
        have hivl : j = 0 ∨ j = 1 ∨ j = 2 ∨ j = 3 ∨ j = 4 ∨ j = 5 ∨ j = 6 ∨ j = 7 ∨ j = 8 ∨ j = 9 ∨ j = 10 ∨ j = 11 := by omega
        rcases hivl with rfl | rfl | rfl | rfl | rfl | rfl | rfl | rfl | rfl | rfl | rfl | rfl <;> exact fun _ _ _ h => h
      · skip
        have hivl : j = 0 ∨ j = 1 ∨ j = 2 ∨ j = 3 ∨ j = 4 ∨ j = 5 ∨ j = 6 ∨ j = 7 ∨ j = 8 ∨ j = 9 ∨ j = 10 ∨ j = 11 := by omega
        rcases hivl with rfl | rfl | rfl | rfl | rfl | rfl | rfl | rfl | rfl | rfl | rfl | rfl <;> exact fun _ _ _ h => h
  clear hW
  repeat' (first | refine cw_assoc ?_ | refine cw_skips ?_ | refine cw_labels ?_ | ((first | (with_reducible refine cw_stepV (id := 4) (fun K hW => ?_)) | refine cw_step (fun K hK => ?_) | refine cw_last (fun K hK => ?_) | refine cw_stepD (by decide +kernel) (by decide +kernel) (fun K hK => ?_) | refine cw_lastD (by decide +kernel) (by decide +kernel) (fun K hK => ?_) | refine rgB_some ?_ | refine call_a (h1) ?_ | refine gcall_a (fun hg => h1) ?_); (try simp (maxSteps := 1000000) (disch := omega) only [go_sem]); (repeat' (refine And.intro ?_ ?_)); (all_goals first | (refine hK _ ?_; clear hK K) | exact auto_cl | skip)) | ((first | apply cw_ite | apply cw_iteN); (case hf => rfl); (case hc => simp (maxSteps := 1000000) (disch := omega) only [go_sem]; rfl); (all_goals first | (intro hb; (try simp only [hbs] at hb)) | skip)) | exact atN_intro | ((first | apply cw_if | apply cw_cond); (case hc => simp (maxSteps := 1000000) (disch := omega) only [go_sem]; rfl); (all_goals (intro hb; (try simp only [hbs] at hb); try (exfalso; omega)))) | (refine cw_blocks (fun KB hB => ?_)) | (refine cw_block ?_) | ((first | refine cw_exits ?_ | refine cw_exit ?_ | refine cw_skip ?_); simp (maxSteps := 1000000) (disch := omega) only [go_sem]) | (refine hB _ ?_; clear hB KB) | (refine exit_by (S := Sg) (by assumption) ?_) | ((first | refine cw_rets ?_ | refine cw_ret ?_); simp (maxSteps := 1000000) (disch := omega) only [go_sem]; (try clear hB KB); (try clear hK K)))
  refine hW _ (mkSt [(0, .b (B false)), (1, .b (.c (.ptr 1 0))), (2, .b (.c (.ptr 2 0))), (3, .b (.c (.ptr 3 0)))] [(1, .fix ((opE awO).map CV.p)), (2, .fix ((scriptE aw27b).map CV.p)), (3, .fix ((scriptE (withOps aw27 [awO])).map CV.p))] 4) ?_ ?_
  · refine le_of [(1, some 1), (2, some 2), (3, some 3)] rfl (by decide) rfl ?_ ?_
    all_goals simp (maxSteps := 1000000) (disch := omega) only [go_sem]
    repeat' (refine And.intro ?_ ?_)
    all_goals first | rfl | omega | exact .inl rfl | trivial | skip
    intro i hi j hj
    have hi0 : i = 0 := by omega
    subst hi0
    have hivl : j = 0 ∨ j = 1 ∨ j = 2 ∨ j = 3 ∨ j = 4 ∨ j = 5 ∨ j = 6 ∨ j = 7 ∨ j = 8 ∨ j = 9 ∨ j = 10 ∨ j = 11 := by omega
    rcases hivl with rfl | rfl | rfl | rfl | rfl | rfl | rfl | rfl | rfl | rfl | rfl | rfl <;> exact fun _ _ _ h => h
  clear hW
  repeat' (first | refine cw_assoc ?_ | refine cw_skips ?_ | refine cw_labels ?_ | ((first | refine cw_step (fun K hK => ?_) | refine cw_last (fun K hK => ?_) | refine cw_stepD (by decide +kernel) (by decide +kernel) (fun K hK => ?_) | refine cw_lastD (by decide +kernel) (by decide +kernel) (fun K hK => ?_) | refine rgB_some ?_ | refine call_a (h2) ?_ | refine gcall_a (fun hg => h2) ?_ | refine call_a (h3) ?_ | refine gcall_a (fun hg => h3) ?_); (try simp (maxSteps := 1000000) (disch := omega) only [go_sem]); (repeat' (refine And.intro ?_ ?_)); (all_goals first | (refine hK _ ?_; clear hK K) | exact auto_cl | skip)) | ((first | apply cw_ite | apply cw_iteN); (case hf => rfl); (case hc => simp (maxSteps := 1000000) (disch := omega) only [go_sem]; rfl); (all_goals first | (intro hb; (try simp only [hbs] at hb)) | skip)) | exact atN_intro | ((first | apply cw_if | apply cw_cond); (case hc => simp (maxSteps := 1000000) (disch := omega) only [go_sem]; rfl); (all_goals (intro hb; (try simp only [hbs] at hb); try (exfalso; omega)))) | (refine cw_blocks (fun KB hB => ?_)) | (refine cw_block ?_) | ((first | refine cw_exits ?_ | refine cw_exit ?_ | refine cw_skip ?_); simp (maxSteps := 1000000) (disch := omega) only [go_sem]) | (refine hB _ ?_; clear hB KB) | (refine exit_by (S := Sg) (by assumption) ?_) | ((first | refine cw_rets ?_ | refine cw_ret ?_); simp (maxSteps := 1000000) (disch := omega) only [go_sem]; (try clear hB KB); (try clear hK K)))
  exact vb (by decide +kernel)
end Go.Proofs.YtkjdljcbpbeehaaDoor
