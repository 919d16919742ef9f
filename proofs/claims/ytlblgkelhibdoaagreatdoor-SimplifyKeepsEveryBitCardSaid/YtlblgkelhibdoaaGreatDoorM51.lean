/- Part of the proof: E7. -/
import Derived.Test.YtlblgkelhibdoaaGreatDoorM50
set_option linter.unusedSimpArgs false
set_option linter.unusedVariables false
set_option maxHeartbeats 2000000
set_option maxRecDepth 16000
namespace Go.Proofs.YtlblgkelhibdoaaGreatDoor
open Go Go.SL
open Go.RowKit (wrap64)
def rxE (r : Rx) : List PV := [PI r.1, PI r.2]
attribute [local go_sem] Int.toNat_natCast vP vf0 vf1 vf2 vf3 vf4 vf5 vf6 vf7 vf8 vf9 vf10 vf11 vf12 vf13 vf14 rxE tiF1 tiF2 tiF3 flR0 flR1 elR
theorem rxAt_succ (s : Script) (i n : Nat) : rxAt s i (n + 1) = rxAt s i n ++ if apM s n i = true then [((n : Int), (i : Int))] else [] := by
 rw [rxAt, List.range_succ, List.filter_append, List.map_append]
 congr 1
 by_cases h : apM s n i = true
 ·rw [if_pos h]; simp only [List.filter_cons, h, if_true, List.filter_nil]; rfl
 ·rw [if_neg h]; simp only [List.filter_cons, h, List.filter_nil]; rfl
theorem rxTo_succ (s : Script) (i : Nat) : rxTo s (i + 1) = rxTo s i ++ rxAt s i 10 := by
 rw [rxTo, List.range_succ, List.flatMap_append, List.flatMap_cons, List.flatMap_nil, List.append_nil]; rfl
theorem rx_snoc {l : List Rx} {x : Rx} {g : Nat → Nat → PV} (hg : ∀ j, j < 2 → g 0 j = (rxE x).getD j .any) : ∀ a, a < l.length + 1 → ∀ j, j < 2 → PV.le (appF l.length (fnOf rxE l) g a j) (fnOf rxE (l ++ [x]) a j) := fun a ha j hj => by
 have e : appF l.length (fnOf rxE l) g a j = fnOf rxE (l ++ [x]) a j := by
  unfold appF
  by_cases h : a < l.length
  ·rw [if_pos h]
   exact congrArg (fun o => (rxE o).getD j .any) (show l.getD a default = (l ++ [x]).getD a default by rw [List.getD_eq_getElem?_getD, List.getD_eq_getElem?_getD, List.getElem?_append_left h])
  ·have ea : a = l.length := by omega
   subst ea
   rw [if_neg h, Nat.sub_self, hg j hj]
   exact congrArg (fun o => (rxE o).getD j .any) (show x = (l ++ [x]).getD l.length default by rw [List.getD_eq_getElem?_getD, List.getElem?_append_right (Nat.le_refl _), Nat.sub_self]; rfl)
 rw [e]
 exact fun _ _ _ h => h
theorem Rewrite_yes (s : Script) (V : VOps s) (hs : ScriptLen s) (r : Rx) (ha : apM s r.1 r.2 = true) : Pure Sg 54 [ag (scriptE s), ag (rxE r)] (fun x => x = .tup [.c (.p (opL (rwM s r.1.toNat r.2.toNat))), I 0]) := by
 have hn := V.cnt
 have h1 := look_spec s V hs (ops_ok V)
 have h2 := applies_sp s V hs r.1 r.2
 rw [ha] at h2
 obtain ⟨n, i⟩ := r
 dsimp only at ha h2 ⊢
 obtain ⟨⟨g1, g2⟩, g3, g4, g5, g6⟩ := apM_lt ha
 obtain ⟨k, rfl⟩ := Int.eq_ofNat_of_zero_le g3
 have hi : k < s.ops.length := g4
 have hv : n = 1 ∨ n = 2 ∨ n = 3 ∨ n = 4 ∨ n = 5 ∨ n = 6 ∨ n = 7 ∨ n = 8 ∨ n = 9 := by omega
 rcases hv with rfl | rfl | rfl | rfl | rfl | rfl | rfl | rfl | rfl
 ·have ht : tblF 1 1 = fnV 95 := rfl
  refine fn_a Tryz.func54 [.tmp 4, .tmp 5] ?_
  repeat' (first | refine un_a ?_ | ((first | refine st_a (fun K hK => ?_) | refine call_c (h1) ?_ | refine call_c (h2) ?_ | refine call_c (table_sp) ?_); and_intros; (all_goals first | (refine hK _ ?_; clear hK K) | exact auto_cl | skip)) | (refine if_a (fun hb => ?_) (fun hb => ?_); all_goals try exact bad_a) | (refine ret_a ?_; (try clear hB KB); (try clear hK K)))
  ·exact absurd hb (by decide)
  ·simp (maxSteps := 1000000) (disch := omega) only [go_sem, ht, fnV, chgV]
   refine call_a (removed_sp s V k hi) ?_
   simp (maxSteps := 1000000) (disch := omega) only [go_sem]
   refine hK _ ?_
   clear hK
   repeat' (refine ret_a ?_; (try clear hB KB); (try clear hK K))
   rfl
 ·have ht : tblF 2 1 = fnV 95 := rfl
  refine fn_a Tryz.func54 [.tmp 4, .tmp 5] ?_
  repeat' (first | refine un_a ?_ | ((first | refine st_a (fun K hK => ?_) | refine call_c (h1) ?_ | refine call_c (h2) ?_ | refine call_c (table_sp) ?_); and_intros; (all_goals first | (refine hK _ ?_; clear hK K) | exact auto_cl | skip)) | (refine if_a (fun hb => ?_) (fun hb => ?_); all_goals try exact bad_a) | (refine ret_a ?_; (try clear hB KB); (try clear hK K)))
  ·exact absurd hb (by decide)
  ·simp (maxSteps := 1000000) (disch := omega) only [go_sem, ht, fnV, chgV]
   refine call_a (removed_sp s V k hi) ?_
   simp (maxSteps := 1000000) (disch := omega) only [go_sem]
   refine hK _ ?_
   clear hK
   repeat' (refine ret_a ?_; (try clear hB KB); (try clear hK K))
   rfl
 ·have ht : tblF 3 1 = fnV 95 := rfl
  refine fn_a Tryz.func54 [.tmp 4, .tmp 5] ?_
  repeat' (first | refine un_a ?_ | ((first | refine st_a (fun K hK => ?_) | refine call_c (h1) ?_ | refine call_c (h2) ?_ | refine call_c (table_sp) ?_); and_intros; (all_goals first | (refine hK _ ?_; clear hK K) | exact auto_cl | skip)) | (refine if_a (fun hb => ?_) (fun hb => ?_); all_goals try exact bad_a) | (refine ret_a ?_; (try clear hB KB); (try clear hK K)))
  ·exact absurd hb (by decide)
  ·simp (maxSteps := 1000000) (disch := omega) only [go_sem, ht, fnV, chgV]
   refine call_a (removed_sp s V k hi) ?_
   simp (maxSteps := 1000000) (disch := omega) only [go_sem]
   refine hK _ ?_
   clear hK
   repeat' (refine ret_a ?_; (try clear hB KB); (try clear hK K))
   rfl
 ·have ht : tblF 4 1 = fnV 95 := rfl
  refine fn_a Tryz.func54 [.tmp 4, .tmp 5] ?_
  repeat' (first | refine un_a ?_ | ((first | refine st_a (fun K hK => ?_) | refine call_c (h1) ?_ | refine call_c (h2) ?_ | refine call_c (table_sp) ?_); and_intros; (all_goals first | (refine hK _ ?_; clear hK K) | exact auto_cl | skip)) | (refine if_a (fun hb => ?_) (fun hb => ?_); all_goals try exact bad_a) | (refine ret_a ?_; (try clear hB KB); (try clear hK K)))
  ·exact absurd hb (by decide)
  ·simp (maxSteps := 1000000) (disch := omega) only [go_sem, ht, fnV, chgV]
   refine call_a (removed_sp s V k hi) ?_
   simp (maxSteps := 1000000) (disch := omega) only [go_sem]
   refine hK _ ?_
   clear hK
   repeat' (refine ret_a ?_; (try clear hB KB); (try clear hK K))
   rfl
 ·have ht : tblF 5 1 = chgV 101 := rfl
  refine fn_a Tryz.func54 [.tmp 4, .tmp 5] ?_
  repeat' (first | refine un_a ?_ | ((first | refine st_a (fun K hK => ?_) | refine call_c (h1) ?_ | refine call_c (h2) ?_ | refine call_c (table_sp) ?_); and_intros; (all_goals first | (refine hK _ ?_; clear hK K) | exact auto_cl | skip)) | (refine if_a (fun hb => ?_) (fun hb => ?_); all_goals try exact bad_a) | (refine ret_a ?_; (try clear hB KB); (try clear hK K)))
  ·exact absurd hb (by decide)
  ·simp (maxSteps := 1000000) (disch := omega) only [go_sem, ht, fnV, chgV]
   refine call_a (args := [vP s, I k, .c (.ipt 1 (fun _ => fnV 101) 0)]) (chg1_sp s V k hi) ?_
   simp (maxSteps := 1000000) (disch := omega) only [go_sem]
   refine hK _ ?_
   clear hK
   repeat' (refine ret_a ?_; (try clear hB KB); (try clear hK K))
   rfl
 ·have ht : tblF 6 1 = chgV 103 := rfl
  refine fn_a Tryz.func54 [.tmp 4, .tmp 5] ?_
  repeat' (first | refine un_a ?_ | ((first | refine st_a (fun K hK => ?_) | refine call_c (h1) ?_ | refine call_c (h2) ?_ | refine call_c (table_sp) ?_); and_intros; (all_goals first | (refine hK _ ?_; clear hK K) | exact auto_cl | skip)) | (refine if_a (fun hb => ?_) (fun hb => ?_); all_goals try exact bad_a) | (refine ret_a ?_; (try clear hB KB); (try clear hK K)))
  ·exact absurd hb (by decide)
  ·simp (maxSteps := 1000000) (disch := omega) only [go_sem, ht, fnV, chgV]
   refine call_a (args := [vP s, I k, .c (.ipt 1 (fun _ => fnV 103) 0)]) (chg2_sp s V k hi) ?_
   simp (maxSteps := 1000000) (disch := omega) only [go_sem]
   refine hK _ ?_
   clear hK
   repeat' (refine ret_a ?_; (try clear hB KB); (try clear hK K))
   rfl
 ·have ht : tblF 7 1 = chgV 105 := rfl
  refine fn_a Tryz.func54 [.tmp 4, .tmp 5] ?_
  repeat' (first | refine un_a ?_ | ((first | refine st_a (fun K hK => ?_) | refine call_c (h1) ?_ | refine call_c (h2) ?_ | refine call_c (table_sp) ?_); and_intros; (all_goals first | (refine hK _ ?_; clear hK K) | exact auto_cl | skip)) | (refine if_a (fun hb => ?_) (fun hb => ?_); all_goals try exact bad_a) | (refine ret_a ?_; (try clear hB KB); (try clear hK K)))
  ·exact absurd hb (by decide)
  ·simp (maxSteps := 1000000) (disch := omega) only [go_sem, ht, fnV, chgV]
   refine call_a (args := [vP s, I k, .c (.ipt 1 (fun _ => fnV 105) 0)]) (chg3_sp s V k hi) ?_
   simp (maxSteps := 1000000) (disch := omega) only [go_sem]
   refine hK _ ?_
   clear hK
   repeat' (refine ret_a ?_; (try clear hB KB); (try clear hK K))
   rfl
 ·have ht : tblF 8 1 = chgV 107 := rfl
  refine fn_a Tryz.func54 [.tmp 4, .tmp 5] ?_
  repeat' (first | refine un_a ?_ | ((first | refine st_a (fun K hK => ?_) | refine call_c (h1) ?_ | refine call_c (h2) ?_ | refine call_c (table_sp) ?_); and_intros; (all_goals first | (refine hK _ ?_; clear hK K) | exact auto_cl | skip)) | (refine if_a (fun hb => ?_) (fun hb => ?_); all_goals try exact bad_a) | (refine ret_a ?_; (try clear hB KB); (try clear hK K)))
  ·exact absurd hb (by decide)
  ·simp (maxSteps := 1000000) (disch := omega) only [go_sem, ht, fnV, chgV]
   refine call_a (args := [vP s, I k, .c (.ipt 1 (fun _ => fnV 107) 0)]) (chg4_sp s V k hi) ?_
   simp (maxSteps := 1000000) (disch := omega) only [go_sem]
   refine hK _ ?_
   clear hK
   repeat' (refine ret_a ?_; (try clear hB KB); (try clear hK K))
   rfl
 ·have ht : tblF 9 1 = fnV 109 := rfl
  have hu : (opAt s.ops k).kind = 2 ∧ 1 ≤ kidsM s.ops k := by
   have g6 : unwM s k = true := g6
   simp only [unwM, Bool.and_eq_true, decide_eq_true_eq] at g6
   exact ⟨g6.1.1.1, by omega⟩
  refine fn_a Tryz.func54 [.tmp 4, .tmp 5] ?_
  repeat' (first | refine un_a ?_ | ((first | refine st_a (fun K hK => ?_) | refine call_c (h1) ?_ | refine call_c (h2) ?_ | refine call_c (table_sp) ?_); and_intros; (all_goals first | (refine hK _ ?_; clear hK K) | exact auto_cl | skip)) | (refine if_a (fun hb => ?_) (fun hb => ?_); all_goals try exact bad_a) | (refine ret_a ?_; (try clear hB KB); (try clear hK K)))
  ·exact absurd hb (by decide)
  ·simp (maxSteps := 1000000) (disch := omega) only [go_sem, ht, fnV, chgV]
   refine call_a (unwrapped_sp s V k hi hu.1 hu.2) ?_
   simp (maxSteps := 1000000) (disch := omega) only [go_sem]
   refine hK _ ?_
   clear hK
   repeat' (refine ret_a ?_; (try clear hB KB); (try clear hK K))
   rfl
end Go.Proofs.YtlblgkelhibdoaaGreatDoor
