/- Part of the proof: E2L. -/
import Derived.Test.YtlblgkelhibdoaaGreatDoorM46
set_option linter.unusedSimpArgs false
set_option linter.unusedVariables false
set_option maxHeartbeats 2000000
set_option maxRecDepth 16000
namespace Go.Proofs.YtlblgkelhibdoaaGreatDoor
open Go Go.SL
open Go.RowKit (wrap64)
attribute [local go_sem] Int.toNat_natCast
def lookV (s : Script) : List CV := (scriptE s).map CV.p ++ [.p (PU (maxOf s.bits)), .p (natsF s.ops.length (endsM s.ops)), .own 2 s.ops.length, .own 3 s.ops.length, .own 4 s.ops.length]
attribute [local go_sem] lookV
theorem look_spec (s : Script) (V : VOps s) (hs : ScriptLen s) (he : (opsM s).1 = 0) : Pure Sg 49 [ag (scriptE s)] (fun x => x = .tup [vP s, B true]) := by
 have h1 := vops_spec s hs
 have h2 := tends_spec s V
 have hn := V.cnt
 have W := V.wf
 have hbits : ∃ mx : Int, mx = (if s.bits = 8 then 255 else if s.bits = 16 then 65535 else 0) := ⟨_, rfl⟩
 have h3 := sampleMax_spec s.bits
 refine pure_le ?_
 refine pure_ofO Tryz.func49 rfl (rs := [.tmp 2, .tmp 3]) rfl rfl mixed (by decide +kernel) (Nat.le_of_ble_eq_true rfl) (argsLt_mem (by simp (maxSteps := 1000000) (disch := omega) only [go_sem])) ?_
 repeat' (first | refine un_a ?_ | ((with_reducible refine cw_stepV (id := 6) (fun K hW => ?_)); (try simp (maxSteps := 1000000) (disch := omega) only [go_sem]); and_intros; (all_goals first | (refine hK _ ?_; clear hK K) | exact auto_cl | skip)) | ((first | refine st_a (fun K hK => ?_) | refine call_c (h1) ?_ | refine call_c (h2) ?_ | refine call_c (h3) ?_); and_intros; (all_goals first | (refine hK _ ?_; clear hK K) | exact auto_cl | skip)) | (refine if_a (fun hb => ?_) (fun hb => ?_); all_goals try exact bad_a))
 refine hW _ (mkSt [(1, .b (.c (.ptr 0 0))), (6, .b (.c (.ptr 1 0)))] [(0, .fix ((scriptE s).map CV.p)), (1, .fix ((scriptE s).map CV.p ++ [.p (PU (maxOf s.bits)), .p (natsF s.ops.length (endsM s.ops)), .p Nil, .p Nil, .p Nil]))] 2) ?_ ?_
 ·refine le_a [(1, some 1)] ?_ ?_
  and_intros
  all_goals first | exact le_cl | skip
 clear hW
 refine cw_stepR (id := 7) (.br 0 (.br 1 (.br 2 (.br 3 (.br 4 (.br 5 (.br 7 (.br 11 (.br 6 (.br 15 (.br 16 (.br 8 (.br 9 (.br 10 (.br 12 (.br 13 (.br 17 (.br 18 (.br 19 (.br 20 (.br 14 (.br 21 (.br 22 (.br 23 .leaf .nil) .nil) .nil) .nil) .nil) .nil) .nil) .nil) .nil) (.br 17 (.br 18 (.br 19 (.br 12 (.br 13 (.br 20 (.br 14 (.br 21 (.br 22 (.br 23 .leaf .nil) .nil) .nil) .nil) .nil) .nil) (.br 20 (.br 12 (.br 13 (.br 14 (.br 21 (.br 22 (.br 23 .leaf .nil) .nil) .nil) .nil) .nil) .nil) .nil)) .nil) .nil) .nil)) (.br 12 (.br 13 (.br 17 (.br 10 (.br 18 (.br 19 (.br 20 (.br 14 (.br 21 (.br 22 (.br 23 .leaf .nil) .nil) .nil) .nil) .nil) .nil) .nil) (.br 14 (.br 10 (.br 18 (.br 19 (.br 20 (.br 21 (.br 22 (.br 23 .leaf .nil) .nil) .nil) .nil) .nil) .nil) .nil) .nil)) .nil) .nil) (.br 17 (.br 10 (.br 18 (.br 19 (.br 12 (.br 13 (.br 20 (.br 14 (.br 21 (.br 22 (.br 23 .leaf .nil) .nil) .nil) .nil) .nil) .nil) (.br 20 (.br 12 (.br 13 (.br 14 (.br 21 (.br 22 (.br 23 .leaf .nil) .nil) .nil) .nil) .nil) .nil) .nil)) .nil) .nil) (.br 12 (.br 13 (.br 10 (.br 18 (.br 19 (.br 20 (.br 14 (.br 21 (.br 22 (.br 23 .leaf .nil) .nil) .nil) .nil) .nil) .nil) .nil) (.br 14 (.br 10 (.br 18 (.br 19 (.br 20 (.br 21 (.br 22 (.br 23 .leaf .nil) .nil) .nil) .nil) .nil) .nil) .nil) .nil)) .nil) .nil)) .nil))) .nil) (.br 12 (.br 13 (.br 8 (.br 9 (.br 17 (.br 10 (.br 18 (.br 19 (.br 20 (.br 14 (.br 21 (.br 22 (.br 23 .leaf .nil) .nil) .nil) .nil) .nil) .nil) .nil) (.br 14 (.br 10 (.br 18 (.br 19 (.br 20 (.br 21 (.br 22 (.br 23 .leaf .nil) .nil) .nil) .nil) .nil) .nil) .nil) .nil)) .nil) .nil) (.br 14 (.br 8 (.br 9 (.br 17 (.br 10 (.br 18 (.br 19 (.br 20 (.br 21 (.br 22 (.br 23 .leaf .nil) .nil) .nil) .nil) .nil) .nil) .nil) .nil) .nil) (.br 17 (.br 8 (.br 9 (.br 10 (.br 18 (.br 19 (.br 20 (.br 21 (.br 22 (.br 23 .leaf .nil) .nil) .nil) .nil) .nil) .nil) .nil) .nil) .nil) .nil)) (.br 17 (.br 8 (.br 9 (.br 10 (.br 18 (.br 19 (.br 20 (.br 14 (.br 21 (.br 22 (.br 23 .leaf .nil) .nil) .nil) .nil) .nil) .nil) .nil) (.br 14 (.br 10 (.br 18 (.br 19 (.br 20 (.br 21 (.br 22 (.br 23 .leaf .nil) .nil) .nil) .nil) .nil) .nil) .nil) .nil)) .nil) .nil) .nil))) .nil) (.br 17 (.br 8 (.br 9 (.br 10 (.br 18 (.br 19 (.br 12 (.br 13 (.br 20 (.br 14 (.br 21 (.br 22 (.br 23 .leaf .nil) .nil) .nil) .nil) .nil) .nil) (.br 20 (.br 12 (.br 13 (.br 14 (.br 21 (.br 22 (.br 23 .leaf .nil) .nil) .nil) .nil) .nil) .nil) .nil)) .nil) .nil) (.br 12 (.br 13 (.br 10 (.br 18 (.br 19 (.br 20 (.br 14 (.br 21 (.br 22 (.br 23 .leaf .nil) .nil) .nil) .nil) .nil) .nil) .nil) (.br 14 (.br 10 (.br 18 (.br 19 (.br 20 (.br 21 (.br 22 (.br 23 .leaf .nil) .nil) .nil) .nil) .nil) .nil) .nil) .nil)) .nil) .nil)) .nil) .nil) .nil))) .nil) .nil) (.br 8 (.br 9 (.br 6 (.br 15 (.br 16 (.br 10 (.br 12 (.br 13 (.br 17 (.br 18 (.br 19 (.br 20 (.br 14 (.br 21 (.br 22 (.br 23 .leaf .nil) .nil) .nil) .nil) .nil) .nil) .nil) .nil) .nil) (.br 17 (.br 18 (.br 19 (.br 12 (.br 13 (.br 20 (.br 14 (.br 21 (.br 22 (.br 23 .leaf .nil) .nil) .nil) .nil) .nil) .nil) (.br 20 (.br 12 (.br 13 (.br 14 (.br 21 (.br 22 (.br 23 .leaf .nil) .nil) .nil) .nil) .nil) .nil) .nil)) .nil) .nil) .nil)) (.br 12 (.br 13 (.br 17 (.br 10 (.br 18 (.br 19 (.br 20 (.br 14 (.br 21 (.br 22 (.br 23 .leaf .nil) .nil) .nil) .nil) .nil) .nil) .nil) (.br 14 (.br 10 (.br 18 (.br 19 (.br 20 (.br 21 (.br 22 (.br 23 .leaf .nil) .nil) .nil) .nil) .nil) .nil) .nil) .nil)) .nil) .nil) (.br 17 (.br 10 (.br 18 (.br 19 (.br 12 (.br 13 (.br 20 (.br 14 (.br 21 (.br 22 (.br 23 .leaf .nil) .nil) .nil) .nil) .nil) .nil) (.br 20 (.br 12 (.br 13 (.br 14 (.br 21 (.br 22 (.br 23 .leaf .nil) .nil) .nil) .nil) .nil) .nil) .nil)) .nil) .nil) (.br 12 (.br 13 (.br 10 (.br 18 (.br 19 (.br 20 (.br 14 (.br 21 (.br 22 (.br 23 .leaf .nil) .nil) .nil) .nil) .nil) .nil) .nil) (.br 14 (.br 10 (.br 18 (.br 19 (.br 20 (.br 21 (.br 22 (.br 23 .leaf .nil) .nil) .nil) .nil) .nil) .nil) .nil) .nil)) .nil) .nil)) .nil))) .nil) .nil) (.br 10 (.br 6 (.br 15 (.br 16 (.br 12 (.br 13 (.br 17 (.br 18 (.br 19 (.br 20 (.br 14 (.br 21 (.br 22 (.br 23 .leaf .nil) .nil) .nil) .nil) .nil) .nil) .nil) .nil) .nil) (.br 17 (.br 18 (.br 19 (.br 12 (.br 13 (.br 20 (.br 14 (.br 21 (.br 22 (.br 23 .leaf .nil) .nil) .nil) .nil) .nil) .nil) (.br 20 (.br 12 (.br 13 (.br 14 (.br 21 (.br 22 (.br 23 .leaf .nil) .nil) .nil) .nil) .nil) .nil) .nil)) .nil) .nil) .nil)) .nil) .nil) (.br 12 (.br 13 (.br 6 (.br 15 (.br 16 (.br 17 (.br 18 (.br 19 (.br 20 (.br 14 (.br 21 (.br 22 (.br 23 .leaf .nil) .nil) .nil) .nil) .nil) .nil) .nil) .nil) .nil) .nil) (.br 14 (.br 6 (.br 15 (.br 16 (.br 17 (.br 18 (.br 19 (.br 20 (.br 21 (.br 22 (.br 23 .leaf .nil) .nil) .nil) .nil) .nil) .nil) .nil) .nil) .nil) .nil) .nil)) .nil) .nil)) (.br 12 (.br 13 (.br 6 (.br 15 (.br 16 (.br 17 (.br 10 (.br 18 (.br 19 (.br 20 (.br 14 (.br 21 (.br 22 (.br 23 .leaf .nil) .nil) .nil) .nil) .nil) .nil) .nil) (.br 14 (.br 10 (.br 18 (.br 19 (.br 20 (.br 21 (.br 22 (.br 23 .leaf .nil) .nil) .nil) .nil) .nil) .nil) .nil) .nil)) .nil) .nil) .nil) (.br 10 (.br 6 (.br 15 (.br 16 (.br 17 (.br 18 (.br 19 (.br 20 (.br 14 (.br 21 (.br 22 (.br 23 .leaf .nil) .nil) .nil) .nil) .nil) .nil) .nil) .nil) .nil) .nil) (.br 14 (.br 6 (.br 15 (.br 16 (.br 17 (.br 18 (.br 19 (.br 20 (.br 21 (.br 22 (.br 23 .leaf .nil) .nil) .nil) .nil) .nil) .nil) .nil) .nil) .nil) .nil) .nil)) (.br 14 (.br 6 (.br 15 (.br 16 (.br 17 (.br 10 (.br 18 (.br 19 (.br 20 (.br 21 (.br 22 (.br 23 .leaf .nil) .nil) .nil) .nil) .nil) .nil) .nil) .nil) .nil) .nil) (.br 10 (.br 6 (.br 15 (.br 16 (.br 17 (.br 18 (.br 19 (.br 20 (.br 21 (.br 22 (.br 23 .leaf .nil) .nil) .nil) .nil) .nil) .nil) .nil) .nil) .nil) .nil) .nil)) .nil))) .nil) .nil))) .nil) (.br 12 (.br 13 (.br 6 (.br 15 (.br 16 (.br 8 (.br 9 (.br 17 (.br 10 (.br 18 (.br 19 (.br 20 (.br 14 (.br 21 (.br 22 (.br 23 .leaf .nil) .nil) .nil) .nil) .nil) .nil) .nil) (.br 14 (.br 10 (.br 18 (.br 19 (.br 20 (.br 21 (.br 22 (.br 23 .leaf .nil) .nil) .nil) .nil) .nil) .nil) .nil) .nil)) .nil) .nil) (.br 14 (.br 8 (.br 9 (.br 17 (.br 10 (.br 18 (.br 19 (.br 20 (.br 21 (.br 22 (.br 23 .leaf .nil) .nil) .nil) .nil) .nil) .nil) .nil) .nil) .nil) (.br 17 (.br 8 (.br 9 (.br 10 (.br 18 (.br 19 (.br 20 (.br 21 (.br 22 (.br 23 .leaf .nil) .nil) .nil) .nil) .nil) .nil) .nil) .nil) .nil) .nil)) (.br 17 (.br 8 (.br 9 (.br 10 (.br 18 (.br 19 (.br 20 (.br 14 (.br 21 (.br 22 (.br 23 .leaf .nil) .nil) .nil) .nil) .nil) .nil) .nil) (.br 14 (.br 10 (.br 18 (.br 19 (.br 20 (.br 21 (.br 22 (.br 23 .leaf .nil) .nil) .nil) .nil) .nil) .nil) .nil) .nil)) .nil) .nil) .nil))) .nil) .nil) (.br 8 (.br 9 (.br 6 (.br 15 (.br 16 (.br 17 (.br 10 (.br 18 (.br 19 (.br 20 (.br 14 (.br 21 (.br 22 (.br 23 .leaf .nil) .nil) .nil) .nil) .nil) .nil) .nil) (.br 14 (.br 10 (.br 18 (.br 19 (.br 20 (.br 21 (.br 22 (.br 23 .leaf .nil) .nil) .nil) .nil) .nil) .nil) .nil) .nil)) .nil) .nil) .nil) (.br 10 (.br 6 (.br 15 (.br 16 (.br 17 (.br 18 (.br 19 (.br 20 (.br 14 (.br 21 (.br 22 (.br 23 .leaf .nil) .nil) .nil) .nil) .nil) .nil) .nil) .nil) .nil) .nil) (.br 14 (.br 6 (.br 15 (.br 16 (.br 17 (.br 18 (.br 19 (.br 20 (.br 21 (.br 22 (.br 23 .leaf .nil) .nil) .nil) .nil) .nil) .nil) .nil) .nil) .nil) .nil) .nil)) (.br 14 (.br 6 (.br 15 (.br 16 (.br 17 (.br 10 (.br 18 (.br 19 (.br 20 (.br 21 (.br 22 (.br 23 .leaf .nil) .nil) .nil) .nil) .nil) .nil) .nil) .nil) .nil) .nil) (.br 10 (.br 6 (.br 15 (.br 16 (.br 17 (.br 18 (.br 19 (.br 20 (.br 21 (.br 22 (.br 23 .leaf .nil) .nil) .nil) .nil) .nil) .nil) .nil) .nil) .nil) .nil) .nil)) .nil))) .nil) (.br 14 (.br 6 (.br 15 (.br 16 (.br 8 (.br 9 (.br 17 (.br 10 (.br 18 (.br 19 (.br 20 (.br 21 (.br 22 (.br 23 .leaf .nil) .nil) .nil) .nil) .nil) .nil) .nil) .nil) .nil) (.br 17 (.br 8 (.br 9 (.br 10 (.br 18 (.br 19 (.br 20 (.br 21 (.br 22 (.br 23 .leaf .nil) .nil) .nil) .nil) .nil) .nil) .nil) .nil) .nil) .nil)) .nil) .nil) (.br 8 (.br 9 (.br 6 (.br 15 (.br 16 (.br 17 (.br 10 (.br 18 (.br 19 (.br 20 (.br 21 (.br 22 (.br 23 .leaf .nil) .nil) .nil) .nil) .nil) .nil) .nil) .nil) .nil) .nil) (.br 10 (.br 6 (.br 15 (.br 16 (.br 17 (.br 18 (.br 19 (.br 20 (.br 21 (.br 22 (.br 23 .leaf .nil) .nil) .nil) .nil) .nil) .nil) .nil) .nil) .nil) .nil) .nil)) .nil) .nil)) .nil))) .nil) .nil))) .nil) .nil) .nil) .nil) .nil) .nil) .nil) .nil) (by decide +kernel) (by (first | (refine And.intro (fun iw hiw => ?_) ?_; (focus ((try simp (maxSteps := 1000000) (disch := omega) only [go_sem] at hiw ⊢); (repeat (refine Eq.trans (if_neg ?_) ?_; (focus omega))); exact hw iw (by omega))); (focus (first | exact Nat.zero_le _ | (simp (maxSteps := 1000000) (disch := omega) only [go_sem]; done) | (simp (maxSteps := 1000000) (disch := omega) only [go_sem]; omega)))) | exact wf_a)) (fun K0 hW => ?_)
 refine (fun (tl : ∀ st, Le st (mkSt [(1, .b (.c (.ptr 0 0))), (6, .b (.c (.ptr 1 0)))] [(0, .fix ((scriptE s).map CV.p)), (1, .fix (lookV s)), (2, .arr 3 1 s.ops.length (fun _ _ => PI 0)), (3, .arr 3 1 s.ops.length (fun _ _ => PI 0)), (4, .arr 4 1 s.ops.length (fun _ _ => PB false))] 5) → K0 st) => ?_) (fun st hl => hW st _ hl ?_)
 ·clear hW
  repeat' (first | exact tree_nil | (refine tree_br (fun K' hK' => ?_) ?_) | (refine tree_leaf (tl _ ?_); clear tl) | (simp (maxSteps := 1000000) (disch := omega) only [go_sem]; and_intros; (all_goals first | (refine hK' _ ?_; clear hK' K') | trivial | omega | exact Nat.le_of_ble_eq_true rfl | exact auto_cl | skip)))
  all_goals first | (refine le_of [(1, some 1), (2, some 2), (3, some 3), (4, some 4)] rfl (by decide) rfl ?_ ?_; (all_goals (simp (maxSteps := 1000000) (disch := omega) only [go_sem])); and_intros; (all_goals first | rfl | omega | exact .inl rfl | trivial | exact .inr (le0 _ _)); done) | (refine le_of [(1, some 1), (2, some 2), (3, some 4), (4, some 3)] rfl (by decide) rfl ?_ ?_; (all_goals (simp (maxSteps := 1000000) (disch := omega) only [go_sem])); and_intros; (all_goals first | rfl | omega | exact .inl rfl | trivial | exact .inr (le0 _ _)); done) | (refine le_of [(1, some 1), (2, some 3), (3, some 2), (4, some 4)] rfl (by decide) rfl ?_ ?_; (all_goals (simp (maxSteps := 1000000) (disch := omega) only [go_sem])); and_intros; (all_goals first | rfl | omega | exact .inl rfl | trivial | exact .inr (le0 _ _)); done) | (refine le_of [(1, some 1), (2, some 3), (3, some 4), (4, some 2)] rfl (by decide) rfl ?_ ?_; (all_goals (simp (maxSteps := 1000000) (disch := omega) only [go_sem])); and_intros; (all_goals first | rfl | omega | exact .inl rfl | trivial | exact .inr (le0 _ _)); done) | (refine le_of [(1, some 1), (2, some 4), (3, some 2), (4, some 3)] rfl (by decide) rfl ?_ ?_; (all_goals (simp (maxSteps := 1000000) (disch := omega) only [go_sem])); and_intros; (all_goals first | rfl | omega | exact .inl rfl | trivial | exact .inr (le0 _ _)); done) | (refine le_of [(1, some 1), (2, some 4), (3, some 3), (4, some 2)] rfl (by decide) rfl ?_ ?_; (all_goals (simp (maxSteps := 1000000) (disch := omega) only [go_sem])); and_intros; (all_goals first | rfl | omega | exact .inl rfl | trivial | exact .inr (le0 _ _)); done)
 clear hW
 repeat' (first | refine un_a ?_ | (refine st_a (fun K hK => ?_); and_intros; (all_goals first | (refine hK _ ?_; clear hK K) | exact auto_cl | skip)))
 refine cw_loop (X := Nat) (fun i => mkSt [(1, .b (.c (.ptr 0 0))), (6, .b (.c (.ptr 1 0))), (7, .b (I (topAt s.ops i))), (8, .b (.c (.ptr 5 0))), (62, .b (.c (.p (opL s.ops)))), (63, .b (I s.ops.length)), (64, .b (I i))]
  [(0, .fix ((scriptE s).map CV.p)), (1, .fix (lookV s)), (2, .arr 3 1 s.ops.length (fun a _ => PI (if a < i then grpM s.ops a else 0))), (3, .arr 3 1 s.ops.length (fun a _ => PI (kidsTo s.ops i a))), (4, .arr 4 1 s.ops.length (fun a _ => PB (decide (a < i) && firstM s.ops a))), (5, .fix [.p (PI (kidsTo s.ops i (-1)))])] 6)
  (fun i => i ≤ s.ops.length) (fun i => s.ops.length - i) 0 ?_ ?_ ?_
 ·exact Nat.zero_le _
 ·refine le_a [(1, some 1), (2, some 2), (3, some 3), (4, some 4), (5, some 5)] ?_ ?_
  and_intros
  all_goals first | exact le_cl | skip
 ·intro i hi
  rcases Nat.lt_or_ge i s.ops.length with hlt | hge
  ·have hkl := fun g => kidsTo_le s.ops g i
   have hbx2 : ∀ v : Int, v = grpM s.ops i → ∀ a, PI (if a = i then v else if a < i then grpM s.ops a else 0) = PI (if a < i + 1 then grpM s.ops a else 0) := fun v hv a => by rw [grp_step i a, hv]
   rcases W.kinds i hlt with hk | hk | hk
   ·have hk2 : (s.ops.getD i default).kind = 1 := hk
    have h3 : (opAt s.ops i).kind ≠ 3 := by omega
    cases hs : stk s.ops i with
    | nil =>
     have ht := topAt_nil hs
     rw [ht]
     repeat' (first | ((first | apply cw_ifF | apply cw_condF); (case hc => exact ev_a); (case ht => (simp only [Int.toNat_natCast, Int.reduceBEq, Int.reduceBNe, Int.reduceLT, Int.reduceLE, decide_true, decide_false, dcs, hk2, Int.reduceGE, Int.reduceNeg]; done))) | refine un_a ?_ | (refine st_a (fun K hK => ?_); and_intros; (all_goals first | (refine hK _ ?_; clear hK K) | exact auto_cl | skip)) | (refine if_a (fun hb => ?_) (fun hb => ?_); all_goals try exact bad_a))
     all_goals first | exact Nat.le_of_ble_eq_true rfl | skip
     rw [thenQ_normal]
     refine wk_loop (i + 1) ?_ (by omega) (by omega)
     rw [show topAt s.ops (i + 1) = -1 from topAt_nil (by rw [stk_draw hk]; exact hs)]
     refine le_a [(1, some 1), (2, some 2), (3, some 3), (4, some 4), (5, some 5)] ?_ ?_
     and_intros
     all_goals first | exact le_cl | skip
     ·refine .inr fun a ha j hj => ?_
      have hj0 : j = 0 := by omega
      subst hj0
      rw [grp_step i a]
      by_cases e : a = i
      ·rw [if_pos e, if_pos e, if_pos ⟨Nat.le_refl 0, Nat.zero_lt_one⟩]; exact pi_le (by rw [grp_no h3, ht])
      ·rw [if_neg e, if_neg e]; exact fun _ _ _ h => h
     ·refine .inr fun a ha j hj => ?_
      exact pi_le (by rw [kids_no h3, if_neg (by rw [ht]; omega)]; rfl)
     ·refine .inr fun a ha j hj => ?_
      have hj0 : j = 0 := by omega
      subst hj0
      rw [first_step i a]
      by_cases e : a = i
      ·rw [if_pos e, if_pos e, if_pos ⟨Nat.le_refl 0, Nat.zero_lt_one⟩]; exact pb_le (by rw [first_no h3, ht])
      ·rw [if_neg e, if_neg e]; exact fun _ _ _ h => h
     ·exact .inr (pi_le (by rw [kidw (by omega), kids_no h3, if_pos ht]; rfl))
    | cons p t =>
     have hp : p < i := stk_lt (ops := s.ops) (by rw [hs]; exact List.mem_cons_self ..)
     have hp0 : decide ((p : Int) ≥ 0) = true := decide_eq_true (by omega)
     have ht := topAt_cons hs
     rw [ht]
     repeat' (first | refine dec_a (And.intro hk2 hp0) ?_ | refine un_a ?_ | (refine st_a (fun K hK => ?_); and_intros; (all_goals first | (refine hK _ ?_; clear hK K) | exact auto_cl | skip)) | (refine if_a (fun hb => ?_) (fun hb => ?_); all_goals try exact bad_a))
     all_goals first | exact Nat.le_of_ble_eq_true rfl | skip
     rw [thenQ_normal]
     refine wk_loop (i + 1) ?_ (by omega) (by omega)
     rw [show topAt s.ops (i + 1) = p from topAt_cons (t := t) (by rw [stk_draw hk]; exact hs)]
     refine le_a [(1, some 1), (2, some 2), (3, some 3), (4, some 4), (5, some 5)] ?_ ?_
     and_intros
     all_goals first | exact le_cl | skip
     ·refine .inr fun a ha j hj => ?_
      have hj0 : j = 0 := by omega
      subst hj0
      rw [grp_step i a]
      by_cases e : a = i
      ·rw [if_pos e, if_pos e, if_pos ⟨Nat.le_refl 0, Nat.zero_lt_one⟩]; exact pi_le (by rw [grp_no h3, ht])
      ·rw [if_neg e, if_neg e]; exact fun _ _ _ h => h
     ·refine .inr fun a ha j hj => ?_
      have hj0 : j = 0 := by omega
      subst hj0
      by_cases e : a = p
      ·rw [if_pos e, if_pos ⟨Nat.le_refl 0, Nat.zero_lt_one⟩]; exact pi_le (by rw [kidw (by omega), e, kids_no h3, if_pos ht]; rfl)
      ·rw [if_neg e]; exact pi_le (by rw [kids_no h3, if_neg (by rw [ht]; omega)]; rfl)
     ·refine .inr fun a ha j hj => ?_
      have hj0 : j = 0 := by omega
      subst hj0
      rw [first_step i a]
      by_cases e : a = i
      ·rw [if_pos e, if_pos e, if_pos ⟨Nat.le_refl 0, Nat.zero_lt_one⟩]; exact pb_le (by rw [first_no h3, ht])
      ·rw [if_neg e, if_neg e]; exact fun _ _ _ h => h
     ·exact .inr (pi_le (by rw [kids_no h3, if_neg (by rw [ht]; omega)]; rfl))
   ·have hk2 : (s.ops.getD i default).kind = 2 := hk
    have h3 : (opAt s.ops i).kind ≠ 3 := by omega
    cases hs : stk s.ops i with
    | nil =>
     have ht := topAt_nil hs
     rw [ht]
     repeat' (first | ((first | apply cw_ifT | apply cw_condT); (case hc => exact ev_a); (case ht => (simp only [Int.toNat_natCast, Int.reduceBEq, Int.reduceBNe, Int.reduceLT, Int.reduceLE, decide_true, decide_false, dcs, hk2, Int.reduceGE, Int.reduceNeg]; done))) | (apply cw_ifF; (case hc => exact ev_a); (case ht => (simp only [Int.toNat_natCast, Int.reduceBEq, Int.reduceBNe, Int.reduceLT, Int.reduceLE, decide_true, decide_false, dcs, hk2, Int.reduceGE, Int.reduceNeg]; done))) | refine un_a ?_ | (refine st_a (fun K hK => ?_); and_intros; (all_goals first | (refine hK _ ?_; clear hK K) | exact auto_cl | skip)) | (refine if_a (fun hb => ?_) (fun hb => ?_); all_goals try exact bad_a))
     all_goals first | exact Nat.le_of_ble_eq_true rfl | skip
     rw [thenQ_normal]
     refine wk_loop (i + 1) ?_ (by omega) (by omega)
     rw [topAt_push hk]
     refine le_a [(1, some 1), (2, some 2), (3, some 3), (4, some 4), (5, some 5)] ?_ ?_
     and_intros
     all_goals first | exact le_cl | skip
     ·refine .inr fun a ha j hj => ?_
      have hj0 : j = 0 := by omega
      subst hj0
      rw [grp_step i a]
      by_cases e : a = i
      ·rw [if_pos e, if_pos e, if_pos ⟨Nat.le_refl 0, Nat.zero_lt_one⟩]; exact pi_le (by rw [grp_no h3, ht])
      ·rw [if_neg e, if_neg e]; exact fun _ _ _ h => h
     ·refine .inr fun a ha j hj => ?_
      exact pi_le (by rw [kids_no h3, if_neg (by rw [ht]; omega)]; rfl)
     ·refine .inr fun a ha j hj => ?_
      have hj0 : j = 0 := by omega
      subst hj0
      rw [first_step i a]
      by_cases e : a = i
      ·rw [if_pos e, if_pos e, if_pos ⟨Nat.le_refl 0, Nat.zero_lt_one⟩]; exact pb_le (by rw [first_no h3, ht])
      ·rw [if_neg e, if_neg e]; exact fun _ _ _ h => h
     ·exact .inr (pi_le (by rw [kidw (by omega), kids_no h3, if_pos ht]; rfl))
    | cons p t =>
     have hp : p < i := stk_lt (ops := s.ops) (by rw [hs]; exact List.mem_cons_self ..)
     have hp0 : decide ((p : Int) ≥ 0) = true := decide_eq_true (by omega)
     have ht := topAt_cons hs
     rw [ht]
     repeat' (first | refine dec_a (And.intro hk2 hp0) ?_ | refine un_a ?_ | (refine st_a (fun K hK => ?_); and_intros; (all_goals first | (refine hK _ ?_; clear hK K) | exact auto_cl | skip)) | (refine if_a (fun hb => ?_) (fun hb => ?_); all_goals try exact bad_a))
     all_goals first | exact Nat.le_of_ble_eq_true rfl | skip
     rw [thenQ_normal]
     refine wk_loop (i + 1) ?_ (by omega) (by omega)
     rw [topAt_push hk]
     refine le_a [(1, some 1), (2, some 2), (3, some 3), (4, some 4), (5, some 5)] ?_ ?_
     and_intros
     all_goals first | exact le_cl | skip
     ·refine .inr fun a ha j hj => ?_
      have hj0 : j = 0 := by omega
      subst hj0
      rw [grp_step i a]
      by_cases e : a = i
      ·rw [if_pos e, if_pos e, if_pos ⟨Nat.le_refl 0, Nat.zero_lt_one⟩]; exact pi_le (by rw [grp_no h3, ht])
      ·rw [if_neg e, if_neg e]; exact fun _ _ _ h => h
     ·refine .inr fun a ha j hj => ?_
      have hj0 : j = 0 := by omega
      subst hj0
      by_cases e : a = p
      ·rw [if_pos e, if_pos ⟨Nat.le_refl 0, Nat.zero_lt_one⟩]; exact pi_le (by rw [kidw (by omega), e, kids_no h3, if_pos ht]; rfl)
      ·rw [if_neg e]; exact pi_le (by rw [kids_no h3, if_neg (by rw [ht]; omega)]; rfl)
     ·refine .inr fun a ha j hj => ?_
      have hj0 : j = 0 := by omega
      subst hj0
      rw [first_step i a]
      by_cases e : a = i
      ·rw [if_pos e, if_pos e, if_pos ⟨Nat.le_refl 0, Nat.zero_lt_one⟩]; exact pb_le (by rw [first_no h3, ht])
      ·rw [if_neg e, if_neg e]; exact fun _ _ _ h => h
     ·exact .inr (pi_le (by rw [kids_no h3, if_neg (by rw [ht]; omega)]; rfl))
   ·have hk2 : (s.ops.getD i default).kind = 3 := hk
    cases hs : stk s.ops i with
    | nil => exact absurd hs (W.pops i hlt hk)
    | cons p t =>
     have hp : p < i := stk_lt (ops := s.ops) (by rw [hs]; exact List.mem_cons_self ..)
     rw [topAt_cons hs]
     repeat' (first | refine dec_a hk2 ?_ | refine un_a ?_ | (refine st_a (fun K hK => ?_); and_intros; (all_goals first | (refine hK _ ?_; clear hK K) | exact auto_cl | skip)) | (refine if_a (fun hb => ?_) (fun hb => ?_); all_goals try exact bad_a))
     all_goals first | exact Nat.le_of_ble_eq_true rfl | skip
     rw [thenQ_normal]
     refine wk_loop (i + 1) ?_ (by omega) (by omega)
     rw [topAt_pop hk hs]
     refine le_a [(1, some 1), (2, some 2), (3, some 3), (4, some 4), (5, some 5)] ?_ ?_
     and_intros
     all_goals first | exact le_cl | skip
     ·exact .inr (pi_le (if_pos hp))
     ·refine .inr fun a ha j hj => ?_
      have hj0 : j = 0 := by omega
      subst hj0
      rw [grp_step i a]
      by_cases e : a = i
      ·rw [if_pos e, if_pos e, if_pos ⟨Nat.le_refl 0, Nat.zero_lt_one⟩]; exact pi_le (by rw [if_pos hp, grp_pop hk, topAt_pop hk hs])
      ·rw [if_neg e, if_neg e]; exact fun _ _ _ h => h
     ·refine .inr fun a ha j hj => ?_
      exact pi_le (by rw [kids_pop hk])
     ·refine .inr fun a ha j hj => ?_
      refine pb_le ?_
      rw [first_step i a, first_pop hk]
      by_cases e : a = i
      ·rw [if_pos e, decide_eq_false (by omega)]; rfl
      ·rw [if_neg e]
     ·exact .inr (pi_le (by rw [kids_pop hk]))
  ·have hi2 : i = s.ops.length := by omega
   subst hi2
   repeat' (first | refine un_a ?_ | (refine st_a (fun K hK => ?_); and_intros; (all_goals first | (refine hK _ ?_; clear hK K) | exact auto_cl | skip)) | (refine if_a (fun hb => ?_) (fun hb => ?_); all_goals try exact bad_a) | (refine ret_a ?_; (try clear hB KB); (try clear hK K)))
   refine sle_tup ⟨⟨trivial, fun ok w u hu => ?_⟩, ble_rfl trivial, trivial⟩
   refine bvle_iptP (ρ := noRho) (fun j hj => ?_) hu
   have hivl : j = 0 ∨ j = 1 ∨ j = 2 ∨ j = 3 ∨ j = 4 ∨ j = 5 ∨ j = 6 ∨ j = 7 ∨ j = 8 ∨ j = 9 ∨ j = 10 ∨ j = 11 ∨ j = 12 ∨ j = 13 ∨ j = 14 := by omega
   rcases hivl with rfl | rfl | rfl | rfl | rfl | rfl | rfl | rfl | rfl | rfl | rfl | rfl | rfl | rfl | rfl <;> skip
   all_goals first | exact look_fin s 0 (by decide) | exact look_fin s 1 (by decide) | exact look_fin s 2 (by decide) | exact look_fin s 3 (by decide) | exact look_fin s 4 (by decide) | exact look_fin s 5 (by decide) | exact look_fin s 6 (by decide) | exact look_fin s 7 (by decide) | exact look_fin s 8 (by decide) | exact look_fin s 9 (by decide) | exact look_fin s 10 (by decide) | exact look_fin s 11 (by decide) | exact look_fin s 12 (by decide) | exact look_fin s 13 (by decide) | exact look_fin s 14 (by decide) | ((simp (maxSteps := 1000000) (disch := omega) only [go_sem, Nat.le_refl, if_true]); first | exact look_fin s 0 (by decide) | exact look_fin s 1 (by decide) | exact look_fin s 2 (by decide) | exact look_fin s 3 (by decide) | exact look_fin s 4 (by decide) | exact look_fin s 5 (by decide) | exact look_fin s 6 (by decide) | exact look_fin s 7 (by decide) | exact look_fin s 8 (by decide) | exact look_fin s 9 (by decide) | exact look_fin s 10 (by decide) | exact look_fin s 11 (by decide) | exact look_fin s 12 (by decide) | exact look_fin s 13 (by decide) | exact look_fin s 14 (by decide))
end Go.Proofs.YtlblgkelhibdoaaGreatDoor
