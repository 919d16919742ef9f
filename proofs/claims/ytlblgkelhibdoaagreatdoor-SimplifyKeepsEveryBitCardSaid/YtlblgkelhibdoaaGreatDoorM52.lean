/- Part of the proof: E8. -/
import Derived.Test.YtlblgkelhibdoaaGreatDoorM51
set_option linter.unusedSimpArgs false
set_option linter.unusedVariables false
set_option maxHeartbeats 2000000
set_option maxRecDepth 16000
namespace Go.Proofs.YtlblgkelhibdoaaGreatDoor
open Go Go.SL
open Go.RowKit (wrap64)
attribute [local go_sem] Int.toNat_natCast rxE
structure Sml (s : Script) : Prop where
 order : s.order.length ≤ 1000000000
 im0 : 0 < s.images.length
 im : s.images.length ≤ 1000000000
 p0 : ∀ i, i < s.images.length → (s.images.getD i default).p0.s.length ≤ 1000000000
 p1 : ∀ i, i < s.images.length → (s.images.getD i default).p1.s.length ≤ 1000000000
 p2 : ∀ i, i < s.images.length → (s.images.getD i default).p2.s.length ≤ 1000000000
 p3 : ∀ i, i < s.images.length → (s.images.getD i default).p3.s.length ≤ 1000000000
 p4 : ∀ i, i < s.images.length → (s.images.getD i default).p4.s.length ≤ 1000000000
theorem call_img {st : St} {K : SV → St → Prop} (n : Nat) (g : Nat → Nat → PV) (h0 : 0 < n) (hn : n ≤ 1000000000) (hw : WfN 0 st)
  (hK : ∀ G : Nat → Nat → PV, K (.b (.c (.own (st.nx + 1) n))) (st.turn (bxIns (st.nx + 1) (.arr 71 28 n g) (bxDel st.nx (bxIns st.nx (.arr 71 28 0 G) st.bx))) (st.nx + 2))) :
  CallS Sg st 111 [.c (.p (.lst 28 n g))] (Sl.of K) := by
 obtain ⟨F, hF, G, hI⟩ := cloneImg_inl st.bx st.nx n g h0 hn hw.1
 have e : F = g := funext fun i => funext fun j => hF i j
 subst e
 refine call_inl hI rfl (fun i hi => ?_) (by omega) (hK G)
 simp only [bxIns, bxDel]
 rw [if_neg (by omega), if_neg (by omega), if_neg (by omega)]
 exact hw.1 i (by omega)
def withB (s : Script) (l : List Op) : List (Nat × Bx) := [(0, .fix [.p (PI s.bits), .p (PI s.canvas.x0), .p (PI s.canvas.y0), .p (PI s.canvas.x1), .p (PI s.canvas.y1), .p (PI s.tileW), .p (PI s.tileH), .p (ints s.order), .own 2 s.images.length, .p (opL l)]),
 (1, .fix [.p (PI 0), .p (PI 0), .p (PI 0), .p (PI 0), .p (PI 0), .p (PI 0), .p (PI 0), .p (.val (.slice none 0 0)), .p (.val (.slice none 0 0)), .p (.val (.slice none 0 0))]), (2, .arr 71 28 s.images.length (fnOf imageE s.images))]
attribute [local go_sem] withB
theorem With_sp (s : Script) (l : List Op) (H : Sml s) (hl : l.length ≤ 1000000000) : Pure Sg 55 [ag (scriptE s), .c (.p (opL l))] (fun x => x = .b (ag (scriptE (withOps s l)))) := by
 obtain ⟨b1, b2, b3, q0, q1, q2, q3, q4⟩ := id H
 have hci := cloneI_spec s.order.length (fnOf intE s.order) b1
 refine fn_a Tryz.func55 [.cell 4 36] ?_
 repeat' ((with_reducible refine cw_stepV (id := 0) (fun K hW => ?_)); (try simp (maxSteps := 1000000) (disch := omega) only [go_sem]); and_intros; (all_goals first | (refine hK _ ?_; clear hK K) | exact auto_cl | skip))
 refine hW _ (mkSt [(1, .b (.c (.p (opL l)))), (2, .b (.c (.ptr 0 0))), (4, .b (.c (.ptr 1 0)))] [(0, .fix ((scriptE s).map CV.p)), (1, .fix [.p (PI 0), .p (PI 0), .p (PI 0), .p (PI 0), .p (PI 0), .p (PI 0), .p (PI 0), .p (.val (.slice none 0 0)), .p (.val (.slice none 0 0)), .p (.val (.slice none 0 0))])] 2) ?_ ?_
 ·refine le_a [(1, some 1)] ?_ ?_
  and_intros
  all_goals first | exact le_cl | skip
 clear hW
 refine cw_stepR (id := 1) (.br 0 (.br 1 (.br 2 (.br 4 (.br 3 (.br 5 (.br 7 (.br 6 (.br 8 (.br 9 (.br 10 (.br 11 (.br 12 .leaf .nil) .nil) .nil) .nil) .nil) .nil) .nil) .nil) (.br 5 (.br 7 (.br 3 (.br 6 (.br 8 (.br 9 (.br 10 (.br 11 (.br 12 .leaf .nil) .nil) .nil) .nil) .nil) .nil) .nil) .nil) .nil)) .nil) .nil) .nil) .nil) (by decide +kernel) (by (first | (refine And.intro (fun iw hiw => ?_) ?_; (focus ((try simp (maxSteps := 1000000) (disch := omega) only [go_sem] at hiw ⊢); (repeat (refine Eq.trans (if_neg ?_) ?_; (focus omega))); exact hw iw (by omega))); (focus (first | exact Nat.zero_le _ | (simp (maxSteps := 1000000) (disch := omega) only [go_sem]; done) | (simp (maxSteps := 1000000) (disch := omega) only [go_sem]; omega)))) | exact wf_a)) (fun K0 hW => ?_)
 refine (fun (tl : ∀ st, Le st (mkSt [(2, .b (.c (.ptr 0 0))), (4, .b (.c (.ptr 1 0)))] (withB s l) 3) → K0 st) => ?_) (fun st hl => hW st _ hl ?_)
 ·clear hW
  repeat' (first | exact tree_nil | (refine tree_br (fun K' hK' => ?_) ?_) | (refine call_c (hci) ?_; (try simp (maxSteps := 1000000) (disch := omega) only [go_sem]); and_intros; (all_goals first | (refine hK' _ ?_; clear hK' K') | trivial | omega | exact Nat.le_of_ble_eq_true rfl | exact auto_cl | skip)) | (simp (maxSteps := 1000000) (disch := omega) only [go_sem]; and_intros; (all_goals first | (refine hK' _ ?_; clear hK' K') | trivial | omega | exact Nat.le_of_ble_eq_true rfl | exact auto_cl | skip)))
  all_goals
   refine call_img s.images.length (fnOf imageE s.images) b2 b3 ?_ (fun G => ?_)
   ·(first | (refine And.intro (fun iw hiw => ?_) ?_; (focus ((try simp (maxSteps := 1000000) (disch := omega) only [go_sem] at hiw ⊢); (repeat (refine Eq.trans (if_neg ?_) ?_; (focus omega))); exact hw iw (by omega))); (focus (first | exact Nat.zero_le _ | (simp (maxSteps := 1000000) (disch := omega) only [go_sem]; done) | (simp (maxSteps := 1000000) (disch := omega) only [go_sem]; omega)))) | exact wf_a)
   refine hK' _ ?_
   clear hK' K'
   repeat' (first | exact tree_nil | (refine tree_br (fun K' hK' => ?_) ?_) | (refine tree_leaf (tl _ ?_); clear tl) | (simp (maxSteps := 1000000) (disch := omega) only [go_sem]; and_intros; (all_goals first | (refine hK' _ ?_; clear hK' K') | trivial | omega | exact Nat.le_of_ble_eq_true rfl | exact auto_cl | skip)))
   refine le_a [(1, some 1), (2, some 3)] ?_ ?_
   and_intros
   all_goals first | exact le_cl | skip
 clear hW
 repeat' (first | refine un_a ?_ | (refine st_a (fun K hK => ?_); and_intros; (all_goals first | (refine hK _ ?_; clear hK K) | exact auto_cl | skip)))
 refine cw_loop (X := Nat) (fun i => mkSt [(2, .b (.c (.ptr 0 0))), (4, .b (.c (.ptr 1 0))), (20, .b (I s.images.length)), (21, .b (I i))] (withB s l) 3) (fun i => i ≤ s.images.length) (fun i => s.images.length - i) 0 ?_ ?_ ?_
 ·exact Nat.zero_le _
 ·refine le_a [(1, some 1), (2, some 2)] ?_ ?_
  and_intros
  all_goals first | exact le_cl | skip
 ·intro i hi
  rcases Nat.lt_or_ge i s.images.length with hlt | hge
  ·repeat' (first | refine un_a ?_ | (refine st_a (fun K hK => ?_); and_intros; (all_goals first | (refine hK _ ?_; clear hK K) | exact auto_cl | skip)) | (refine if_a (fun hb => ?_) (fun hb => ?_); all_goals try exact bad_a))
   refine cw_loop (X := Nat) (fun k => mkSt [(2, .b (.c (.ptr 0 0))), (4, .b (.c (.ptr 1 0))), (5, .b (I i)), (6, .b (.c (.pel 2 28 i 8))), (20, .b (I s.images.length)), (21, .b (I i)), (29, .b (I k))] (withB s l) 3) (fun k => k ≤ 5) (fun k => 5 - k) 0 ?_ ?_ ?_
   ·omega
   ·refine le_a [(1, some 1), (2, some 2)] ?_ ?_
    and_intros
    all_goals first | exact le_cl | skip
   ·intro k hk
    have hcu : ∀ n g, n ≤ 1000000000 → _ := fun n g h => cloneU_spec n g h
    have w0 := q0 i hlt
    have w1 := q1 i hlt
    have w2 := q2 i hlt
    have w3 := q3 i hlt
    have w4 := q4 i hlt
    have hkv : k = 0 ∨ k = 1 ∨ k = 2 ∨ k = 3 ∨ k = 4 ∨ k = 5 := by omega
    rcases hkv with rfl | rfl | rfl | rfl | rfl | rfl
    ·repeat' (first | refine un_a ?_ | ((first | refine st_a (fun K hK => ?_) | refine call_c (cloneU_spec _ _ w0) ?_); and_intros; (all_goals first | (refine hK _ ?_; clear hK K) | exact auto_cl | skip)) | (refine if_a (fun hb => ?_) (fun hb => ?_); all_goals try exact bad_a))
     rw [thenQ_normal]
     refine wk_loop 1 ?_ (by omega) (by omega)
     refine le_a [(1, some 1), (2, some 2)] ?_ ?_
     and_intros
     all_goals first | exact le_cl | skip
     refine .inr fun a ha j hj => ?_
     by_cases e : a = i
     ·rw [if_pos e, e]
      have hivl : j = 0 ∨ j = 1 ∨ j = 2 ∨ j = 3 ∨ j = 4 ∨ j = 5 ∨ j = 6 ∨ j = 7 ∨ j = 8 ∨ j = 9 ∨ j = 10 ∨ j = 11 ∨ j = 12 ∨ j = 13 ∨ j = 14 ∨ j = 15 ∨ j = 16 ∨ j = 17 ∨ j = 18 ∨ j = 19 ∨ j = 20 ∨ j = 21 ∨ j = 22 ∨ j = 23 ∨ j = 24 ∨ j = 25 ∨ j = 26 ∨ j = 27 := by omega
      rcases hivl with rfl | rfl | rfl | rfl | rfl | rfl | rfl | rfl | rfl | rfl | rfl | rfl | rfl | rfl | rfl | rfl | rfl | rfl | rfl | rfl | rfl | rfl | rfl | rfl | rfl | rfl | rfl | rfl <;> exact fun _ _ _ h => h
     ·rw [if_neg e]
      exact fun _ _ _ h => h
    ·repeat' (first | refine un_a ?_ | ((first | refine st_a (fun K hK => ?_) | refine call_c (cloneU_spec _ _ w1) ?_); and_intros; (all_goals first | (refine hK _ ?_; clear hK K) | exact auto_cl | skip)) | (refine if_a (fun hb => ?_) (fun hb => ?_); all_goals try exact bad_a))
     rw [thenQ_normal]
     refine wk_loop 2 ?_ (by omega) (by omega)
     refine le_a [(1, some 1), (2, some 2)] ?_ ?_
     and_intros
     all_goals first | exact le_cl | skip
     refine .inr fun a ha j hj => ?_
     by_cases e : a = i
     ·rw [if_pos e, e]
      have hivl : j = 0 ∨ j = 1 ∨ j = 2 ∨ j = 3 ∨ j = 4 ∨ j = 5 ∨ j = 6 ∨ j = 7 ∨ j = 8 ∨ j = 9 ∨ j = 10 ∨ j = 11 ∨ j = 12 ∨ j = 13 ∨ j = 14 ∨ j = 15 ∨ j = 16 ∨ j = 17 ∨ j = 18 ∨ j = 19 ∨ j = 20 ∨ j = 21 ∨ j = 22 ∨ j = 23 ∨ j = 24 ∨ j = 25 ∨ j = 26 ∨ j = 27 := by omega
      rcases hivl with rfl | rfl | rfl | rfl | rfl | rfl | rfl | rfl | rfl | rfl | rfl | rfl | rfl | rfl | rfl | rfl | rfl | rfl | rfl | rfl | rfl | rfl | rfl | rfl | rfl | rfl | rfl | rfl <;> exact fun _ _ _ h => h
     ·rw [if_neg e]
      exact fun _ _ _ h => h
    ·repeat' (first | refine un_a ?_ | ((first | refine st_a (fun K hK => ?_) | refine call_c (cloneU_spec _ _ w2) ?_); and_intros; (all_goals first | (refine hK _ ?_; clear hK K) | exact auto_cl | skip)) | (refine if_a (fun hb => ?_) (fun hb => ?_); all_goals try exact bad_a))
     rw [thenQ_normal]
     refine wk_loop 3 ?_ (by omega) (by omega)
     refine le_a [(1, some 1), (2, some 2)] ?_ ?_
     and_intros
     all_goals first | exact le_cl | skip
     refine .inr fun a ha j hj => ?_
     by_cases e : a = i
     ·rw [if_pos e, e]
      have hivl : j = 0 ∨ j = 1 ∨ j = 2 ∨ j = 3 ∨ j = 4 ∨ j = 5 ∨ j = 6 ∨ j = 7 ∨ j = 8 ∨ j = 9 ∨ j = 10 ∨ j = 11 ∨ j = 12 ∨ j = 13 ∨ j = 14 ∨ j = 15 ∨ j = 16 ∨ j = 17 ∨ j = 18 ∨ j = 19 ∨ j = 20 ∨ j = 21 ∨ j = 22 ∨ j = 23 ∨ j = 24 ∨ j = 25 ∨ j = 26 ∨ j = 27 := by omega
      rcases hivl with rfl | rfl | rfl | rfl | rfl | rfl | rfl | rfl | rfl | rfl | rfl | rfl | rfl | rfl | rfl | rfl | rfl | rfl | rfl | rfl | rfl | rfl | rfl | rfl | rfl | rfl | rfl | rfl <;> exact fun _ _ _ h => h
     ·rw [if_neg e]
      exact fun _ _ _ h => h
    ·repeat' (first | refine un_a ?_ | ((first | refine st_a (fun K hK => ?_) | refine call_c (cloneU_spec _ _ w3) ?_); and_intros; (all_goals first | (refine hK _ ?_; clear hK K) | exact auto_cl | skip)) | (refine if_a (fun hb => ?_) (fun hb => ?_); all_goals try exact bad_a))
     rw [thenQ_normal]
     refine wk_loop 4 ?_ (by omega) (by omega)
     refine le_a [(1, some 1), (2, some 2)] ?_ ?_
     and_intros
     all_goals first | exact le_cl | skip
     refine .inr fun a ha j hj => ?_
     by_cases e : a = i
     ·rw [if_pos e, e]
      have hivl : j = 0 ∨ j = 1 ∨ j = 2 ∨ j = 3 ∨ j = 4 ∨ j = 5 ∨ j = 6 ∨ j = 7 ∨ j = 8 ∨ j = 9 ∨ j = 10 ∨ j = 11 ∨ j = 12 ∨ j = 13 ∨ j = 14 ∨ j = 15 ∨ j = 16 ∨ j = 17 ∨ j = 18 ∨ j = 19 ∨ j = 20 ∨ j = 21 ∨ j = 22 ∨ j = 23 ∨ j = 24 ∨ j = 25 ∨ j = 26 ∨ j = 27 := by omega
      rcases hivl with rfl | rfl | rfl | rfl | rfl | rfl | rfl | rfl | rfl | rfl | rfl | rfl | rfl | rfl | rfl | rfl | rfl | rfl | rfl | rfl | rfl | rfl | rfl | rfl | rfl | rfl | rfl | rfl <;> exact fun _ _ _ h => h
     ·rw [if_neg e]
      exact fun _ _ _ h => h
    ·repeat' (first | refine un_a ?_ | ((first | refine st_a (fun K hK => ?_) | refine call_c (cloneU_spec _ _ w4) ?_); and_intros; (all_goals first | (refine hK _ ?_; clear hK K) | exact auto_cl | skip)) | (refine if_a (fun hb => ?_) (fun hb => ?_); all_goals try exact bad_a))
     rw [thenQ_normal]
     refine wk_loop 5 ?_ (by omega) (by omega)
     refine le_a [(1, some 1), (2, some 2)] ?_ ?_
     and_intros
     all_goals first | exact le_cl | skip
     refine .inr fun a ha j hj => ?_
     by_cases e : a = i
     ·rw [if_pos e, e]
      have hivl : j = 0 ∨ j = 1 ∨ j = 2 ∨ j = 3 ∨ j = 4 ∨ j = 5 ∨ j = 6 ∨ j = 7 ∨ j = 8 ∨ j = 9 ∨ j = 10 ∨ j = 11 ∨ j = 12 ∨ j = 13 ∨ j = 14 ∨ j = 15 ∨ j = 16 ∨ j = 17 ∨ j = 18 ∨ j = 19 ∨ j = 20 ∨ j = 21 ∨ j = 22 ∨ j = 23 ∨ j = 24 ∨ j = 25 ∨ j = 26 ∨ j = 27 := by omega
      rcases hivl with rfl | rfl | rfl | rfl | rfl | rfl | rfl | rfl | rfl | rfl | rfl | rfl | rfl | rfl | rfl | rfl | rfl | rfl | rfl | rfl | rfl | rfl | rfl | rfl | rfl | rfl | rfl | rfl <;> exact fun _ _ _ h => h
     ·rw [if_neg e]
      exact fun _ _ _ h => h
    ·repeat' (first | refine un_a ?_ | (refine st_a (fun K hK => ?_); and_intros; (all_goals first | (refine hK _ ?_; clear hK K) | exact auto_cl | skip)) | (refine if_a (fun hb => ?_) (fun hb => ?_); all_goals try exact bad_a))
     rw [thenQ_normal]
     refine wk_loop (i + 1) ?_ (by omega) (by omega)
     refine le_a [(1, some 1), (2, some 2)] ?_ ?_
     and_intros
     all_goals first | exact le_cl | skip
  ·have hi2 : i = s.images.length := by omega
   subst hi2
   repeat' (first | refine un_a ?_ | (refine st_a (fun K hK => ?_); and_intros; (all_goals first | (refine hK _ ?_; clear hK K) | exact auto_cl | skip)) | (refine if_a (fun hb => ?_) (fun hb => ?_); all_goals try exact bad_a) | (refine ret_a ?_; (try clear hB KB); (try clear hK K)))
   rfl
end Go.Proofs.YtlblgkelhibdoaaGreatDoor
