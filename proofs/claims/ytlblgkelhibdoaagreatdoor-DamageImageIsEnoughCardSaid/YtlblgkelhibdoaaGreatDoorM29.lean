/- Part of the proof: D9. -/
import Derived.Test.YtlblgkelhibdoaaGreatDoorM28
set_option linter.unusedSimpArgs false
set_option linter.unusedVariables false
set_option maxHeartbeats 2000000
set_option maxRecDepth 16000
namespace Go.Proofs.YtlblgkelhibdoaaGreatDoor
open Go Go.SL
open Go.RowKit (wrap64)
attribute [local go_sem] Int.toNat_natCast rectsF
theorem touched_spec (s : Script) (V : VOps s) (hs : ScriptLen s) (p q : Nat) (h : p + q ≤ s.ops.length) :
  PureOwn Sg 48 [ag (scriptE s), I p, I q] 32 4 (touchedM s p q).length (fnOf rectE (touchedM s p q)) := by
 have hn := V.cnt
 have W := V.wf
 have hb := boxes_spec s V hs
 have ho := open_spec s V p (by omega)
 have hsl := stk_len s.ops p
 refine own_of Tryz.func48 rfl (rs := [.tmp 6]) rfl rfl mixed (by decide +kernel) (Nat.le_of_ble_eq_true rfl) (argsLt_mem (by simp (maxSteps := 1000000) (disch := omega) only [go_sem])) ?_
 have hw := w64' (n := (s.ops.length : Int) - (q : Int)) (by omega) (by omega)
 have hm0 : ((s.ops.length : Int) - (q : Int)).toNat - (p : Int).toNat = s.ops.length - q - p := by omega
 repeat' (first | refine un_a ?_ | ((first | refine st_a (fun K hK => ?_) | refine call_c (hb) ?_ | refine call_c (ho) ?_); and_intros; (all_goals first | (refine hK _ ?_; clear hK K) | exact auto_cl | skip)))
 have hT1 : ∀ a, a < s.ops.length - q - p → (touchedM s p q).getD a default = boxesM s (p + a) := fun a ha => by
  rw [touchedM, List.getD_eq_getElem?_getD, List.getElem?_append_left (by simpa using ha)]
  simp [ha]
 have hT2 : ∀ i, i < (stk s.ops p).length → (touchedM s p q).getD (s.ops.length - q - p + i) default = boxesM s ((stk s.ops p).reverse.getD i 0) := fun i hi => by
  rw [touchedM, List.getD_eq_getElem?_getD, List.getElem?_append_right (by simp)]
  simp only [List.length_map, List.length_range', Nat.add_sub_cancel_left, List.getElem?_map, List.getD_eq_getElem?_getD]
  rw [List.getElem?_eq_getElem (by simpa using hi)]
  rfl
 have hTl : (touchedM s p q).length = s.ops.length - q - p + (stk s.ops p).length := by simp [touchedM]
 have hlt : ∀ i, i < (stk s.ops p).length → (stk s.ops p).reverse.getD i 0 < s.ops.length := fun i hi => by
  have hm : (stk s.ops p).reverse.getD i 0 ∈ stk s.ops p := by
   rw [List.getD_eq_getElem?_getD, List.getElem?_eq_getElem (by simpa using hi)]
   exact List.mem_reverse.1 (List.getElem_mem _)
  have := stk_lt hm
  omega
 refine cw_loop (X := Nat) (fun i => mkSt [(6, .b (.c (.p (.val (.slice none 0 0))))), (7, .b (.c (.p (rectsF s.ops.length (boxesM s))))), (9, .b (.c (.own 1 (s.ops.length - q - p + i)))), (28, .b (.c (.p (natsF (stk s.ops p).length (fun a => (stk s.ops p).reverse.getD a 0))))), (29, .b (I (stk s.ops p).length)), (30, .b (I i))]
  [(1, .arr 32 4 (s.ops.length - q - p + i) (fnOf rectE (touchedM s p q)))] 2) (fun i => i ≤ (stk s.ops p).length) (fun i => (stk s.ops p).length - i) 0 ?_ ?_ ?_
 ·exact Nat.zero_le _
 ·refine le_a [(1, some 1)] ?_ ?_
  and_intros
  all_goals first | exact le_cl | skip
  refine .inr fun a ha j hj => ?_
  rw [hT1 a (by omega)]
  exact fun _ _ _ h => h
 ·intro i hi
  rcases Nat.lt_or_ge i (stk s.ops p).length with hil | hge
  ·have hlti := hlt i hil
   repeat' (first | refine un_a ?_ | (refine st_a (fun K hK => ?_); and_intros; (all_goals first | (refine hK _ ?_; clear hK K) | exact auto_cl | skip)) | (refine if_a (fun hb => ?_) (fun hb => ?_); all_goals try exact bad_a))
   rw [thenQ_normal]
   refine wk_loop (i + 1) ?_ (by omega) (by omega)
   refine le_a [(1, some 3)] ?_ ?_
   and_intros
   all_goals first | exact le_cl | skip
   refine .inr fun a ha j hj => ?_
   unfold appF
   by_cases h : a < s.ops.length - q - p + i
   ·rw [if_pos h]; exact fun _ _ _ h => h
   ·have ea : a = s.ops.length - q - p + i := by omega
    rw [if_neg h, ea, Nat.sub_self, hT2 i hil]
    have hivl : j = 0 ∨ j = 1 ∨ j = 2 ∨ j = 3 := by omega
    rcases hivl with rfl | rfl | rfl | rfl <;> exact fun _ _ _ h => h
  ·have hi2 : i = (stk s.ops p).length := by omega
   subst hi2
   repeat' (first | refine un_a ?_ | (refine st_a (fun K hK => ?_); and_intros; (all_goals first | (refine hK _ ?_; clear hK K) | exact auto_cl | skip)) | (refine if_a (fun hb => ?_) (fun hb => ?_); all_goals try exact bad_a) | (refine ret_a ?_; (try clear hB KB); (try clear hK K)))
   rw [← hTl]
   refine ⟨_, rfl, rfl, fun a ha j hj => ?_⟩
   have hivl : j = 0 ∨ j = 1 ∨ j = 2 ∨ j = 3 := by omega
   rcases hivl with rfl | rfl | rfl | rfl <;> exact ⟨_, rfl, rfl⟩
theorem app_le {A B : List Rect} : ∀ i, i < (A ++ B).length → ∀ j, j < 4 → appF A.length (fnOf rectE A) (fnOf rectE B) i j = fnOf rectE (A ++ B) i j := fun i hi j hj => by
 unfold appF
 rw [List.length_append] at hi
 by_cases h : i < A.length
 ·rw [if_pos h]; unfold fnOf; rw [show (A ++ B).getD i default = A.getD i default from by rw [List.getD_eq_getElem?_getD, List.getD_eq_getElem?_getD, List.getElem?_append_left h]]
 ·rw [if_neg h]; unfold fnOf; rw [show (A ++ B).getD i default = B.getD (i - A.length) default from by rw [List.getD_eq_getElem?_getD, List.getD_eq_getElem?_getD, List.getElem?_append_right (by omega)]]
theorem touched_len (s : Script) (V : VOps s) (p q : Nat) (h : p + q ≤ s.ops.length) : (touchedM s p q).length ≤ 8192 := by
 have := stk_len s.ops p
 have := V.cnt
 simp [touchedM]
 omega
theorem between_spec (s t : Script) (hs : ScriptLen s) (ht : ScriptLen t) : Pure Sg 19 [ag (scriptE s), ag (scriptE t)] (fun x => x = .tup [ag (rectE (betweenM s t).1), I (betweenM s t).2]) := by
 have h1 := vops_spec s hs
 have h2 := vops_spec t ht
 have h3 := sizes_spec s t hs ht
 by_cases e1 : (opsM s).1 = 0
 ·by_cases e2 : (opsM t).1 = 0
  ·have V := vops_of e1
   have U := vops_of e2
   have hc := common_spec s.ops t.ops V.cnt U.cnt
   have hpl := pre_le s.ops t.ops
   have hql := suf_le s.ops t.ops hpl.1 hpl.2
   have w1 := touched_spec s V hs _ _ hql.1
   have w2 := touched_spec t U ht _ _ hql.2
   have l1 := touched_len s V _ _ hql.1
   have l2 := touched_len t U _ _ hql.2
   refine fn_a Tryz.func19 [.cell 4 32, .tmp 5] ?_
   repeat' (first | (((with_reducible refine cw_stepDK (id := 12) [(3, 5)] (by decide +kernel) (by decide +kernel) ?_ (fun K hK => ?_)); (first | (refine And.intro (fun iw hiw => ?_) ?_; (focus ((try simp (maxSteps := 1000000) (disch := omega) only [go_sem] at hiw ⊢); (repeat (refine Eq.trans (if_neg ?_) ?_; (focus omega))); exact hw iw (by omega))); (focus (first | exact Nat.zero_le _ | (simp (maxSteps := 1000000) (disch := omega) only [go_sem]; done) | (simp (maxSteps := 1000000) (disch := omega) only [go_sem]; omega)))) | exact wf_a)); (try simp (maxSteps := 1000000) (disch := omega) only [go_sem]); and_intros; (all_goals first | (refine hK _ (by simp (maxSteps := 1000000) (disch := omega) only [go_sem]) ?_; clear hK K) | exact auto_cl | skip)) | refine un_a ?_ | ((first | refine st_a (fun K hK => ?_) | refine call_c (h1) ?_ | refine call_c (h2) ?_ | refine call_c (h3) ?_ | refine call_c (hc) ?_ | refine call_o (w1) ?_ | refine call_o (w2) ?_); and_intros; (all_goals first | (refine hK _ ?_; clear hK K) | exact auto_cl | skip)) | (refine if_a (fun hb => ?_) (fun hb => ?_); all_goals try exact bad_a) | (refine ret_a ?_; (try clear hB KB); (try clear hK K)))
   ·rw [betweenM, if_neg (by simp [e1]), if_neg (by simp [e2]), if_pos hb]; rfl
   ·rename_i hb0
    rw [betweenM, if_neg (by simp [e1]), if_neg (by simp [e2]), if_neg (by simp [hb0]), if_pos (pre_all.1 ⟨by omega, by omega⟩)]; rfl
   ·have hfin : betweenM s t = (hullM (touchedM s (preM s.ops t.ops) (sufM s.ops t.ops (preM s.ops t.ops)) ++ touchedM t (preM s.ops t.ops) (sufM s.ops t.ops (preM s.ops t.ops))), 0) := by
     rename_i hb0
     rw [betweenM, if_neg (by simp [e1]), if_neg (by simp [e2]), if_neg (by simp [hb0]), if_neg (fun e => by have := pre_all.2 e; omega)]
    refine call_lends ?_ ?_ (by simp (maxSteps := 1000000) (disch := omega) only [go_sem]) ?_ (hull_spec (touchedM s (preM s.ops t.ops) (sufM s.ops t.ops (preM s.ops t.ops)) ++ touchedM t (preM s.ops t.ops) (sufM s.ops t.ops (preM s.ops t.ops))) (by rw [List.length_append]; omega))
    try simp (maxSteps := 1000000) (disch := omega) only [go_sem]
    try (refine hK _ ?_; clear hK K)
    ·refine hK _ (by simp (maxSteps := 1000000) (disch := omega) only [go_sem]) ?_
     clear hK
     repeat' (refine ret_a ?_; (try clear hB KB); (try clear hK K))
     rw [hfin]; rfl
    ·simp (maxSteps := 1000000) (disch := omega) only [go_sem, argsLe_cons, argsLe_nil, List.length_append]
     refine bvle_p (lst_le fun a ha j hj => ?_)
     exact app_le a (by rw [List.length_append]; exact ha) j hj
    ·exact rect_flat _
  ·refine fn_a Tryz.func19 [.cell 4 32, .tmp 5] ?_
   repeat' (first | refine un_a ?_ | ((first | refine st_a (fun K hK => ?_) | refine call_c (h1) ?_ | refine call_c (h2) ?_); and_intros; (all_goals first | (refine hK _ ?_; clear hK K) | exact auto_cl | skip)) | (refine if_a (fun hb => ?_) (fun hb => ?_); all_goals try exact bad_a) | (refine ret_a ?_; (try clear hB KB); (try clear hK K)))
   rw [betweenM, if_neg (by simp [e1]), if_pos e2]; rfl
 ·refine fn_a Tryz.func19 [.cell 4 32, .tmp 5] ?_
  repeat' (first | refine un_a ?_ | ((first | refine st_a (fun K hK => ?_) | refine call_c (h1) ?_); and_intros; (all_goals first | (refine hK _ ?_; clear hK K) | exact auto_cl | skip)) | (refine if_a (fun hb => ?_) (fun hb => ?_); all_goals try exact bad_a) | (refine ret_a ?_; (try clear hB KB); (try clear hK K)))
  rw [betweenM, if_pos e1]; rfl
end Go.Proofs.YtlblgkelhibdoaaGreatDoor
