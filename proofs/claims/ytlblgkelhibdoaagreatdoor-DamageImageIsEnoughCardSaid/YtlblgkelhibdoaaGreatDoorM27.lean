/- Part of the proof: D6. -/
import Derived.Test.YtlblgkelhibdoaaGreatDoorM20
import Derived.Test.YtlblgkelhibdoaaGreatDoorM22
import Derived.Test.YtlblgkelhibdoaaGreatDoorM24
set_option linter.unusedSimpArgs false
set_option linter.unusedVariables false
set_option maxHeartbeats 2000000
set_option maxRecDepth 16000
namespace Go.Proofs.YtlblgkelhibdoaaGreatDoor
open Go Go.SL
open Go.RowKit (wrap64)
theorem rF_old {l : List Rect} {i : Rect} {a : Nat} {junk : List Rect} (h : a < l.length) : rF (i :: l) [] a = rF l junk a := by
 rw [rF, rF, List.reverse_cons, List.append_nil, List.getD_eq_getElem?_getD, List.getD_eq_getElem?_getD, List.getElem?_append_left (by simpa using h), List.getElem?_append_left (by simpa using h)]
theorem rF_set {l : List Rect} {x y : Rect} {a : Nat} {junk : List Rect} (h : a ≠ l.length) : rF (x :: l) junk a = rF (y :: l) junk a := by
 rw [rF, rF, List.reverse_cons, List.reverse_cons, List.append_assoc, List.append_assoc, List.getD_eq_getElem?_getD, List.getD_eq_getElem?_getD]
 rcases Nat.lt_or_ge a l.reverse.length with q | q
 ·rw [List.getElem?_append_left q, List.getElem?_append_left q]
 ·rw [List.getElem?_append_right q, List.getElem?_append_right q]
  have : a - l.reverse.length ≠ 0 := by simp at q ⊢; omega
  cases hk : a - l.reverse.length with
  | zero => exact absurd hk this
  | succ k => rfl
attribute [local go_sem] pred_cast2 Int.toNat_natCast stF_top rF_top rF_top2 rF_top3
theorem rect_flat (r : Rect) : (SV.b (ag (rectE r))).flat := fun c hc => by
 obtain ⟨x, hx, rfl⟩ := List.mem_map.1 hc
 simp only [rectE, List.mem_cons, List.not_mem_nil, or_false] at hx
 rcases hx with rfl | rfl | rfl | rfl <;> trivial
theorem bx_len {s : Script} (W : Wf s.ops) : ∀ i, i ≤ s.ops.length → (bxAt s i).2.length = (stk s.ops i).length + 1
 | 0, _ => rfl
 | i + 1, hi => by
  have ih := bx_len W i (by omega)
  rcases W.kinds i (by omega) with k | k | k
  ·rw [stk_draw k, bxAt, if_neg (by omega), if_pos k]; simp [push1]; omega
  ·rw [stk_push k, bxAt, if_pos k]; simp; omega
  ·have := W.pops i (by omega) k
   rw [stk_pop k, bxAt, if_neg (by omega), if_neg (by omega)]; simp [push1]
   have : 0 < (stk s.ops i).length := List.length_pos_iff.2 this
   omega
theorem mask_ok {s : Script} (V : VOps s) {i : Nat} (hi : i < s.ops.length) (hk : (opAt s.ops i).kind ≠ 3) : 0 ≤ (opAt s.ops i).mask ∧ (opAt s.ops i).mask ≤ 1000000 := by
 have h := ((opErr_zero.1 (V.ok i hi)).2.2.2 hk).1
 have := V.imgs
 omega
theorem boxes_spec (s : Script) (V : VOps s) (hs' : ScriptLen s) : Pure Sg 90 [ag (scriptE s)] (fun x => x = .tup [.c (.p (rectsF s.ops.length (boxesM s))), I 0]) := by
 have hn := V.cnt
 have W := V.wf
 have ho := vops_spec s hs'
 rw [vops0 V] at ho
 refine fn_a Tryz.func90 [.tmp 2, .tmp 3] ?_
 repeat' (first | refine un_a ?_ | ((first | refine st_a (fun K hK => ?_) | refine call_c (ho) ?_); and_intros; (all_goals first | (refine hK _ ?_; clear hK K) | exact auto_cl | skip)) | (refine if_a (fun hb => ?_) (fun hb => ?_); all_goals try exact bad_a) | (refine ret_a ?_; (try clear hB KB); (try clear hK K)))
 ·simp at hb
 refine cw_loop (X := Nat × List Nat × List Rect) (fun x => mkSt [(1, .b (.c (.ptr 0 0))), (2, .b (.c (.p (.val (.slice none 0 0))))), (3, .b (I 0)), (6, .b (.c (.own 1 s.ops.length))), (7, .b (.c (.own 3 (stk s.ops x.1).length))),
  (8, .b (.c (.own 2 (bxAt s x.1).2.length))), (28, .b (.c (.p (opL s.ops)))), (29, .b (I s.ops.length)), (30, .b (I x.1))]
  [(0, .fix ((scriptE s).map CV.p)), (1, .arr 32 4 s.ops.length (fun a j => (rectE ((bxAt s x.1).1 a)).getD j .any)), (2, .arr 32 4 ((bxAt s x.1).2.length + x.2.2.length) (fun a j => (rectE (rF (bxAt s x.1).2 x.2.2 a)).getD j .any)),
   (3, .arr 3 1 ((stk s.ops x.1).length + x.2.1.length) (fun a _ => PI (stF (stk s.ops x.1) x.2.1 a)))] 4)
  (fun x => x.1 ≤ s.ops.length) (fun x => s.ops.length - x.1) (0, [], []) ?_ ?_ ?_
 ·exact Nat.zero_le _
 ·refine le_a [(1, some 1), (2, some 2), (3, none)] ?_ ?_
  and_intros
  all_goals first | exact le_cl | skip
  ·refine .inr fun a ha j hj => ?_
   have hivl : j = 0 ∨ j = 1 ∨ j = 2 ∨ j = 3 := by omega
   rcases hivl with rfl | rfl | rfl | rfl <;> exact fun _ _ _ h => h
  ·refine .inr fun a ha j hj => ?_
   have ea : a = 0 := by omega
   subst ea
   have hivl : j = 0 ∨ j = 1 ∨ j = 2 ∨ j = 3 := by omega
   rcases hivl with rfl | rfl | rfl | rfl <;> exact fun _ _ _ h => h
 ·rintro ⟨i, junk, junk2⟩ hi
  dsimp only at hi ⊢
  have hsl := stk_len s.ops i
  have hbl := bx_len W i hi
  rcases Nat.lt_or_ge i s.ops.length with hlt | hge
  ·cases hh : (bxAt s i).2 with
   | nil => rw [hh] at hbl; simp at hbl
   | cons h0 hs0 =>
    have hl0 : hs0.length ≤ 4096 := by rw [hh] at hbl; simp at hbl; omega
    rcases W.kinds i hlt with hk | hk | hk
    ·have hk2 : (s.ops.getD i default).kind = 1 := hk
     have hm := mask_ok V hlt (by omega)
     repeat' (first | refine dec_a hk2 ?_ | refine un_a ?_ | ((first | refine st_a (fun K hK => ?_) | refine call_c (imageRect_spec s (s.ops.getD i default) hs') ?_ | refine call_c (box_spec s (s.ops.getD i default) (imageRectM s (s.ops.getD i default)) hs' hm) ?_); and_intros; (all_goals first | (refine hK _ ?_; clear hK K) | exact auto_cl | skip)) | (refine if_a (fun hb => ?_) (fun hb => ?_); all_goals try exact bad_a))
     refine call_lends ?_ ?_ (by simp (maxSteps := 1000000) (disch := omega) only [go_sem]) ?_ (hull_spec [h0, boxM s (opAt s.ops i) (imageRectM s (opAt s.ops i))] (by simp))
     try simp (maxSteps := 1000000) (disch := omega) only [go_sem]
     try (refine hK _ ?_; clear hK K)
     ·refine And.intro (by omega) (hK _ ?_)
      clear hK
      repeat' (first | refine un_a ?_ | (refine st_a (fun K hK => ?_); and_intros; (all_goals first | (refine hK _ ?_; clear hK K) | exact auto_cl | skip)))
      rw [thenQ_normal]
      refine wk_loop (i + 1, junk, junk2) ?_ (by dsimp only; omega) (by dsimp only; omega)
      dsimp only
      rw [stk_draw hk, show bxAt s (i + 1) = (upd (bxAt s i).1 i (boxM s (opAt s.ops i) (imageRectM s (opAt s.ops i))), push1 (bxAt s i).2 (boxM s (opAt s.ops i) (imageRectM s (opAt s.ops i)))) from by rw [bxAt, if_neg (by omega), if_pos hk], hh]
      dsimp only [push1, List.headD, List.tail]
      refine le_a [(1, some 1), (2, some 2), (3, some 3)] ?_ ?_
      and_intros
      all_goals first | exact le_cl | skip
      ·refine .inr fun a ha j hj => ?_
       by_cases e : a = i
       ·rw [if_pos e, if_pos (by omega), e, upd_self]
        have hivl : j = 0 ∨ j = 1 ∨ j = 2 ∨ j = 3 := by omega
        rcases hivl with rfl | rfl | rfl | rfl <;> exact fun _ _ _ h => h
       ·rw [if_neg e, upd_ne _ _ e]; exact fun _ _ _ h => h
      ·refine .inr fun a ha j hj => ?_
       by_cases e : a = hs0.length
       ·rw [if_pos e, if_pos (by omega), e, rF_top]
        have hivl : j = 0 ∨ j = 1 ∨ j = 2 ∨ j = 3 := by omega
        rcases hivl with rfl | rfl | rfl | rfl <;> exact fun _ _ _ h => h
       ·rw [if_neg e, rF_set (x := hullM [h0, boxM s (opAt s.ops i) (imageRectM s (opAt s.ops i))]) (y := h0) e]; exact fun _ _ _ h => h
     ·simp (maxSteps := 1000000) (disch := omega) only [go_sem, argsLe_cons, argsLe_nil]
      refine bvle_p (lst_le fun a ha j hj => ?_)
      have ea : a = 0 ∨ a = 1 := by omega
      rcases ea with rfl | rfl
      ·have hivl : j = 0 ∨ j = 1 ∨ j = 2 ∨ j = 3 := by omega
       rcases hivl with rfl | rfl | rfl | rfl <;> rfl
      ·have hivl : j = 0 ∨ j = 1 ∨ j = 2 ∨ j = 3 := by omega
       rcases hivl with rfl | rfl | rfl | rfl <;> rfl
     ·exact rect_flat _
    ·have hk2 : (s.ops.getD i default).kind = 2 := hk
     repeat' (first | refine dec_a hk2 ?_ | refine un_a ?_ | (refine st_a (fun K hK => ?_); and_intros; (all_goals first | (refine hK _ ?_; clear hK K) | exact auto_cl | skip)) | (refine if_a (fun hb => ?_) (fun hb => ?_); all_goals try exact bad_a))
     rw [thenQ_normal]
     refine wk_loop (i + 1, [], []) ?_ (by dsimp only; omega) (by dsimp only; omega)
     dsimp only
     rw [stk_push hk, show bxAt s (i + 1) = ((bxAt s i).1, zeroR :: (bxAt s i).2) from by rw [bxAt, if_pos hk], hh]
     refine le_a [(1, some 1), (2, some 8), (3, some 6)] ?_ ?_
     and_intros
     all_goals first | exact le_cl | skip
     ·refine .inr fun a ha j hj => ?_
      unfold appF
      by_cases h : a < hs0.length + 1
      ·rw [if_pos h, rF_old (l := h0 :: hs0) (junk := junk2) (by simpa using h)]; exact fun _ _ _ h => h
      ·have ea : a = (h0 :: hs0).length := by simp; omega
       rw [if_neg h, ea, rF_top, show (h0 :: hs0).length - (hs0.length + 1) = 0 by simp]
       have hivl : j = 0 ∨ j = 1 ∨ j = 2 ∨ j = 3 := by omega
       rcases hivl with rfl | rfl | rfl | rfl <;> exact fun _ _ _ h => h
     ·refine .inr fun a ha j hj => ?_
      have h2 : j = 0 := by omega
      subst h2
      unfold appF
      by_cases h : a < (stk s.ops i).length
      ·rw [if_pos h, stF_old h]; exact fun _ _ _ h => h
      ·have ea : a = (stk s.ops i).length := by omega
       rw [if_neg h, ea, stF_top, Nat.sub_self]; exact fun _ _ _ h => h
    ·have hk2 : (s.ops.getD i default).kind = 3 := hk
     cases hs : stk s.ops i with
     | nil => exact absurd hs (W.pops i hlt hk)
     | cons p t =>
      cases hs0 with
      | nil => rw [hh, hs] at hbl; simp at hbl
      | cons h1 hs1 =>
      have hl1 : hs1.length ≤ 4096 := by simp at hl0; omega
      have hpi : p < i := stk_lt (ops := s.ops) (by rw [hs]; exact List.mem_cons_self ..)
      have hpk : (opAt s.ops p).kind = 2 := stk_kind (i := i) (by rw [hs]; exact List.mem_cons_self ..)
      have hm := mask_ok V (show p < s.ops.length by omega) (by omega)
      have htl : t.length ≤ 4096 := by rw [hs] at hsl; simp at hsl; omega
      repeat' (first | refine dec_a hk2 ?_ | refine un_a ?_ | ((first | refine st_a (fun K hK => ?_) | refine call_c (box_spec s (s.ops.getD p default) h0 hs' hm) ?_); and_intros; (all_goals first | (refine hK _ ?_; clear hK K) | exact auto_cl | skip)) | (refine if_a (fun hb => ?_) (fun hb => ?_); all_goals try exact bad_a))
      refine call_lends ?_ ?_ (by simp (maxSteps := 1000000) (disch := omega) only [go_sem]) ?_ (hull_spec [h1, boxM s (opAt s.ops p) h0] (by simp))
      try simp (maxSteps := 1000000) (disch := omega) only [go_sem]
      try (refine hK _ ?_; clear hK K)
      ·refine And.intro (by omega) (hK _ ?_)
       clear hK
       repeat' (first | refine un_a ?_ | (refine st_a (fun K hK => ?_); and_intros; (all_goals first | (refine hK _ ?_; clear hK K) | exact auto_cl | skip)))
       rw [thenQ_normal]
       refine wk_loop (i + 1, p :: junk, h0 :: junk2) ?_ (by dsimp only; omega) (by dsimp only; omega)
       dsimp only
       rw [stk_pop hk, show bxAt s (i + 1) = (upd (upd (bxAt s i).1 i (boxM s (opAt s.ops ((stk s.ops i).headD 0)) ((bxAt s i).2.headD zeroR))) ((stk s.ops i).headD 0) (boxM s (opAt s.ops ((stk s.ops i).headD 0)) ((bxAt s i).2.headD zeroR)),
        push1 (bxAt s i).2.tail (boxM s (opAt s.ops ((stk s.ops i).headD 0)) ((bxAt s i).2.headD zeroR))) from by rw [bxAt, if_neg (by omega), if_neg (by omega)], hh, hs]
       dsimp only [push1, List.headD, List.tail]
       refine le_a [(1, some 1), (2, some 2), (3, some 3)] ?_ ?_
       and_intros
       all_goals first | exact le_cl | skip
       ·refine .inr fun a ha j hj => ?_
        by_cases e : a = p
        ·rw [if_pos e, if_pos (by omega), e, upd_self]
         have hivl : j = 0 ∨ j = 1 ∨ j = 2 ∨ j = 3 := by omega
         rcases hivl with rfl | rfl | rfl | rfl <;> exact fun _ _ _ h => h
        ·rw [if_neg e, upd_ne _ _ e]
         by_cases e2 : a = i
         ·rw [if_pos e2, if_pos (by omega), e2, upd_self]
          have hivl : j = 0 ∨ j = 1 ∨ j = 2 ∨ j = 3 := by omega
          rcases hivl with rfl | rfl | rfl | rfl <;> exact fun _ _ _ h => h
         ·rw [if_neg e2, upd_ne _ _ e2]; exact fun _ _ _ h => h
       ·refine .inr fun a ha j hj => ?_
        by_cases e : a = hs1.length
        ·rw [if_pos e, if_pos (by omega), e, rF_top]
         have hivl : j = 0 ∨ j = 1 ∨ j = 2 ∨ j = 3 := by omega
         rcases hivl with rfl | rfl | rfl | rfl <;> exact fun _ _ _ h => h
        ·rw [if_neg e, rF_pop, rF_set (x := hullM [h1, boxM s (opAt s.ops p) h0]) (y := h1) e]; exact fun _ _ _ h => h
       ·exact .inl (by rw [stF_pop])
      ·simp (maxSteps := 1000000) (disch := omega) only [go_sem, argsLe_cons, argsLe_nil]
       simp only [if_neg (show ¬ (i = p) by omega)]
       refine bvle_p (lst_le fun a ha j hj => ?_)
       have ea : a = 0 ∨ a = 1 := by omega
       rcases ea with rfl | rfl
       ·have hivl : j = 0 ∨ j = 1 ∨ j = 2 ∨ j = 3 := by omega
        rcases hivl with rfl | rfl | rfl | rfl <;> rfl
       ·have hivl : j = 0 ∨ j = 1 ∨ j = 2 ∨ j = 3 := by omega
        rcases hivl with rfl | rfl | rfl | rfl <;> rfl
      ·exact rect_flat _
  ·have hi2 : i = s.ops.length := by omega
   subst hi2
   repeat' (first | refine un_a ?_ | (refine st_a (fun K hK => ?_); and_intros; (all_goals first | (refine hK _ ?_; clear hK K) | exact auto_cl | skip)) | (refine if_a (fun hb => ?_) (fun hb => ?_); all_goals try exact bad_a) | (refine ret_a ?_; (try clear hB KB); (try clear hK K)))
   rfl
end Go.Proofs.YtlblgkelhibdoaaGreatDoor
