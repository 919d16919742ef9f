/- Part of the proof: D3. -/
import Derived.Test.YtlblgkelhibdoaaGreatDoorM10
import Derived.Test.YtlblgkelhibdoaaGreatDoorM18
set_option linter.unusedSimpArgs false
set_option linter.unusedVariables false
set_option maxHeartbeats 1000000
set_option maxRecDepth 16000
namespace Go.Proofs.YtlblgkelhibdoaaGreatDoor
open Go Go.SL
open Go.RowKit (wrap64)
attribute [local go_sem] imax_ite imin_ite
theorem move_spec (r : Rect) (dx dy : Int) : Pure Sg 40 [ag (rectE r), I dx, I dy] (fun x => x = .b (ag (rectE (moveR r dx dy)))) := by
 refine fn_a Tryz.func40 [.cell 6 32] ?_
 repeat' (first | refine un_a ?_ | ((with_reducible refine cw_stepV (id := 1) (fun K hW => ?_)); (try simp (maxSteps := 1000000) (disch := omega) only [go_sem]); and_intros; (all_goals first | (refine hK _ ?_; clear hK K) | exact auto_cl | skip)) | ((first | refine st_a (fun K hK => ?_) | refine call_c (rempty_spec _) ?_); and_intros; (all_goals first | (refine hK _ ?_; clear hK K) | exact auto_cl | skip)))
 refine rgs_split (.c .any) ?_ ?_ trivial ?_ (fun hg => ?_) (fun hg => ?_)
 ·rfl
 ·rfl
 ·(first | (simp (maxSteps := 1000000) (disch := omega) only [go_sem]; done) | (simp (maxSteps := 1000000) (disch := omega) only [go_sem]; rfl))
 ·have hg2 : emptyR r = false := by simpa using hg
  simp (maxSteps := 1000000) (disch := omega) only [go_sem]
  and_intros
  all_goals first | (refine hK _ ?_; clear hK K) | exact auto_cl | skip
  refine gcall_lend (args' := [I 2147483648, .c (.p (ints [dx, dy]))]) hg ?_ (within_spec 2147483648 [dx, dy] (by omega) (by omega) (by simp)) ?_ (by trivial) trivial ?_
  ·simp (maxSteps := 1000000) (disch := omega) only [go_sem]
  ·simp (maxSteps := 1000000) (disch := omega) only [go_sem, argsLe_cons, argsLe_nil]
   refine ⟨bvle_refl, bvle_p (lst_le fun i hi j hj => ?_)⟩
   have h1 : i = 0 ∨ i = 1 := by omega
   have h2 : j = 0 := by omega
   subst h2
   rcases h1 with rfl | rfl <;> rfl
  simp (maxSteps := 1000000) (disch := omega) only [go_sem]
  and_intros
  all_goals first | (refine hK _ ?_; clear hK K) | exact auto_cl | skip
  refine hW _ (mkSt [(1, .b (I dx)), (2, .b (I dy)), (3, .b (.c (.ptr 0 0))), (6, .b (.c (.ptr 1 0))), (15, .b (B (!withinM 2147483648 [dx, dy])))] [(0, .fix ((rectE r).map CV.p)), (1, .fix ((rectE zeroR).map CV.p))] 2) ?_ ?_
  ·clear hW
   refine le_a [(1, some 1)] ?_ ?_
   and_intros
   all_goals first | exact le_cl | skip
   rw [hg2]; exact .inl rfl
  ·clear hW
   cases hq : withinM 2147483648 [dx, dy] with
   | false =>
    repeat' (first | refine un_a ?_ | (refine st_a (fun K hK => ?_); and_intros; (all_goals first | (refine hK _ ?_; clear hK K) | exact auto_cl | skip)) | (refine if_a (fun hb => ?_) (fun hb => ?_); all_goals try exact bad_a) | (refine ret_a ?_; (try clear hB KB); (try clear hK K)))
    rw [moveR, if_pos (.inr (by simp only [withinM, List.all_cons, List.all_nil, Bool.and_true, Bool.and_eq_false_iff, decide_eq_false_iff_not] at hq; omega))]; rfl
   | true =>
    simp only [withinM, List.all_cons, List.all_nil, Bool.and_true, Bool.and_eq_true, decide_eq_true_eq] at hq
    have hv := empty_iff.1 hg2
    repeat' (first | refine un_a ?_ | ((first | refine st_a (fun K hK => ?_) | refine call_c (rclean_spec ⟨r.x0 + dx, r.y0 + dy, r.x1 + dx, r.y1 + dy⟩) ?_); and_intros; (all_goals first | (refine hK _ ?_; clear hK K) | exact auto_cl | skip)) | (refine if_a (fun hb => ?_) (fun hb => ?_); all_goals try exact bad_a) | (refine ret_a ?_; (try clear hB KB); (try clear hK K)))
    ·cases hb
    ·rw [moveR, if_neg (by rw [hg2]; simp; omega)]; rfl
 ·have hg2 : emptyR r = true := by simpa using hg
  simp (maxSteps := 1000000) (disch := omega) only [go_sem]
  and_intros
  all_goals first | (refine hK _ ?_; clear hK K) | exact auto_cl | skip
  refine gcall_off (B true) hg trivial ?_
  simp (maxSteps := 1000000) (disch := omega) only [go_sem]
  and_intros
  all_goals first | (refine hK _ ?_; clear hK K) | exact auto_cl | skip
  refine hW _ (mkSt [(1, .b (I dx)), (2, .b (I dy)), (3, .b (.c (.ptr 0 0))), (6, .b (.c (.ptr 1 0))), (15, .b (B true))] [(0, .fix ((rectE r).map CV.p)), (1, .fix ((rectE zeroR).map CV.p))] 2) ?_ ?_
  ·clear hW
   refine le_a [(1, some 1)] ?_ ?_
   and_intros
   all_goals first | exact le_cl | skip
   rw [hg2]; exact .inl rfl
  ·clear hW
   repeat' (first | refine un_a ?_ | (refine st_a (fun K hK => ?_); and_intros; (all_goals first | (refine hK _ ?_; clear hK K) | exact auto_cl | skip)) | (refine if_a (fun hb => ?_) (fun hb => ?_); all_goals try exact bad_a) | (refine ret_a ?_; (try clear hB KB); (try clear hK K)))
   rw [moveR, if_pos (.inl hg2)]; rfl
theorem hull_take {l : List Rect} {i : Nat} (h : i < l.length) : hullM (l.take (i + 1)) = hull1 (hullM (l.take i)) (l.getD i default) := by
 rw [List.take_add_one, List.getElem?_eq_getElem h, List.getD_eq_getElem?_getD, List.getElem?_eq_getElem h]
 exact hull_snoc _ _
theorem hull_spec (l : List Rect) (hl : l.length ≤ 4611686018427387904) : Pure Sg 41 [.c (.p (rectL l))] (fun x => x = .b (ag (rectE (hullM l)))) := by
 refine fn_a Tryz.func41 [.cell 2 32] ?_
 repeat' (first | refine un_a ?_ | (refine st_a (fun K hK => ?_); and_intros; (all_goals first | (refine hK _ ?_; clear hK K) | exact auto_cl | skip)))
 refine cw_loop (X := Nat × Rect) (fun x => mkSt [(2, .b (.c (.ptr 0 0))), (3, .b (.c (.ptr 1 0))), (6, .b (.c (.p (rectL l)))), (7, .b (I l.length)), (8, .b (I x.1))] [(0, .fix ((rectE zeroR).map CV.p)), (1, .fix ((rectE x.2).map CV.p))] 2)
  (fun x => x.1 ≤ l.length ∧ x.2 = hullM (l.take x.1)) (fun x => l.length - x.1) (0, zeroR) ?_ ?_ ?_
 ·exact ⟨by dsimp only; omega, rfl⟩
 ·refine le_a [(1, some 1)] ?_ ?_
  and_intros
  all_goals first | exact le_cl | skip
 ·rintro ⟨i, h⟩ ⟨hi, hh⟩
  dsimp only at hi hh ⊢
  have e0 := hull_take (l := l) (i := i)
  cases he : emptyR (l.getD i default) with
  | true =>
   repeat' (first | refine dec_a he ?_ | refine un_a ?_ | ((first | refine st_a (fun K hK => ?_) | refine call_c (rempty_spec (l.getD i default)) ?_); and_intros; (all_goals first | (refine hK _ ?_; clear hK K) | exact auto_cl | skip)) | (refine if_a (fun hb => ?_) (fun hb => ?_); all_goals try exact bad_a) | (refine ret_a ?_; (try clear hB KB); (try clear hK K)))
   ·rw [thenQ_normal]
    refine wk_loop (i + 1, h) ?_ ⟨by dsimp only; omega, by rw [e0 (by omega), hull1, if_pos he, hh]⟩ (by dsimp only; omega)
    refine le_a [(1, some 1)] ?_ ?_
    and_intros
    all_goals first | exact le_cl | skip
   ·rw [hh, show i = l.length by omega, List.take_length]; rfl
  | false =>
   cases he2 : emptyR h with
   | true =>
    repeat' (first | refine dec_a (And.intro he he2) ?_ | refine un_a ?_ | ((first | refine st_a (fun K hK => ?_) | refine call_c (rempty_spec (l.getD i default)) ?_ | refine call_c (rempty_spec h) ?_); and_intros; (all_goals first | (refine hK _ ?_; clear hK K) | exact auto_cl | skip)) | (refine if_a (fun hb => ?_) (fun hb => ?_); all_goals try exact bad_a) | (refine ret_a ?_; (try clear hB KB); (try clear hK K)))
    ·rw [thenQ_normal]
     refine wk_loop (i + 1, l.getD i default) ?_ ⟨by dsimp only; omega, by rw [e0 (by omega), hull1, if_neg (by rw [he]; simp), ← hh, if_pos he2]⟩ (by dsimp only; omega)
     refine le_a [(1, some 1)] ?_ ?_
     and_intros
     all_goals first | exact le_cl | skip
    ·rw [hh, show i = l.length by omega, List.take_length]; rfl
   | false =>
    repeat' (first | refine dec_a (And.intro he he2) ?_ | refine un_a ?_ | ((first | refine st_a (fun K hK => ?_) | refine call_c (rempty_spec (l.getD i default)) ?_ | refine call_c (rempty_spec h) ?_); and_intros; (all_goals first | (refine hK _ ?_; clear hK K) | exact auto_cl | skip)) | (refine if_a (fun hb => ?_) (fun hb => ?_); all_goals try exact bad_a) | (refine ret_a ?_; (try clear hB KB); (try clear hK K)))
    ·rw [thenQ_normal]
     refine wk_loop (i + 1, ⟨min h.x0 (l.getD i default).x0, min h.y0 (l.getD i default).y0, max h.x1 (l.getD i default).x1, max h.y1 (l.getD i default).y1⟩) ?_ ⟨by dsimp only; omega, by rw [e0 (by omega), hull1, if_neg (by rw [he]; simp), ← hh, if_neg (by rw [he2]; simp)]⟩ (by dsimp only; omega)
     refine le_a [(1, some 1)] ?_ ?_
     and_intros
     all_goals first | exact le_cl | skip
    ·rw [hh, show i = l.length by omega, List.take_length]; rfl
theorem box_spec (s : Script) (o : Op) (r : Rect) (hs : ScriptLen s) (hm : 0 ≤ o.mask ∧ o.mask ≤ 1000000) : Pure Sg 138 [ag (scriptE s), ag (opE o), ag (rectE r)] (fun x => x = .b (ag (rectE (boxM s o r)))) := by
 refine fn_a Tryz.func138 [.cell 6 32] ?_
 repeat' (first | refine un_a ?_ | ((first | refine st_a (fun K hK => ?_) | refine call_c (neutral_spec o.operator) ?_ | refine call_c (maskRect_spec s o hs hm) ?_ | refine call_c (isect_spec r (maskRectM s o)) ?_); and_intros; (all_goals first | (refine hK _ ?_; clear hK K) | exact auto_cl | skip)) | (refine if_a (fun hb => ?_) (fun hb => ?_); all_goals try exact bad_a) | (refine ret_a ?_; (try clear hB KB); (try clear hK K)))
 ·rw [boxM, if_pos hb]; rfl
 ·rw [boxM, if_neg (by simp [*]), if_pos (by omega)]; rfl
 ·rw [boxM, if_neg (by simp [*]), if_neg (by omega)]; rfl
end Go.Proofs.YtlblgkelhibdoaaGreatDoor
