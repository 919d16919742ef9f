/- Part 5 of the proof: BrS, D6, D7, D8, F24, DA. -/
import Derived.Test.YtkjdljcbpbeehaaDoorM0
import Derived.Test.YtkjdljcbpbeehaaDoorM1
import Derived.Test.YtkjdljcbpbeehaaDoorM2
import Derived.Test.YtkjdljcbpbeehaaDoorM3
import Derived.Test.YtkjdljcbpbeehaaDoorM4
/- The given types of the scenes: whatever a row reads at them is such a scene. -/
set_option maxRecDepth 8000
namespace Go.Proofs.YtkjdljcbpbeehaaDoor
open Go Go.SL

theorem wf_i64 {n : Int} (h : (Lit.int .i64 n).wf = true) : i64 n := bounds_i64 h
theorem wf_u16 {n : Int} (h : (Lit.int .u16 n).wf = true) : u16 n := bounds_u16 h
theorem all_getD {α : Type} [Inhabited α] {p : α → Prop} {l : List α} (h : ∀ x ∈ l, p x) (i : Nat) (hi : i < l.length) : p (l.getD i default) := by
  rw [List.getD_eq_getElem?_getD, List.getElem?_eq_getElem hi]
  exact h _ (List.getElem_mem _)
theorem len_le {n b : Nat} (hb : 0 < b) (h : n * b ≤ reachBytes) : n ≤ 4611686018427387904 := by
  have : n ≤ n * b := Nat.le_mul_of_pos_right _ hb
  have e : reachBytes = 140737488351232 := rfl
  omega

theorem c_int : Cdc Sg.P 3 (fun n => [PI n]) i64 := (cdc_int (k := .i64) (by kernel_rfl)).to id (fun _ => rfl) (fun _ h => wf_i64 h)
theorem c_u16 : Cdc Sg.P 36 (fun n => [PU n]) u16 := (cdc_int (k := .u16) (by kernel_rfl)).to id (fun _ => rfl) (fun _ h => wf_u16 h)
theorem c_bool : Cdc Sg.P 4 (fun b => [PB b]) (fun _ => True) := cdc_bool (by kernel_rfl)
theorem c_ints : Cdc Sg.P 22 (fun l => [ints l]) (fun l => l.length ≤ 4611686018427387904 ∧ ∀ x ∈ l, i64 x) :=
  (cdc_slice (sz := 1) (by8 := 8) (by kernel_rfl) (by kernel_rfl) (by decide) (by kernel_rfl) c_int).to id (fun _ => rfl) (fun _ h => ⟨len_le (by decide) h.1, h.2⟩)
theorem c_raw : Cdc Sg.P 79 rawE RawOk := by
  refine Cdc.to (cdc_struct ?_ ?_ (cdcL_cons c_int rfl (cdcL_cons c_int rfl (cdcL_cons c_int rfl (cdcL_cons c_int rfl (cdcL_cons c_int rfl (cdcL_cons c_int rfl (cdcL_cons c_int rfl (cdcL_cons c_int rfl (cdcL_cons c_int rfl (cdcL_cons c_int rfl (cdcL_cons c_int rfl cdcL_nil))))))))))))
    (fun (a, b, c, d, e, f, g, h, i, j, k, _) => (⟨a, b, c, d, e, f, g, h, i, j, k⟩ : Raw)) (fun _ => rfl) ?_
  · kernel_rfl
  · kernel_rfl
  · rintro _ ⟨h1, h2, h3, h4, h5, h6, h7, h8, h9, h10, h11, _⟩
    exact ⟨h1, h2, h3, h4, h5, h6, h7, h8, h9, h10, h11⟩
theorem c_n5 : Cdc Sg.P 142 n5E N5ok := by
  refine Cdc.to (cdc_struct ?_ ?_ (cdcL_cons c_int rfl (cdcL_cons c_int rfl (cdcL_cons c_int rfl (cdcL_cons c_int rfl (cdcL_cons c_int rfl cdcL_nil)))))) (fun (a, b, c, d, e, _) => (⟨a, b, c, d, e⟩ : N5)) (fun _ => rfl) ?_
  · kernel_rfl
  · kernel_rfl
  · rintro _ ⟨h1, h2, h3, h4, h5, _⟩
    exact ⟨h1, h2, h3, h4, h5⟩
theorem c_n5s : Cdc Sg.P 72 (fun l => [n5L l]) (fun l => l.length ≤ 4611686018427387904 ∧ ∀ x ∈ l, N5ok x) :=
  (cdc_slice (sz := 5) (by8 := 40) (by kernel_rfl) (by kernel_rfl) (by decide) (by kernel_rfl) c_n5).to id (fun _ => rfl) (fun _ h => ⟨len_le (by decide) h.1, h.2⟩)
theorem c_row : Cdc Sg.P 74 rowE RowOk := by
  refine Cdc.to (cdc_struct ?_ ?_ (cdcL_cons c_int rfl (cdcL_cons c_n5s rfl cdcL_nil))) (fun (a, b, _) => (⟨a, b⟩ : Row)) (fun _ => rfl) ?_
  · kernel_rfl
  · kernel_rfl
  · rintro _ ⟨h1, h2, _⟩
    exact ⟨h1, all_getD h2.2, h2.1⟩
theorem c_pic : Cdc Sg.P 76 picE PicOk := by
  refine Cdc.to (cdc_struct ?_ ?_ (cdcL_cons c_int rfl (cdcL_cons c_int rfl (cdcL_cons c_int rfl (cdcL_cons c_row rfl cdcL_nil))))) (fun (a, b, c, d, _) => (⟨a, b, c, d⟩ : Pic)) (fun _ => rfl) ?_
  · kernel_rfl
  · kernel_rfl
  · rintro _ ⟨h1, h2, h3, h4, _⟩
    exact ⟨h1, h2, h3, h4⟩
theorem c_pics : Cdc Sg.P 23 (fun l => [picL l]) (fun l => l.length ≤ 4611686018427387904 ∧ ∀ x ∈ l, PicOk x) :=
  (cdc_slice (sz := 5) (by8 := 56) (by kernel_rfl) (by kernel_rfl) (by decide) (by kernel_rfl) c_pic).to id (fun _ => rfl) (fun _ h => ⟨len_le (by decide) h.1, h.2⟩)
theorem c_raws : Cdc Sg.P 24 (fun l => [rawL l]) (fun l => l.length ≤ 4611686018427387904 ∧ ∀ x ∈ l, RawOk x) :=
  (cdc_slice (sz := 11) (by8 := 88) (by kernel_rfl) (by kernel_rfl) (by decide) (by kernel_rfl) c_raw).to id (fun _ => rfl) (fun _ h => ⟨len_le (by decide) h.1, h.2⟩)
theorem c_scene : Cdc Sg.P 26 sceneE SceneOk := by
  refine Cdc.to (cdc_struct ?_ ?_ (cdcL_cons c_int rfl (cdcL_cons c_int rfl (cdcL_cons c_int rfl (cdcL_cons c_int rfl (cdcL_cons c_int rfl (cdcL_cons c_int rfl (cdcL_cons c_int rfl (cdcL_cons c_ints rfl (cdcL_cons c_pics rfl (cdcL_cons c_raws rfl cdcL_nil)))))))))))
    (fun (a, b, c, d, e, f, g, h, i, j, _) => (⟨a, b, c, d, e, f, g, h, i, j⟩ : Scene)) (fun _ => rfl) ?_
  · kernel_rfl
  · kernel_rfl
  · rintro _ ⟨h1, h2, h3, h4, h5, h6, h7, h8, h9, h10, _⟩
    exact ⟨h1, h2, h3, h4, h5, h6, h7, h8.1, h9.1, h10.1, all_getD h9.2, all_getD h10.2⟩
theorem c_op : Cdc Sg.P 62 opE (fun o => i64 o.kind ∧ i64 o.image ∧ i64 o.x ∧ i64 o.y ∧ i64 o.mask ∧ i64 o.maskX ∧ i64 o.maskY ∧ u16 o.opacity ∧ i64 o.operator ∧ i64 o.mode) := by
  refine Cdc.to (cdc_struct ?_ ?_ (cdcL_cons c_int rfl (cdcL_cons c_int rfl (cdcL_cons c_int rfl (cdcL_cons c_int rfl (cdcL_cons c_int rfl (cdcL_cons c_int rfl (cdcL_cons c_int rfl (cdcL_cons c_u16 rfl (cdcL_cons c_int rfl (cdcL_cons c_int rfl (cdcL_cons c_bool rfl (cdcL_cons c_bool rfl cdcL_nil)))))))))))))
    (fun (a, b, c, d, e, f, g, h, i, j, k, l, _) => (⟨a, b, c, d, e, f, g, h, i, j, k, l⟩ : Op)) (fun _ => rfl) ?_
  · kernel_rfl
  · kernel_rfl
  · rintro _ ⟨h1, h2, h3, h4, h5, h6, h7, h8, h9, h10, _⟩
    exact ⟨h1, h2, h3, h4, h5, h6, h7, h8, h9, h10⟩
end Go.Proofs.YtkjdljcbpbeehaaDoor

/- The boxes, as the program computes them. -/
set_option linter.unusedSimpArgs false
set_option linter.unusedVariables false
set_option maxRecDepth 8000
set_option maxHeartbeats 2000000
namespace Go.Proofs.YtkjdljcbpbeehaaDoor
open Go Go.SL
open Go.RowKit (wrap64)

/-- A list of rectangles that are given by a function. -/
def rectsF (n : Nat) (f : Nat → Rect) : PV := .lst 4 n (fun a j => (rectE (f a)).getD j .any)
/-- A stack of rectangles in a slice, the top last, with what is left behind it. -/
def rF (l junk : List Rect) (a : Nat) : Rect := (l.reverse ++ junk).getD a zeroR
theorem rF_top {p : Rect} {t junk : List Rect} : rF (p :: t) junk t.length = p := by
  rw [rF, List.reverse_cons, List.append_assoc, List.getD_eq_getElem?_getD, List.getElem?_append_right (by simp)]
  simp
theorem rF_pop {p : Rect} {t junk : List Rect} : rF (p :: t) junk = rF t (p :: junk) := by
  funext a; rw [rF, rF, List.reverse_cons, List.append_assoc]; rfl
theorem rF_top2 {q p : Rect} {t junk : List Rect} : rF (q :: p :: t) junk t.length = p := by rw [rF_pop, rF_top]
theorem rF_top3 {q p : Rect} {t junk : List Rect} : rF (q :: p :: t) junk (t.length + 1) = q := rF_top (t := p :: t)
theorem rF_old {l : List Rect} {i : Rect} {a : Nat} {junk : List Rect} (h : a < l.length) : rF (i :: l) [] a = rF l junk a := by
  rw [rF, rF, List.reverse_cons, List.append_nil, List.getD_eq_getElem?_getD, List.getD_eq_getElem?_getD, List.getElem?_append_left (by simpa using h), List.getElem?_append_left (by simpa using h)]
theorem rF_set {l : List Rect} {x y : Rect} {a : Nat} {junk : List Rect} (h : a ≠ l.length) : rF (x :: l) junk a = rF (y :: l) junk a := by
  rw [rF, rF, List.reverse_cons, List.reverse_cons, List.append_assoc, List.append_assoc, List.getD_eq_getElem?_getD, List.getD_eq_getElem?_getD]
  rcases Nat.lt_or_ge a l.reverse.length with q | q
  · rw [List.getElem?_append_left q, List.getElem?_append_left q]
  · rw [List.getElem?_append_right q, List.getElem?_append_right q]
    have : a - l.reverse.length ≠ 0 := by simp at q ⊢; omega
    cases hk : a - l.reverse.length with
    | zero => exact absurd hk this
    | succ k => rfl
attribute [local go_sem] pred_cast2 Int.toNat_natCast stF_top rF_top rF_top2 rF_top3
theorem rect_flat (r : Rect) : (SV.b (ag (rectE r))).flat := fun c hc => by
  obtain ⟨x, hx, rfl⟩ := List.mem_map.1 hc
  simp only [rectE, List.mem_cons, List.not_mem_nil, or_false] at hx
  rcases hx with rfl | rfl | rfl | rfl <;> trivial
theorem bx_len {s : Script} (W : Wf s.ops) : ∀ i, i ≤ s.ops.length → (bxAt s i).2.length = (stk s.ops i).length + 1
  | 0, _ => rfl
  | i + 1, hi => by
    have ih := bx_len W i (by omega)
    rcases W.kinds i (by omega) with k | k | k
    · rw [stk_draw k, bxAt, if_neg (by omega), if_pos k]; simp [push1]; omega
    · rw [stk_push k, bxAt, if_pos k]; simp; omega
    · have := W.pops i (by omega) k
      rw [stk_pop k, bxAt, if_neg (by omega), if_neg (by omega)]; simp [push1]
      have : 0 < (stk s.ops i).length := List.length_pos_iff.2 this
      omega
theorem mask_ok {s : Script} (V : VOps s) {i : Nat} (hi : i < s.ops.length) (hk : (opAt s.ops i).kind ≠ 3) : 0 ≤ (opAt s.ops i).mask ∧ (opAt s.ops i).mask ≤ 1000000 := by
  have h := ((opErr_zero.1 (V.ok i hi)).2.2.2 hk).1
  have := V.imgs
  omega
theorem okAll_of {s : Script} (V : VOps s) : ∀ i, i ≤ s.ops.length → okAll s.bits s.images.length (s.ops.drop (s.ops.length - i)) (openAfter (s.ops.take (s.ops.length - i)) [])
  | 0, _ => by rw [Nat.sub_zero, List.drop_length]; trivial
  | i + 1, hi => by
    have hl : s.ops.length - (i + 1) < s.ops.length := by omega
    have e : opAt s.ops (s.ops.length - (i + 1)) = s.ops[s.ops.length - (i + 1)] := by rw [opAt, List.getD_eq_getElem?_getD, List.getElem?_eq_getElem hl]; rfl
    have ih := okAll_of V i (by omega)
    rw [List.drop_eq_getElem_cons hl]
    refine ⟨?_, ?_⟩
    · rw [open_take _ (by omega), ← e]; exact V.ok _ hl
    · have e2 : s.ops.length - (i + 1) + 1 = s.ops.length - i := by omega
      rw [e2]
      rw [← e2, List.take_add_one, List.getElem?_eq_getElem hl, openAfter_append, e2] at ih
      exact ih
theorem vops0 {s : Script} (V : VOps s) : opsM s = (0, 0) := by
  rw [opsM, if_pos V.frame]
  refine opsGo_ok ?_ ?_
  · have := okAll_of V _ (Nat.le_refl _)
    rw [Nat.sub_self] at this
    exact this
  · have := open_take (ops := s.ops) s.ops.length (Nat.le_refl _)
    rw [List.take_length, V.wf.fin] at this
    exact this
theorem boxes_spec (s : Script) (V : VOps s) (hs' : ScriptLen s) : Pure Sg 58 [ag (scriptE s)] (fun x => x = .tup [.c (.p (rectsF s.ops.length (boxesM s))), I 0]) := by
  have hn := V.cnt
  have W := V.wf
  have ho := vops_spec s hs'
  rw [vops0 V] at ho
  refine pure_of Tryd.func58 rfl (rs := [.tmp 2, .tmp 3]) rfl rfl mixed (by decide +kernel) (Nat.le_of_ble_eq_true rfl) (argsLt_mem (by simp (maxSteps := 1000000) (disch := omega) only [go_sem])) ?_
  repeat' (first | refine cw_assoc ?_ | refine cw_skips ?_ | refine cw_labels ?_ | ((first | refine cw_step (fun K hK => ?_) | refine cw_last (fun K hK => ?_) | refine cw_stepD (by decide +kernel) (by decide +kernel) (fun K hK => ?_) | refine cw_lastD (by decide +kernel) (by decide +kernel) (fun K hK => ?_) | refine rgB_some ?_ | refine call_a (ho) ?_ | refine gcall_a (fun hg => ho) ?_); (try simp (maxSteps := 1000000) (disch := omega) only [go_sem]); (repeat' (refine And.intro ?_ ?_)); (all_goals first | (refine hK _ ?_; clear hK K) | exact auto_cl | skip)) | ((first | apply cw_ite | apply cw_iteN); (case hf => rfl); (case hc => simp (maxSteps := 1000000) (disch := omega) only [go_sem]; rfl); (all_goals first | (intro hb; (try simp only [decide_eq_true_eq, decide_eq_false_iff_not, beq_iff_eq, beq_eq_false_iff_ne, bne_iff_ne, bne_eq_false_iff_eq, ne_eq, Bool.not_eq_true, Bool.not_eq_false, Bool.not_true, Bool.not_false, Bool.not_eq_eq_eq_not, Int.not_lt, Int.not_le, gt_iff_lt, ge_iff_le, Bool.cond_eq_ite, Bool.if_false_right, Bool.if_true_left, Bool.and_eq_true, Bool.or_eq_true, Bool.and_eq_false_imp, Bool.or_eq_false_iff, Decidable.not_not, beq_true, beq_false, iteT, iteF, cond_true, cond_false] at hb)) | skip)) | exact atN_intro | ((first | apply cw_if | apply cw_cond); (case hc => simp (maxSteps := 1000000) (disch := omega) only [go_sem]; rfl); (all_goals (intro hb; (try simp only [decide_eq_true_eq, decide_eq_false_iff_not, beq_iff_eq, beq_eq_false_iff_ne, bne_iff_ne, bne_eq_false_iff_eq, ne_eq, Bool.not_eq_true, Bool.not_eq_false, Bool.not_true, Bool.not_false, Bool.not_eq_eq_eq_not, Int.not_lt, Int.not_le, gt_iff_lt, ge_iff_le, Bool.cond_eq_ite, Bool.if_false_right, Bool.if_true_left, Bool.and_eq_true, Bool.or_eq_true, Bool.and_eq_false_imp, Bool.or_eq_false_iff, Decidable.not_not, beq_true, beq_false, iteT, iteF, cond_true, cond_false] at hb); try (exfalso; omega)))) | (refine cw_blocks (fun KB hB => ?_)) | (refine cw_block ?_) | ((first | refine cw_exits ?_ | refine cw_exit ?_ | refine cw_skip ?_); simp (maxSteps := 1000000) (disch := omega) only [go_sem]) | (refine hB _ ?_; clear hB KB) | (refine exit_by (S := Sg) (by assumption) ?_) | ((first | refine cw_rets ?_ | refine cw_ret ?_); simp (maxSteps := 1000000) (disch := omega) only [go_sem]; (try clear hB KB); (try clear hK K)))
  · simp at hb
  refine cw_loop (X := Nat × List Nat × List Rect) (fun x => mkSt [(1, .b (.c (.ptr 0 0))), (2, .b (.c (.p (.val (.slice none 0 0))))), (3, .b (I 0)), (6, .b (.c (.own 1 s.ops.length))), (7, .b (.c (.own 3 (stk s.ops x.1).length))),
    (8, .b (.c (.own 2 (bxAt s x.1).2.length))), (28, .b (.c (.p (opL s.ops)))), (29, .b (I s.ops.length)), (30, .b (I x.1))]
    [(0, .fix ((scriptE s).map CV.p)), (1, .arr 28 4 s.ops.length (fun a j => (rectE ((bxAt s x.1).1 a)).getD j .any)), (2, .arr 28 4 ((bxAt s x.1).2.length + x.2.2.length) (fun a j => (rectE (rF (bxAt s x.1).2 x.2.2 a)).getD j .any)),
      (3, .arr 3 1 ((stk s.ops x.1).length + x.2.1.length) (fun a _ => PI (stF (stk s.ops x.1) x.2.1 a)))] 4)
    (fun x => x.1 ≤ s.ops.length) (fun x => s.ops.length - x.1) (0, [], []) ?_ ?_ ?_
  · exact Nat.zero_le _
  · refine le_of [(1, some 1), (2, some 2), (3, none)] rfl (by decide) rfl ?_ ?_
    all_goals simp (maxSteps := 1000000) (disch := omega) only [go_sem]
    repeat' (refine And.intro ?_ ?_)
    all_goals first | rfl | omega | exact .inl rfl | trivial | skip
    · refine .inr fun a ha j hj => ?_
      have hivl : j = 0 ∨ j = 1 ∨ j = 2 ∨ j = 3 := by omega
      rcases hivl with rfl | rfl | rfl | rfl <;> exact fun _ _ _ h => h
    · refine .inr fun a ha j hj => ?_
      have ea : a = 0 := by omega
      subst ea
      have hivl : j = 0 ∨ j = 1 ∨ j = 2 ∨ j = 3 := by omega
      rcases hivl with rfl | rfl | rfl | rfl <;> exact fun _ _ _ h => h
  · rintro ⟨i, junk, junk2⟩ hi
    dsimp only at hi ⊢
    have hsl := stk_len s.ops i
    have hbl := bx_len W i hi
    rcases Nat.lt_or_ge i s.ops.length with hlt | hge
    · cases hh : (bxAt s i).2 with
      | nil => rw [hh] at hbl; simp at hbl
      | cons h0 hs0 =>
        have hl0 : hs0.length ≤ 4096 := by rw [hh] at hbl; simp at hbl; omega
        rcases W.kinds i hlt with hk | hk | hk
        · have hk2 : (s.ops.getD i default).kind = 1 := hk
          have hm := mask_ok V hlt (by omega)
          repeat' (first | ((first | apply cw_ifT | apply cw_condT); (case hc => simp (maxSteps := 1000000) (disch := omega) only [go_sem]; rfl); (case ht => (simp only [Int.toNat_natCast, Int.reduceBEq, Int.reduceBNe, Int.reduceLT, Int.reduceLE, decide_true, decide_false, Bool.not_true, Bool.not_false, Bool.and_true, Bool.true_and, Bool.and_false, Bool.false_and, Bool.or_true, Bool.true_or, Bool.or_false, Bool.false_or, hk2]; done))) | ((first | apply cw_ifF | apply cw_condF); (case hc => simp (maxSteps := 1000000) (disch := omega) only [go_sem]; rfl); (case ht => (simp only [Int.toNat_natCast, Int.reduceBEq, Int.reduceBNe, Int.reduceLT, Int.reduceLE, decide_true, decide_false, Bool.not_true, Bool.not_false, Bool.and_true, Bool.true_and, Bool.and_false, Bool.false_and, Bool.or_true, Bool.true_or, Bool.or_false, Bool.false_or, hk2]; done))) | refine cw_assoc ?_ | refine cw_skips ?_ | refine cw_labels ?_ | ((first | refine cw_step (fun K hK => ?_) | refine cw_last (fun K hK => ?_) | refine cw_stepD (by decide +kernel) (by decide +kernel) (fun K hK => ?_) | refine cw_lastD (by decide +kernel) (by decide +kernel) (fun K hK => ?_) | refine rgB_some ?_ | refine call_a (imageRect_spec s (s.ops.getD i default) hs') ?_ | refine gcall_a (fun hg => imageRect_spec s (s.ops.getD i default) hs') ?_ | refine call_a (box_spec s (s.ops.getD i default) (imageRectM s (s.ops.getD i default)) hs' hm) ?_ | refine gcall_a (fun hg => box_spec s (s.ops.getD i default) (imageRectM s (s.ops.getD i default)) hs' hm) ?_); (try simp (maxSteps := 1000000) (disch := omega) only [go_sem]); (repeat' (refine And.intro ?_ ?_)); (all_goals first | (refine hK _ ?_; clear hK K) | exact auto_cl | skip)) | ((first | apply cw_ite | apply cw_iteN); (case hf => rfl); (case hc => simp (maxSteps := 1000000) (disch := omega) only [go_sem]; rfl); (all_goals first | (intro hb; (try simp only [decide_eq_true_eq, decide_eq_false_iff_not, beq_iff_eq, beq_eq_false_iff_ne, bne_iff_ne, bne_eq_false_iff_eq, ne_eq, Bool.not_eq_true, Bool.not_eq_false, Bool.not_true, Bool.not_false, Bool.not_eq_eq_eq_not, Int.not_lt, Int.not_le, gt_iff_lt, ge_iff_le, Bool.cond_eq_ite, Bool.if_false_right, Bool.if_true_left, Bool.and_eq_true, Bool.or_eq_true, Bool.and_eq_false_imp, Bool.or_eq_false_iff, Decidable.not_not, beq_true, beq_false, iteT, iteF, cond_true, cond_false] at hb)) | skip)) | exact atN_intro | ((first | apply cw_if | apply cw_cond); (case hc => simp (maxSteps := 1000000) (disch := omega) only [go_sem]; rfl); (all_goals (intro hb; (try simp only [decide_eq_true_eq, decide_eq_false_iff_not, beq_iff_eq, beq_eq_false_iff_ne, bne_iff_ne, bne_eq_false_iff_eq, ne_eq, Bool.not_eq_true, Bool.not_eq_false, Bool.not_true, Bool.not_false, Bool.not_eq_eq_eq_not, Int.not_lt, Int.not_le, gt_iff_lt, ge_iff_le, Bool.cond_eq_ite, Bool.if_false_right, Bool.if_true_left, Bool.and_eq_true, Bool.or_eq_true, Bool.and_eq_false_imp, Bool.or_eq_false_iff, Decidable.not_not, beq_true, beq_false, iteT, iteF, cond_true, cond_false] at hb); try (exfalso; omega)))) | (refine cw_blocks (fun KB hB => ?_)) | (refine cw_block ?_) | ((first | refine cw_exits ?_ | refine cw_exit ?_ | refine cw_skip ?_); simp (maxSteps := 1000000) (disch := omega) only [go_sem]) | (refine hB _ ?_; clear hB KB) | (refine exit_by (S := Sg) (by assumption) ?_) | ((first | refine cw_rets ?_ | refine cw_ret ?_); simp (maxSteps := 1000000) (disch := omega) only [go_sem]; (try clear hB KB); (try clear hK K)))
          refine call_lends ?_ ?_ (by simp (maxSteps := 1000000) (disch := omega) only [go_sem]) ?_ (hull_spec [h0, boxM s (opAt s.ops i) (imageRectM s (opAt s.ops i))] (by simp))
          try simp (maxSteps := 1000000) (disch := omega) only [go_sem]
          try (refine hK _ ?_; clear hK K)
          · refine And.intro (by omega) (hK _ ?_)
            clear hK
            repeat' (first | refine cw_assoc ?_ | refine cw_skips ?_ | refine cw_labels ?_ | ((first | refine cw_step (fun K hK => ?_) | refine cw_last (fun K hK => ?_) | refine cw_stepD (by decide +kernel) (by decide +kernel) (fun K hK => ?_) | refine cw_lastD (by decide +kernel) (by decide +kernel) (fun K hK => ?_) | refine rgB_some ?_); (try simp (maxSteps := 1000000) (disch := omega) only [go_sem]); (repeat' (refine And.intro ?_ ?_)); (all_goals first | (refine hK _ ?_; clear hK K) | exact auto_cl | skip)) | ((first | apply cw_ite | apply cw_iteN); (case hf => rfl); (case hc => simp (maxSteps := 1000000) (disch := omega) only [go_sem]; rfl); (all_goals first | (intro hb; (try simp only [decide_eq_true_eq, decide_eq_false_iff_not, beq_iff_eq, beq_eq_false_iff_ne, bne_iff_ne, bne_eq_false_iff_eq, ne_eq, Bool.not_eq_true, Bool.not_eq_false, Bool.not_true, Bool.not_false, Bool.not_eq_eq_eq_not, Int.not_lt, Int.not_le, gt_iff_lt, ge_iff_le, Bool.cond_eq_ite, Bool.if_false_right, Bool.if_true_left, Bool.and_eq_true, Bool.or_eq_true, Bool.and_eq_false_imp, Bool.or_eq_false_iff, Decidable.not_not, beq_true, beq_false, iteT, iteF, cond_true, cond_false] at hb)) | skip)) | exact atN_intro | ((first | apply cw_if | apply cw_cond); (case hc => simp (maxSteps := 1000000) (disch := omega) only [go_sem]; rfl); (all_goals (intro hb; (try simp only [decide_eq_true_eq, decide_eq_false_iff_not, beq_iff_eq, beq_eq_false_iff_ne, bne_iff_ne, bne_eq_false_iff_eq, ne_eq, Bool.not_eq_true, Bool.not_eq_false, Bool.not_true, Bool.not_false, Bool.not_eq_eq_eq_not, Int.not_lt, Int.not_le, gt_iff_lt, ge_iff_le, Bool.cond_eq_ite, Bool.if_false_right, Bool.if_true_left, Bool.and_eq_true, Bool.or_eq_true, Bool.and_eq_false_imp, Bool.or_eq_false_iff, Decidable.not_not, beq_true, beq_false, iteT, iteF, cond_true, cond_false] at hb); try (exfalso; omega)))) | (refine cw_blocks (fun KB hB => ?_)) | (refine cw_block ?_) | ((first | refine cw_exits ?_ | refine cw_exit ?_ | refine cw_skip ?_); simp (maxSteps := 1000000) (disch := omega) only [go_sem]) | (refine hB _ ?_; clear hB KB) | (refine exit_by (S := Sg) (by assumption) ?_) | ((first | refine cw_rets ?_ | refine cw_ret ?_); simp (maxSteps := 1000000) (disch := omega) only [go_sem]; (try clear hB KB); (try clear hK K)))
            rw [thenQ_normal]
            refine wk_loop (i + 1, junk, junk2) ?_ (by dsimp only; omega) (by dsimp only; omega)
            dsimp only
            rw [stk_draw hk, show bxAt s (i + 1) = (upd (bxAt s i).1 i (boxM s (opAt s.ops i) (imageRectM s (opAt s.ops i))), push1 (bxAt s i).2 (boxM s (opAt s.ops i) (imageRectM s (opAt s.ops i)))) from by rw [bxAt, if_neg (by omega), if_pos hk], hh]
            dsimp only [push1, List.headD, List.tail]
            refine le_of [(1, some 1), (2, some 2), (3, some 3)] rfl (by decide) rfl ?_ ?_
            all_goals simp (maxSteps := 1000000) (disch := omega) only [go_sem]
            repeat' (refine And.intro ?_ ?_)
            all_goals first | rfl | omega | exact .inl rfl | trivial | skip
            · refine .inr fun a ha j hj => ?_
              by_cases e : a = i
              · rw [if_pos e, if_pos (by omega), e, upd_self]
                have hivl : j = 0 ∨ j = 1 ∨ j = 2 ∨ j = 3 := by omega
                rcases hivl with rfl | rfl | rfl | rfl <;> exact fun _ _ _ h => h
              · rw [if_neg e, upd_ne _ _ e]; exact fun _ _ _ h => h
            · refine .inr fun a ha j hj => ?_
              by_cases e : a = hs0.length
              · rw [if_pos e, if_pos (by omega), e, rF_top]
                have hivl : j = 0 ∨ j = 1 ∨ j = 2 ∨ j = 3 := by omega
                rcases hivl with rfl | rfl | rfl | rfl <;> exact fun _ _ _ h => h
              · rw [if_neg e, rF_set (x := hullM [h0, boxM s (opAt s.ops i) (imageRectM s (opAt s.ops i))]) (y := h0) e]; exact fun _ _ _ h => h
          · simp (maxSteps := 1000000) (disch := omega) only [go_sem, argsLe_cons, argsLe_nil]
            refine bvle_p (lst_le fun a ha j hj => ?_)
            have ea : a = 0 ∨ a = 1 := by omega
            rcases ea with rfl | rfl
            · have hivl : j = 0 ∨ j = 1 ∨ j = 2 ∨ j = 3 := by omega
              rcases hivl with rfl | rfl | rfl | rfl <;> rfl
            · have hivl : j = 0 ∨ j = 1 ∨ j = 2 ∨ j = 3 := by omega
              rcases hivl with rfl | rfl | rfl | rfl <;> rfl
          · exact rect_flat _
        · have hk2 : (s.ops.getD i default).kind = 2 := hk
          repeat' (first | ((first | apply cw_ifT | apply cw_condT); (case hc => simp (maxSteps := 1000000) (disch := omega) only [go_sem]; rfl); (case ht => (simp only [Int.toNat_natCast, Int.reduceBEq, Int.reduceBNe, Int.reduceLT, Int.reduceLE, decide_true, decide_false, Bool.not_true, Bool.not_false, Bool.and_true, Bool.true_and, Bool.and_false, Bool.false_and, Bool.or_true, Bool.true_or, Bool.or_false, Bool.false_or, hk2]; done))) | ((first | apply cw_ifF | apply cw_condF); (case hc => simp (maxSteps := 1000000) (disch := omega) only [go_sem]; rfl); (case ht => (simp only [Int.toNat_natCast, Int.reduceBEq, Int.reduceBNe, Int.reduceLT, Int.reduceLE, decide_true, decide_false, Bool.not_true, Bool.not_false, Bool.and_true, Bool.true_and, Bool.and_false, Bool.false_and, Bool.or_true, Bool.true_or, Bool.or_false, Bool.false_or, hk2]; done))) | refine cw_assoc ?_ | refine cw_skips ?_ | refine cw_labels ?_ | ((first | refine cw_step (fun K hK => ?_) | refine cw_last (fun K hK => ?_) | refine cw_stepD (by decide +kernel) (by decide +kernel) (fun K hK => ?_) | refine cw_lastD (by decide +kernel) (by decide +kernel) (fun K hK => ?_) | refine rgB_some ?_); (try simp (maxSteps := 1000000) (disch := omega) only [go_sem]); (repeat' (refine And.intro ?_ ?_)); (all_goals first | (refine hK _ ?_; clear hK K) | exact auto_cl | skip)) | ((first | apply cw_ite | apply cw_iteN); (case hf => rfl); (case hc => simp (maxSteps := 1000000) (disch := omega) only [go_sem]; rfl); (all_goals first | (intro hb; (try simp only [decide_eq_true_eq, decide_eq_false_iff_not, beq_iff_eq, beq_eq_false_iff_ne, bne_iff_ne, bne_eq_false_iff_eq, ne_eq, Bool.not_eq_true, Bool.not_eq_false, Bool.not_true, Bool.not_false, Bool.not_eq_eq_eq_not, Int.not_lt, Int.not_le, gt_iff_lt, ge_iff_le, Bool.cond_eq_ite, Bool.if_false_right, Bool.if_true_left, Bool.and_eq_true, Bool.or_eq_true, Bool.and_eq_false_imp, Bool.or_eq_false_iff, Decidable.not_not, beq_true, beq_false, iteT, iteF, cond_true, cond_false] at hb)) | skip)) | exact atN_intro | ((first | apply cw_if | apply cw_cond); (case hc => simp (maxSteps := 1000000) (disch := omega) only [go_sem]; rfl); (all_goals (intro hb; (try simp only [decide_eq_true_eq, decide_eq_false_iff_not, beq_iff_eq, beq_eq_false_iff_ne, bne_iff_ne, bne_eq_false_iff_eq, ne_eq, Bool.not_eq_true, Bool.not_eq_false, Bool.not_true, Bool.not_false, Bool.not_eq_eq_eq_not, Int.not_lt, Int.not_le, gt_iff_lt, ge_iff_le, Bool.cond_eq_ite, Bool.if_false_right, Bool.if_true_left, Bool.and_eq_true, Bool.or_eq_true, Bool.and_eq_false_imp, Bool.or_eq_false_iff, Decidable.not_not, beq_true, beq_false, iteT, iteF, cond_true, cond_false] at hb); try (exfalso; omega)))) | (refine cw_blocks (fun KB hB => ?_)) | (refine cw_block ?_) | ((first | refine cw_exits ?_ | refine cw_exit ?_ | refine cw_skip ?_); simp (maxSteps := 1000000) (disch := omega) only [go_sem]) | (refine hB _ ?_; clear hB KB) | (refine exit_by (S := Sg) (by assumption) ?_) | ((first | refine cw_rets ?_ | refine cw_ret ?_); simp (maxSteps := 1000000) (disch := omega) only [go_sem]; (try clear hB KB); (try clear hK K)))
          rw [thenQ_normal]
          refine wk_loop (i + 1, [], []) ?_ (by dsimp only; omega) (by dsimp only; omega)
          dsimp only
          rw [stk_push hk, show bxAt s (i + 1) = ((bxAt s i).1, zeroR :: (bxAt s i).2) from by rw [bxAt, if_pos hk], hh]
          refine le_of [(1, some 1), (2, some 8), (3, some 6)] rfl (by decide) rfl ?_ ?_
          all_goals simp (maxSteps := 1000000) (disch := omega) only [go_sem]
          repeat' (refine And.intro ?_ ?_)
          all_goals first | rfl | omega | exact .inl rfl | trivial | skip
          · refine .inr fun a ha j hj => ?_
            unfold appF
            by_cases h : a < hs0.length + 1
            · rw [if_pos h, rF_old (l := h0 :: hs0) (junk := junk2) (by simpa using h)]; exact fun _ _ _ h => h
            · have ea : a = (h0 :: hs0).length := by simp; omega
              rw [if_neg h, ea, rF_top, show (h0 :: hs0).length - (hs0.length + 1) = 0 by simp]
              have hivl : j = 0 ∨ j = 1 ∨ j = 2 ∨ j = 3 := by omega
              rcases hivl with rfl | rfl | rfl | rfl <;> exact fun _ _ _ h => h
          · refine .inr fun a ha j hj => ?_
            have h2 : j = 0 := by omega
            subst h2
            unfold appF
            by_cases h : a < (stk s.ops i).length
            · rw [if_pos h, stF_old h]; exact fun _ _ _ h => h
            · have ea : a = (stk s.ops i).length := by omega
              rw [if_neg h, ea, stF_top, Nat.sub_self]; exact fun _ _ _ h => h
        · have hk2 : (s.ops.getD i default).kind = 3 := hk
          cases hs : stk s.ops i with
          | nil => exact absurd hs (W.pops i hlt hk)
          | cons p t =>
            cases hs0 with
            | nil => rw [hh, hs] at hbl; simp at hbl
            | cons h1 hs1 =>
            have hl1 : hs1.length ≤ 4096 := by simp at hl0; omega
            have hpi : p < i := stk_lt (ops := s.ops) (by rw [hs]; exact List.mem_cons_self ..)
            have hpk : (opAt s.ops p).kind = 2 := stk_kind (i := i) (by rw [hs]; exact List.mem_cons_self ..)
            have hm := mask_ok V (show p < s.ops.length by omega) (by omega)
            have htl : t.length ≤ 4096 := by rw [hs] at hsl; simp at hsl; omega
            repeat' (first | ((first | apply cw_ifT | apply cw_condT); (case hc => simp (maxSteps := 1000000) (disch := omega) only [go_sem]; rfl); (case ht => (simp only [Int.toNat_natCast, Int.reduceBEq, Int.reduceBNe, Int.reduceLT, Int.reduceLE, decide_true, decide_false, Bool.not_true, Bool.not_false, Bool.and_true, Bool.true_and, Bool.and_false, Bool.false_and, Bool.or_true, Bool.true_or, Bool.or_false, Bool.false_or, hk2]; done))) | ((first | apply cw_ifF | apply cw_condF); (case hc => simp (maxSteps := 1000000) (disch := omega) only [go_sem]; rfl); (case ht => (simp only [Int.toNat_natCast, Int.reduceBEq, Int.reduceBNe, Int.reduceLT, Int.reduceLE, decide_true, decide_false, Bool.not_true, Bool.not_false, Bool.and_true, Bool.true_and, Bool.and_false, Bool.false_and, Bool.or_true, Bool.true_or, Bool.or_false, Bool.false_or, hk2]; done))) | refine cw_assoc ?_ | refine cw_skips ?_ | refine cw_labels ?_ | ((first | refine cw_step (fun K hK => ?_) | refine cw_last (fun K hK => ?_) | refine cw_stepD (by decide +kernel) (by decide +kernel) (fun K hK => ?_) | refine cw_lastD (by decide +kernel) (by decide +kernel) (fun K hK => ?_) | refine rgB_some ?_ | refine call_a (box_spec s (s.ops.getD p default) h0 hs' hm) ?_ | refine gcall_a (fun hg => box_spec s (s.ops.getD p default) h0 hs' hm) ?_); (try simp (maxSteps := 1000000) (disch := omega) only [go_sem]); (repeat' (refine And.intro ?_ ?_)); (all_goals first | (refine hK _ ?_; clear hK K) | exact auto_cl | skip)) | ((first | apply cw_ite | apply cw_iteN); (case hf => rfl); (case hc => simp (maxSteps := 1000000) (disch := omega) only [go_sem]; rfl); (all_goals first | (intro hb; (try simp only [decide_eq_true_eq, decide_eq_false_iff_not, beq_iff_eq, beq_eq_false_iff_ne, bne_iff_ne, bne_eq_false_iff_eq, ne_eq, Bool.not_eq_true, Bool.not_eq_false, Bool.not_true, Bool.not_false, Bool.not_eq_eq_eq_not, Int.not_lt, Int.not_le, gt_iff_lt, ge_iff_le, Bool.cond_eq_ite, Bool.if_false_right, Bool.if_true_left, Bool.and_eq_true, Bool.or_eq_true, Bool.and_eq_false_imp, Bool.or_eq_false_iff, Decidable.not_not, beq_true, beq_false, iteT, iteF, cond_true, cond_false] at hb)) | skip)) | exact atN_intro | ((first | apply cw_if | apply cw_cond); (case hc => simp (maxSteps := 1000000) (disch := omega) only [go_sem]; rfl); (all_goals (intro hb; (try simp only [decide_eq_true_eq, decide_eq_false_iff_not, beq_iff_eq, beq_eq_false_iff_ne, bne_iff_ne, bne_eq_false_iff_eq, ne_eq, Bool.not_eq_true, Bool.not_eq_false, Bool.not_true, Bool.not_false, Bool.not_eq_eq_eq_not, Int.not_lt, Int.not_le, gt_iff_lt, ge_iff_le, Bool.cond_eq_ite, Bool.if_false_right, Bool.if_true_left, Bool.and_eq_true, Bool.or_eq_true, Bool.and_eq_false_imp, Bool.or_eq_false_iff, Decidable.not_not, beq_true, beq_false, iteT, iteF, cond_true, cond_false] at hb); try (exfalso; omega)))) | (refine cw_blocks (fun KB hB => ?_)) | (refine cw_block ?_) | ((first | refine cw_exits ?_ | refine cw_exit ?_ | refine cw_skip ?_); simp (maxSteps := 1000000) (disch := omega) only [go_sem]) | (refine hB _ ?_; clear hB KB) | (refine exit_by (S := Sg) (by assumption) ?_) | ((first | refine cw_rets ?_ | refine cw_ret ?_); simp (maxSteps := 1000000) (disch := omega) only [go_sem]; (try clear hB KB); (try clear hK K)))
            refine call_lends ?_ ?_ (by simp (maxSteps := 1000000) (disch := omega) only [go_sem]) ?_ (hull_spec [h1, boxM s (opAt s.ops p) h0] (by simp))
            try simp (maxSteps := 1000000) (disch := omega) only [go_sem]
            try (refine hK _ ?_; clear hK K)
            · refine And.intro (by omega) (hK _ ?_)
              clear hK
              repeat' (first | refine cw_assoc ?_ | refine cw_skips ?_ | refine cw_labels ?_ | ((first | refine cw_step (fun K hK => ?_) | refine cw_last (fun K hK => ?_) | refine cw_stepD (by decide +kernel) (by decide +kernel) (fun K hK => ?_) | refine cw_lastD (by decide +kernel) (by decide +kernel) (fun K hK => ?_) | refine rgB_some ?_); (try simp (maxSteps := 1000000) (disch := omega) only [go_sem]); (repeat' (refine And.intro ?_ ?_)); (all_goals first | (refine hK _ ?_; clear hK K) | exact auto_cl | skip)) | ((first | apply cw_ite | apply cw_iteN); (case hf => rfl); (case hc => simp (maxSteps := 1000000) (disch := omega) only [go_sem]; rfl); (all_goals first | (intro hb; (try simp only [decide_eq_true_eq, decide_eq_false_iff_not, beq_iff_eq, beq_eq_false_iff_ne, bne_iff_ne, bne_eq_false_iff_eq, ne_eq, Bool.not_eq_true, Bool.not_eq_false, Bool.not_true, Bool.not_false, Bool.not_eq_eq_eq_not, Int.not_lt, Int.not_le, gt_iff_lt, ge_iff_le, Bool.cond_eq_ite, Bool.if_false_right, Bool.if_true_left, Bool.and_eq_true, Bool.or_eq_true, Bool.and_eq_false_imp, Bool.or_eq_false_iff, Decidable.not_not, beq_true, beq_false, iteT, iteF, cond_true, cond_false] at hb)) | skip)) | exact atN_intro | ((first | apply cw_if | apply cw_cond); (case hc => simp (maxSteps := 1000000) (disch := omega) only [go_sem]; rfl); (all_goals (intro hb; (try simp only [decide_eq_true_eq, decide_eq_false_iff_not, beq_iff_eq, beq_eq_false_iff_ne, bne_iff_ne, bne_eq_false_iff_eq, ne_eq, Bool.not_eq_true, Bool.not_eq_false, Bool.not_true, Bool.not_false, Bool.not_eq_eq_eq_not, Int.not_lt, Int.not_le, gt_iff_lt, ge_iff_le, Bool.cond_eq_ite, Bool.if_false_right, Bool.if_true_left, Bool.and_eq_true, Bool.or_eq_true, Bool.and_eq_false_imp, Bool.or_eq_false_iff, Decidable.not_not, beq_true, beq_false, iteT, iteF, cond_true, cond_false] at hb); try (exfalso; omega)))) | (refine cw_blocks (fun KB hB => ?_)) | (refine cw_block ?_) | ((first | refine cw_exits ?_ | refine cw_exit ?_ | refine cw_skip ?_); simp (maxSteps := 1000000) (disch := omega) only [go_sem]) | (refine hB _ ?_; clear hB KB) | (refine exit_by (S := Sg) (by assumption) ?_) | ((first | refine cw_rets ?_ | refine cw_ret ?_); simp (maxSteps := 1000000) (disch := omega) only [go_sem]; (try clear hB KB); (try clear hK K)))
              rw [thenQ_normal]
              refine wk_loop (i + 1, p :: junk, h0 :: junk2) ?_ (by dsimp only; omega) (by dsimp only; omega)
              dsimp only
              rw [stk_pop hk, show bxAt s (i + 1) = (upd (upd (bxAt s i).1 i (boxM s (opAt s.ops ((stk s.ops i).headD 0)) ((bxAt s i).2.headD zeroR))) ((stk s.ops i).headD 0) (boxM s (opAt s.ops ((stk s.ops i).headD 0)) ((bxAt s i).2.headD zeroR)),
                push1 (bxAt s i).2.tail (boxM s (opAt s.ops ((stk s.ops i).headD 0)) ((bxAt s i).2.headD zeroR))) from by rw [bxAt, if_neg (by omega), if_neg (by omega)], hh, hs]
              dsimp only [push1, List.headD, List.tail]
              refine le_of [(1, some 1), (2, some 2), (3, some 3)] rfl (by decide) rfl ?_ ?_
              all_goals simp (maxSteps := 1000000) (disch := omega) only [go_sem]
              repeat' (refine And.intro ?_ ?_)
              all_goals first | rfl | omega | exact .inl rfl | trivial | skip
              · refine .inr fun a ha j hj => ?_
                by_cases e : a = p
                · rw [if_pos e, if_pos (by omega), e, upd_self]
                  have hivl : j = 0 ∨ j = 1 ∨ j = 2 ∨ j = 3 := by omega
                  rcases hivl with rfl | rfl | rfl | rfl <;> exact fun _ _ _ h => h
                · rw [if_neg e, upd_ne _ _ e]
                  by_cases e2 : a = i
                  · rw [if_pos e2, if_pos (by omega), e2, upd_self]
                    have hivl : j = 0 ∨ j = 1 ∨ j = 2 ∨ j = 3 := by omega
                    rcases hivl with rfl | rfl | rfl | rfl <;> exact fun _ _ _ h => h
                  · rw [if_neg e2, upd_ne _ _ e2]; exact fun _ _ _ h => h
              · refine .inr fun a ha j hj => ?_
                by_cases e : a = hs1.length
                · rw [if_pos e, if_pos (by omega), e, rF_top]
                  have hivl : j = 0 ∨ j = 1 ∨ j = 2 ∨ j = 3 := by omega
                  rcases hivl with rfl | rfl | rfl | rfl <;> exact fun _ _ _ h => h
                · rw [if_neg e, rF_pop, rF_set (x := hullM [h1, boxM s (opAt s.ops p) h0]) (y := h1) e]; exact fun _ _ _ h => h
              · exact .inl (by rw [stF_pop])
            · simp (maxSteps := 1000000) (disch := omega) only [go_sem, argsLe_cons, argsLe_nil]
              simp only [if_neg (show ¬ (i = p) by omega)]
              refine bvle_p (lst_le fun a ha j hj => ?_)
              have ea : a = 0 ∨ a = 1 := by omega
              rcases ea with rfl | rfl
              · have hivl : j = 0 ∨ j = 1 ∨ j = 2 ∨ j = 3 := by omega
                rcases hivl with rfl | rfl | rfl | rfl <;> rfl
              · have hivl : j = 0 ∨ j = 1 ∨ j = 2 ∨ j = 3 := by omega
                rcases hivl with rfl | rfl | rfl | rfl <;> rfl
            · exact rect_flat _
    · have hi2 : i = s.ops.length := by omega
      subst hi2
      repeat' (first | refine cw_assoc ?_ | refine cw_skips ?_ | refine cw_labels ?_ | ((first | refine cw_step (fun K hK => ?_) | refine cw_last (fun K hK => ?_) | refine cw_stepD (by decide +kernel) (by decide +kernel) (fun K hK => ?_) | refine cw_lastD (by decide +kernel) (by decide +kernel) (fun K hK => ?_) | refine rgB_some ?_); (try simp (maxSteps := 1000000) (disch := omega) only [go_sem]); (repeat' (refine And.intro ?_ ?_)); (all_goals first | (refine hK _ ?_; clear hK K) | exact auto_cl | skip)) | ((first | apply cw_ite | apply cw_iteN); (case hf => rfl); (case hc => simp (maxSteps := 1000000) (disch := omega) only [go_sem]; rfl); (all_goals first | (intro hb; (try simp only [decide_eq_true_eq, decide_eq_false_iff_not, beq_iff_eq, beq_eq_false_iff_ne, bne_iff_ne, bne_eq_false_iff_eq, ne_eq, Bool.not_eq_true, Bool.not_eq_false, Bool.not_true, Bool.not_false, Bool.not_eq_eq_eq_not, Int.not_lt, Int.not_le, gt_iff_lt, ge_iff_le, Bool.cond_eq_ite, Bool.if_false_right, Bool.if_true_left, Bool.and_eq_true, Bool.or_eq_true, Bool.and_eq_false_imp, Bool.or_eq_false_iff, Decidable.not_not, beq_true, beq_false, iteT, iteF, cond_true, cond_false] at hb)) | skip)) | exact atN_intro | ((first | apply cw_if | apply cw_cond); (case hc => simp (maxSteps := 1000000) (disch := omega) only [go_sem]; rfl); (all_goals (intro hb; (try simp only [decide_eq_true_eq, decide_eq_false_iff_not, beq_iff_eq, beq_eq_false_iff_ne, bne_iff_ne, bne_eq_false_iff_eq, ne_eq, Bool.not_eq_true, Bool.not_eq_false, Bool.not_true, Bool.not_false, Bool.not_eq_eq_eq_not, Int.not_lt, Int.not_le, gt_iff_lt, ge_iff_le, Bool.cond_eq_ite, Bool.if_false_right, Bool.if_true_left, Bool.and_eq_true, Bool.or_eq_true, Bool.and_eq_false_imp, Bool.or_eq_false_iff, Decidable.not_not, beq_true, beq_false, iteT, iteF, cond_true, cond_false] at hb); try (exfalso; omega)))) | (refine cw_blocks (fun KB hB => ?_)) | (refine cw_block ?_) | ((first | refine cw_exits ?_ | refine cw_exit ?_ | refine cw_skip ?_); simp (maxSteps := 1000000) (disch := omega) only [go_sem]) | (refine hB _ ?_; clear hB KB) | (refine exit_by (S := Sg) (by assumption) ?_) | ((first | refine cw_rets ?_ | refine cw_ret ?_); simp (maxSteps := 1000000) (disch := omega) only [go_sem]; (try clear hB KB); (try clear hK K)))
      rfl
end Go.Proofs.YtkjdljcbpbeehaaDoor

/- The boxes, as the reference computes them: the same. -/
set_option linter.unusedSimpArgs false
set_option linter.unusedVariables false
set_option maxRecDepth 8000
set_option maxHeartbeats 2000000
namespace Go.Proofs.YtkjdljcbpbeehaaDoor
open Go Go.SL
open Go.RowKit (wrap64)
attribute [local go_sem] Int.toNat_natCast

theorem rboxM_1 {s : Script} {o : Op} {r : Rect} (h : neutralM o.operator = false) : s.canvas = boxM s o r := by rw [boxM, if_pos h]
theorem rboxM_2 {s : Script} {o : Op} {r : Rect} (h : neutralM o.operator = true) (h2 : o.opacity = 0) : zeroR = boxM s o r := by rw [boxM, if_neg (by rw [h]; simp), if_pos h2]
theorem rboxM_3 {s : Script} {o : Op} {r : Rect} (h : neutralM o.operator = true) (h2 : ¬ o.opacity = 0) : isect r (maskRectM s o) = boxM s o r := by rw [boxM, if_neg (by rw [h]; simp), if_neg h2]
theorem wlk_len {e : Nat → Nat} {b : Nat} : ∀ {l : List Nat} {a : Nat}, Wlk e a b l → (∀ k ∈ l, k ≤ e k) → a + l.length ≤ b
  | [], a, h, _ => by have : a = b := h; simp; omega
  | k :: l, a, ⟨h1, h2⟩, h => by
    have := wlk_len h2 fun q hq => h q (List.mem_cons_of_mem _ hq)
    have := h k (List.mem_cons_self ..)
    simp
    omega
theorem ends_ge {ops : List Op} (W : Wf ops) {k : Nat} (hk : k < ops.length) : k ≤ endsM ops k := by
  rcases W.kinds k hk with h | h | h
  · rw [ends_draw W hk h]; exact Nat.le_refl _
  · exact Nat.le_of_lt (ends_push W hk h)
  · rw [ends_self W hk h]; exact Nat.le_refl _
theorem map_getD {l : List Nat} {f : Nat → Rect} {a : Nat} (h : a < l.length) : (l.map f).getD a default = f (l.getD a 0) := by
  simp [List.getD_eq_getElem?_getD, h]
theorem getD_at {l : List Nat} {m : Nat} (h : m < l.length) : l.getD m 0 = l[m] := by simp [List.getD_eq_getElem?_getD, h]
theorem rbox_spec (s : Script) (V : VOps s) (hs : ScriptLen s) : ∀ (d i : Nat), i + d = s.ops.length → i < s.ops.length → (opAt s.ops i).kind ≠ 3 →
    Pure Sg 110 [ag (scriptE s), .c (.p (natsF s.ops.length (endsM s.ops))), I i] (fun x => x = .b (ag (rectE (boxesM s i)))) := by
  intro d
  induction d using Nat.strongRecOn with
  | _ d ih =>
  intro i hd hi hk
  have hn := V.cnt
  have W := V.wf
  have hm := mask_ok V hi hk
  rcases W.kinds i hi with k | k | k
  · have hk2 : (s.ops.getD i default).kind = 1 := k
    rw [box_draw W hi k]
    refine pure_of Tryd.func110 rfl (rs := [.cell 6 28]) rfl rfl mixed (by decide +kernel) (Nat.le_of_ble_eq_true rfl) (argsLt_mem (by simp (maxSteps := 1000000) (disch := omega) only [go_sem])) ?_
    repeat' (first | ((first | apply cw_ifT | apply cw_condT); (case hc => simp (maxSteps := 1000000) (disch := omega) only [go_sem]; rfl); (case ht => (simp only [Int.toNat_natCast, Int.reduceBEq, Int.reduceBNe, Int.reduceLT, Int.reduceLE, decide_true, decide_false, Bool.not_true, Bool.not_false, Bool.and_true, Bool.true_and, Bool.and_false, Bool.false_and, Bool.or_true, Bool.true_or, Bool.or_false, Bool.false_or, hk2]; done))) | ((first | apply cw_ifF | apply cw_condF); (case hc => simp (maxSteps := 1000000) (disch := omega) only [go_sem]; rfl); (case ht => (simp only [Int.toNat_natCast, Int.reduceBEq, Int.reduceBNe, Int.reduceLT, Int.reduceLE, decide_true, decide_false, Bool.not_true, Bool.not_false, Bool.and_true, Bool.true_and, Bool.and_false, Bool.false_and, Bool.or_true, Bool.true_or, Bool.or_false, Bool.false_or, hk2]; done))) | refine cw_assoc ?_ | refine cw_skips ?_ | refine cw_labels ?_ | ((first | refine cw_step (fun K hK => ?_) | refine cw_last (fun K hK => ?_) | refine cw_stepD (by decide +kernel) (by decide +kernel) (fun K hK => ?_) | refine cw_lastD (by decide +kernel) (by decide +kernel) (fun K hK => ?_) | refine rgB_some ?_ | refine call_a (rneutral_spec (s.ops.getD i default).operator) ?_ | refine gcall_a (fun hg => rneutral_spec (s.ops.getD i default).operator) ?_ | refine call_a (rimageRect_spec s (s.ops.getD i default) hs) ?_ | refine gcall_a (fun hg => rimageRect_spec s (s.ops.getD i default) hs) ?_ | refine call_a (rmaskRect_spec s (s.ops.getD i default) hs hm) ?_ | refine gcall_a (fun hg => rmaskRect_spec s (s.ops.getD i default) hs hm) ?_ | refine call_a (risect_spec (imageRectM s (s.ops.getD i default)) (maskRectM s (s.ops.getD i default))) ?_ | refine gcall_a (fun hg => risect_spec (imageRectM s (s.ops.getD i default)) (maskRectM s (s.ops.getD i default))) ?_); (try simp (maxSteps := 1000000) (disch := omega) only [go_sem]); (repeat' (refine And.intro ?_ ?_)); (all_goals first | (refine hK _ ?_; clear hK K) | exact auto_cl | skip)) | ((first | apply cw_ite | apply cw_iteN); (case hf => rfl); (case hc => simp (maxSteps := 1000000) (disch := omega) only [go_sem]; rfl); (all_goals first | (intro hb; (try simp only [decide_eq_true_eq, decide_eq_false_iff_not, beq_iff_eq, beq_eq_false_iff_ne, bne_iff_ne, bne_eq_false_iff_eq, ne_eq, Bool.not_eq_true, Bool.not_eq_false, Bool.not_true, Bool.not_false, Bool.not_eq_eq_eq_not, Int.not_lt, Int.not_le, gt_iff_lt, ge_iff_le, Bool.cond_eq_ite, Bool.if_false_right, Bool.if_true_left, Bool.and_eq_true, Bool.or_eq_true, Bool.and_eq_false_imp, Bool.or_eq_false_iff, Decidable.not_not, beq_true, beq_false, iteT, iteF, cond_true, cond_false] at hb)) | skip)) | exact atN_intro | ((first | apply cw_if | apply cw_cond); (case hc => simp (maxSteps := 1000000) (disch := omega) only [go_sem]; rfl); (all_goals (intro hb; (try simp only [decide_eq_true_eq, decide_eq_false_iff_not, beq_iff_eq, beq_eq_false_iff_ne, bne_iff_ne, bne_eq_false_iff_eq, ne_eq, Bool.not_eq_true, Bool.not_eq_false, Bool.not_true, Bool.not_false, Bool.not_eq_eq_eq_not, Int.not_lt, Int.not_le, gt_iff_lt, ge_iff_le, Bool.cond_eq_ite, Bool.if_false_right, Bool.if_true_left, Bool.and_eq_true, Bool.or_eq_true, Bool.and_eq_false_imp, Bool.or_eq_false_iff, Decidable.not_not, beq_true, beq_false, iteT, iteF, cond_true, cond_false] at hb); try (exfalso; omega)))) | (refine cw_blocks (fun KB hB => ?_)) | (refine cw_block ?_) | ((first | refine cw_exits ?_ | refine cw_exit ?_ | refine cw_skip ?_); simp (maxSteps := 1000000) (disch := omega) only [go_sem]) | (refine hB _ ?_; clear hB KB) | (refine exit_by (S := Sg) (by assumption) ?_) | ((first | refine cw_rets ?_ | refine cw_ret ?_); simp (maxSteps := 1000000) (disch := omega) only [go_sem]; (try clear hB KB); (try clear hK K)))
    · rw [← rboxM_1 (s := s) (o := opAt s.ops i) hb]; rfl
    · rename_i hb2
      rw [← rboxM_2 (s := s) (o := opAt s.ops i) hb2 hb]; rfl
    · rename_i hb2
      rw [← rboxM_3 (s := s) (o := opAt s.ops i) hb2 hb]; rfl
  · have hk2 : (s.ops.getD i default).kind = 2 := k
    obtain ⟨l, w1, w2, w3⟩ := box_push W hi k
    have hel := ends_lt W hi
    have hep := ends_push W hi k
    rw [w3]
    refine pure_of Tryd.func110 rfl (rs := [.cell 6 28]) rfl rfl mixed (by decide +kernel) (Nat.le_of_ble_eq_true rfl) (argsLt_mem (by simp (maxSteps := 1000000) (disch := omega) only [go_sem])) ?_
    repeat' (first | ((first | apply cw_ifT | apply cw_condT); (case hc => simp (maxSteps := 1000000) (disch := omega) only [go_sem]; rfl); (case ht => (simp only [Int.toNat_natCast, Int.reduceBEq, Int.reduceBNe, Int.reduceLT, Int.reduceLE, decide_true, decide_false, Bool.not_true, Bool.not_false, Bool.and_true, Bool.true_and, Bool.and_false, Bool.false_and, Bool.or_true, Bool.true_or, Bool.or_false, Bool.false_or, hk2]; done))) | ((first | apply cw_ifF | apply cw_condF); (case hc => simp (maxSteps := 1000000) (disch := omega) only [go_sem]; rfl); (case ht => (simp only [Int.toNat_natCast, Int.reduceBEq, Int.reduceBNe, Int.reduceLT, Int.reduceLE, decide_true, decide_false, Bool.not_true, Bool.not_false, Bool.and_true, Bool.true_and, Bool.and_false, Bool.false_and, Bool.or_true, Bool.true_or, Bool.or_false, Bool.false_or, hk2]; done))) | refine cw_assoc ?_ | refine cw_skips ?_ | refine cw_labels ?_ | ((first | refine cw_step (fun K hK => ?_) | refine cw_last (fun K hK => ?_) | refine cw_stepD (by decide +kernel) (by decide +kernel) (fun K hK => ?_) | refine cw_lastD (by decide +kernel) (by decide +kernel) (fun K hK => ?_) | refine rgB_some ?_ | refine call_a (rneutral_spec (s.ops.getD i default).operator) ?_ | refine gcall_a (fun hg => rneutral_spec (s.ops.getD i default).operator) ?_ | refine call_a (rimageRect_spec s (s.ops.getD i default) hs) ?_ | refine gcall_a (fun hg => rimageRect_spec s (s.ops.getD i default) hs) ?_); (try simp (maxSteps := 1000000) (disch := omega) only [go_sem]); (repeat' (refine And.intro ?_ ?_)); (all_goals first | (refine hK _ ?_; clear hK K) | exact auto_cl | skip)) | ((first | apply cw_ite | apply cw_iteN); (case hf => rfl); (case hc => simp (maxSteps := 1000000) (disch := omega) only [go_sem]; rfl); (all_goals first | (intro hb; (try simp only [decide_eq_true_eq, decide_eq_false_iff_not, beq_iff_eq, beq_eq_false_iff_ne, bne_iff_ne, bne_eq_false_iff_eq, ne_eq, Bool.not_eq_true, Bool.not_eq_false, Bool.not_true, Bool.not_false, Bool.not_eq_eq_eq_not, Int.not_lt, Int.not_le, gt_iff_lt, ge_iff_le, Bool.cond_eq_ite, Bool.if_false_right, Bool.if_true_left, Bool.and_eq_true, Bool.or_eq_true, Bool.and_eq_false_imp, Bool.or_eq_false_iff, Decidable.not_not, beq_true, beq_false, iteT, iteF, cond_true, cond_false] at hb)) | skip)) | exact atN_intro | ((first | apply cw_if | apply cw_cond); (case hc => simp (maxSteps := 1000000) (disch := omega) only [go_sem]; rfl); (all_goals (intro hb; (try simp only [decide_eq_true_eq, decide_eq_false_iff_not, beq_iff_eq, beq_eq_false_iff_ne, bne_iff_ne, bne_eq_false_iff_eq, ne_eq, Bool.not_eq_true, Bool.not_eq_false, Bool.not_true, Bool.not_false, Bool.not_eq_eq_eq_not, Int.not_lt, Int.not_le, gt_iff_lt, ge_iff_le, Bool.cond_eq_ite, Bool.if_false_right, Bool.if_true_left, Bool.and_eq_true, Bool.or_eq_true, Bool.and_eq_false_imp, Bool.or_eq_false_iff, Decidable.not_not, beq_true, beq_false, iteT, iteF, cond_true, cond_false] at hb); try (exfalso; omega)))) | (refine cw_blocks (fun KB hB => ?_)) | (refine cw_block ?_) | ((first | refine cw_exits ?_ | refine cw_exit ?_ | refine cw_skip ?_); simp (maxSteps := 1000000) (disch := omega) only [go_sem]) | (refine hB _ ?_; clear hB KB) | (refine exit_by (S := Sg) (by assumption) ?_) | ((first | refine cw_rets ?_ | refine cw_ret ?_); simp (maxSteps := 1000000) (disch := omega) only [go_sem]; (try clear hB KB); (try clear hK K)))
    · rw [← rboxM_1 (s := s) (o := opAt s.ops i) hb]; rfl
    · rename_i hb2
      rw [← rboxM_2 (s := s) (o := opAt s.ops i) hb2 hb]; rfl
    rename_i hb2
    have hfin := rboxM_3 (s := s) (o := opAt s.ops i) (r := hullM (l.map (boxesM s))) hb2 hb
    refine cw_loop (X := Nat × Nat) (fun x => mkSt [(1, .b (.c (.p (natsF s.ops.length (endsM s.ops))))), (2, .b (I i)), (3, .b (.c (.ptr 0 0))), (6, .b (.c (.ptr 1 0))), (7, .b (.c (.ptr 2 0))), (8, .b (.c (.ptr 3 0))), (9, .b (.c (.own 4 x.1))), (10, .b (I x.2))]
      [(0, .fix ((scriptE s).map CV.p)), (1, .fix ((rectE zeroR).map CV.p)), (2, .fix ((opE (opAt s.ops i)).map CV.p)), (3, .fix ((rectE (imageRectM s (opAt s.ops i))).map CV.p)), (4, .arr 28 4 x.1 (fun a j => (rectE (boxesM s (l.getD a 0))).getD j .any))] 5)
      (fun x => x.1 ≤ l.length ∧ Wlk (endsM s.ops) x.2 (endsM s.ops i) (l.drop x.1)) (fun x => l.length - x.1) (0, i + 1) ?_ ?_ ?_
    · exact ⟨Nat.zero_le _, w1⟩
    · refine le_of [(1, some 1), (2, some 2), (3, some 3), (4, none)] rfl (by decide) rfl ?_ ?_
      all_goals simp (maxSteps := 1000000) (disch := omega) only [go_sem]
      repeat' (refine And.intro ?_ ?_)
      all_goals first | rfl | omega | exact .inl rfl | trivial | skip
      skip
    · rintro ⟨m, k⟩ ⟨hml, hw⟩
      dsimp only at hml hw ⊢
      rcases Nat.lt_or_ge m l.length with hmlt | hmge
      · rw [List.drop_eq_getElem_cons hmlt] at hw
        obtain ⟨rfl, hw⟩ := hw
        have hkl := w2 l[m] (List.getElem_mem hmlt)
        have hel2 := ends_lt W (show l[m] < s.ops.length by omega)
        have hlen : l.length ≤ 4096 := by
          have := wlk_len w1 fun k hk => ends_ge W (by have := (w2 k hk).1; omega)
          omega
        have hrec := ih (s.ops.length - l[m]) (by omega) l[m] (by omega) (by omega) hkl.2
        repeat' (first | refine cw_assoc ?_ | refine cw_skips ?_ | refine cw_labels ?_ | ((first | refine cw_step (fun K hK => ?_) | refine cw_last (fun K hK => ?_) | refine cw_stepD (by decide +kernel) (by decide +kernel) (fun K hK => ?_) | refine cw_lastD (by decide +kernel) (by decide +kernel) (fun K hK => ?_) | refine rgB_some ?_ | refine call_a (hrec) ?_ | refine gcall_a (fun hg => hrec) ?_); (try simp (maxSteps := 1000000) (disch := omega) only [go_sem]); (repeat' (refine And.intro ?_ ?_)); (all_goals first | (refine hK _ ?_; clear hK K) | exact auto_cl | skip)) | ((first | apply cw_ite | apply cw_iteN); (case hf => rfl); (case hc => simp (maxSteps := 1000000) (disch := omega) only [go_sem]; rfl); (all_goals first | (intro hb; (try simp only [decide_eq_true_eq, decide_eq_false_iff_not, beq_iff_eq, beq_eq_false_iff_ne, bne_iff_ne, bne_eq_false_iff_eq, ne_eq, Bool.not_eq_true, Bool.not_eq_false, Bool.not_true, Bool.not_false, Bool.not_eq_eq_eq_not, Int.not_lt, Int.not_le, gt_iff_lt, ge_iff_le, Bool.cond_eq_ite, Bool.if_false_right, Bool.if_true_left, Bool.and_eq_true, Bool.or_eq_true, Bool.and_eq_false_imp, Bool.or_eq_false_iff, Decidable.not_not, beq_true, beq_false, iteT, iteF, cond_true, cond_false] at hb)) | skip)) | exact atN_intro | ((first | apply cw_if | apply cw_cond); (case hc => simp (maxSteps := 1000000) (disch := omega) only [go_sem]; rfl); (all_goals (intro hb; (try simp only [decide_eq_true_eq, decide_eq_false_iff_not, beq_iff_eq, beq_eq_false_iff_ne, bne_iff_ne, bne_eq_false_iff_eq, ne_eq, Bool.not_eq_true, Bool.not_eq_false, Bool.not_true, Bool.not_false, Bool.not_eq_eq_eq_not, Int.not_lt, Int.not_le, gt_iff_lt, ge_iff_le, Bool.cond_eq_ite, Bool.if_false_right, Bool.if_true_left, Bool.and_eq_true, Bool.or_eq_true, Bool.and_eq_false_imp, Bool.or_eq_false_iff, Decidable.not_not, beq_true, beq_false, iteT, iteF, cond_true, cond_false] at hb); try (exfalso; omega)))) | (refine cw_blocks (fun KB hB => ?_)) | (refine cw_block ?_) | ((first | refine cw_exits ?_ | refine cw_exit ?_ | refine cw_skip ?_); simp (maxSteps := 1000000) (disch := omega) only [go_sem]) | (refine hB _ ?_; clear hB KB) | (refine exit_by (S := Sg) (by assumption) ?_) | ((first | refine cw_rets ?_ | refine cw_ret ?_); simp (maxSteps := 1000000) (disch := omega) only [go_sem]; (try clear hB KB); (try clear hK K)))
        rw [thenQ_normal]
        refine wk_loop (m + 1, endsM s.ops l[m] + 1) ?_ ⟨by dsimp only; omega, hw⟩ (by dsimp only; omega)
        dsimp only
        refine le_of [(1, some 1), (2, some 2), (3, some 3), (4, some 6)] rfl (by decide) rfl ?_ ?_
        all_goals simp (maxSteps := 1000000) (disch := omega) only [go_sem]
        repeat' (refine And.intro ?_ ?_)
        all_goals first | rfl | omega | exact .inl rfl | trivial | skip
        refine .inr fun a ha j hj => ?_
        unfold appF
        by_cases h : a < m
        · rw [if_pos h]; exact fun _ _ _ h => h
        · have ea : a = m := by omega
          rw [if_neg h, ea, Nat.sub_self, getD_at hmlt]
          have hivl : j = 0 ∨ j = 1 ∨ j = 2 ∨ j = 3 := by omega
          rcases hivl with rfl | rfl | rfl | rfl <;> exact fun _ _ _ h => h
      · rw [List.drop_eq_nil_of_le hmge] at hw
        have hw : k = endsM s.ops i := hw
        have hm2 : m = l.length := by omega
        subst hm2
        have hlen : l.length ≤ 4096 := by
          have := wlk_len w1 fun k hk => ends_ge W (by have := (w2 k hk).1; omega)
          omega
        repeat' (first | refine cw_assoc ?_ | refine cw_skips ?_ | refine cw_labels ?_ | ((first | refine cw_step (fun K hK => ?_) | refine cw_last (fun K hK => ?_) | refine cw_stepD (by decide +kernel) (by decide +kernel) (fun K hK => ?_) | refine cw_lastD (by decide +kernel) (by decide +kernel) (fun K hK => ?_) | refine rgB_some ?_); (try simp (maxSteps := 1000000) (disch := omega) only [go_sem]); (repeat' (refine And.intro ?_ ?_)); (all_goals first | (refine hK _ ?_; clear hK K) | exact auto_cl | skip)) | ((first | apply cw_ite | apply cw_iteN); (case hf => rfl); (case hc => simp (maxSteps := 1000000) (disch := omega) only [go_sem]; rfl); (all_goals first | (intro hb; (try simp only [decide_eq_true_eq, decide_eq_false_iff_not, beq_iff_eq, beq_eq_false_iff_ne, bne_iff_ne, bne_eq_false_iff_eq, ne_eq, Bool.not_eq_true, Bool.not_eq_false, Bool.not_true, Bool.not_false, Bool.not_eq_eq_eq_not, Int.not_lt, Int.not_le, gt_iff_lt, ge_iff_le, Bool.cond_eq_ite, Bool.if_false_right, Bool.if_true_left, Bool.and_eq_true, Bool.or_eq_true, Bool.and_eq_false_imp, Bool.or_eq_false_iff, Decidable.not_not, beq_true, beq_false, iteT, iteF, cond_true, cond_false] at hb)) | skip)) | exact atN_intro | ((first | apply cw_if | apply cw_cond); (case hc => simp (maxSteps := 1000000) (disch := omega) only [go_sem]; rfl); (all_goals (intro hb; (try simp only [decide_eq_true_eq, decide_eq_false_iff_not, beq_iff_eq, beq_eq_false_iff_ne, bne_iff_ne, bne_eq_false_iff_eq, ne_eq, Bool.not_eq_true, Bool.not_eq_false, Bool.not_true, Bool.not_false, Bool.not_eq_eq_eq_not, Int.not_lt, Int.not_le, gt_iff_lt, ge_iff_le, Bool.cond_eq_ite, Bool.if_false_right, Bool.if_true_left, Bool.and_eq_true, Bool.or_eq_true, Bool.and_eq_false_imp, Bool.or_eq_false_iff, Decidable.not_not, beq_true, beq_false, iteT, iteF, cond_true, cond_false] at hb); try (exfalso; omega)))) | (refine cw_blocks (fun KB hB => ?_)) | (refine cw_block ?_) | ((first | refine cw_exits ?_ | refine cw_exit ?_ | refine cw_skip ?_); simp (maxSteps := 1000000) (disch := omega) only [go_sem]) | (refine hB _ ?_; clear hB KB) | (refine exit_by (S := Sg) (by assumption) ?_) | ((first | refine cw_rets ?_ | refine cw_ret ?_); simp (maxSteps := 1000000) (disch := omega) only [go_sem]; (try clear hB KB); (try clear hK K)))
        refine call_lends ?_ ?_ (by simp (maxSteps := 1000000) (disch := omega) only [go_sem]) ?_ (rhull_spec (l.map (boxesM s)) (by rw [List.length_map]; omega))
        try simp (maxSteps := 1000000) (disch := omega) only [go_sem]
        try (refine hK _ ?_; clear hK K)
        · repeat' (first | refine cw_assoc ?_ | refine cw_skips ?_ | refine cw_labels ?_ | ((first | refine cw_step (fun K hK => ?_) | refine cw_last (fun K hK => ?_) | refine cw_stepD (by decide +kernel) (by decide +kernel) (fun K hK => ?_) | refine cw_lastD (by decide +kernel) (by decide +kernel) (fun K hK => ?_) | refine rgB_some ?_ | refine call_a (rmaskRect_spec s (opAt s.ops i) hs hm) ?_ | refine gcall_a (fun hg => rmaskRect_spec s (opAt s.ops i) hs hm) ?_ | refine call_a (risect_spec (hullM (l.map (boxesM s))) (maskRectM s (opAt s.ops i))) ?_ | refine gcall_a (fun hg => risect_spec (hullM (l.map (boxesM s))) (maskRectM s (opAt s.ops i))) ?_); (try simp (maxSteps := 1000000) (disch := omega) only [go_sem]); (repeat' (refine And.intro ?_ ?_)); (all_goals first | (refine hK _ ?_; clear hK K) | exact auto_cl | skip)) | ((first | apply cw_ite | apply cw_iteN); (case hf => rfl); (case hc => simp (maxSteps := 1000000) (disch := omega) only [go_sem]; rfl); (all_goals first | (intro hb; (try simp only [decide_eq_true_eq, decide_eq_false_iff_not, beq_iff_eq, beq_eq_false_iff_ne, bne_iff_ne, bne_eq_false_iff_eq, ne_eq, Bool.not_eq_true, Bool.not_eq_false, Bool.not_true, Bool.not_false, Bool.not_eq_eq_eq_not, Int.not_lt, Int.not_le, gt_iff_lt, ge_iff_le, Bool.cond_eq_ite, Bool.if_false_right, Bool.if_true_left, Bool.and_eq_true, Bool.or_eq_true, Bool.and_eq_false_imp, Bool.or_eq_false_iff, Decidable.not_not, beq_true, beq_false, iteT, iteF, cond_true, cond_false] at hb)) | skip)) | exact atN_intro | ((first | apply cw_if | apply cw_cond); (case hc => simp (maxSteps := 1000000) (disch := omega) only [go_sem]; rfl); (all_goals (intro hb; (try simp only [decide_eq_true_eq, decide_eq_false_iff_not, beq_iff_eq, beq_eq_false_iff_ne, bne_iff_ne, bne_eq_false_iff_eq, ne_eq, Bool.not_eq_true, Bool.not_eq_false, Bool.not_true, Bool.not_false, Bool.not_eq_eq_eq_not, Int.not_lt, Int.not_le, gt_iff_lt, ge_iff_le, Bool.cond_eq_ite, Bool.if_false_right, Bool.if_true_left, Bool.and_eq_true, Bool.or_eq_true, Bool.and_eq_false_imp, Bool.or_eq_false_iff, Decidable.not_not, beq_true, beq_false, iteT, iteF, cond_true, cond_false] at hb); try (exfalso; omega)))) | (refine cw_blocks (fun KB hB => ?_)) | (refine cw_block ?_) | ((first | refine cw_exits ?_ | refine cw_exit ?_ | refine cw_skip ?_); simp (maxSteps := 1000000) (disch := omega) only [go_sem]) | (refine hB _ ?_; clear hB KB) | (refine exit_by (S := Sg) (by assumption) ?_) | ((first | refine cw_rets ?_ | refine cw_ret ?_); simp (maxSteps := 1000000) (disch := omega) only [go_sem]; (try clear hB KB); (try clear hK K)))
          rw [← hfin]; rfl
        · simp (maxSteps := 1000000) (disch := omega) only [go_sem, argsLe_cons, argsLe_nil, List.length_map]
          refine bvle_p (lst_le fun a ha j hj => ?_)
          unfold fnOf
          rw [map_getD ha]
          rfl
        · exact rect_flat _
  · exact absurd k hk
/-- The boxes that the reference knows in front of an operation. -/
def rAt (s : Script) : Nat → Nat → Rect
  | 0 => fun _ => zeroR
  | i + 1 => if (opAt s.ops i).kind = 3 then rAt s i else upd (upd (rAt s i) i (boxesM s i)) (endsM s.ops i) (boxesM s i)
theorem ends_box {s : Script} (W : Wf s.ops) {i : Nat} (hi : i < s.ops.length) (hk : (opAt s.ops i).kind ≠ 3) : boxesM s (endsM s.ops i) = boxesM s i := by
  rcases W.kinds i hi with h | h | h
  · rw [ends_draw W hi h]
  · obtain ⟨j, t, h1, h2, h3, h4⟩ := pop_of W (s.ops.length - (i + 1)) (i + 1) (by omega) (by rw [stk_push h]; exact List.mem_cons_self ..)
    rw [ends_pop W h2 h3 h4, box_pop W h2 h3, h4]
    rfl
  · exact absurd h hk
theorem rAt_ok {s : Script} (W : Wf s.ops) : ∀ i, i ≤ s.ops.length → ∀ j, (j < i ∧ (opAt s.ops j).kind ≠ 3 ∨ ∃ p, p < i ∧ (opAt s.ops p).kind ≠ 3 ∧ endsM s.ops p = j) → rAt s i j = boxesM s j
  | 0, _, j, h => by rcases h with h | ⟨p, h, _⟩ <;> omega
  | i + 1, hi, j, h => by
    have ih := rAt_ok W i (by omega) j
    rw [rAt]
    split
    · rename_i hk
      refine ih ?_
      rcases h with ⟨h1, h2⟩ | ⟨p, h1, h2, h3⟩
      · exact .inl ⟨by have : j ≠ i := fun e => h2 (e ▸ hk); omega, h2⟩
      · exact .inr ⟨p, by have : p ≠ i := fun e => h2 (e ▸ hk); omega, h2, h3⟩
    · rename_i hk
      by_cases e1 : j = endsM s.ops i
      · rw [e1, upd_self, ends_box W (by omega) hk]
      · rw [upd_ne _ _ e1]
        by_cases e2 : j = i
        · rw [e2, upd_self]
        · rw [upd_ne _ _ e2]
          refine ih ?_
          rcases h with ⟨h1, h2⟩ | ⟨p, h1, h2, h3⟩
          · exact .inl ⟨by omega, h2⟩
          · exact .inr ⟨p, by have : p ≠ i := fun e => e1 (by rw [← h3, e]); omega, h2, h3⟩
theorem rAt_all {s : Script} (W : Wf s.ops) {j : Nat} (hj : j < s.ops.length) : rAt s s.ops.length j = boxesM s j := by
  refine rAt_ok W _ (Nat.le_refl _) j ?_
  by_cases hk : (opAt s.ops j).kind = 3
  · cases hs : stk s.ops j with
    | nil => exact absurd hs (W.pops j hj hk)
    | cons p t =>
      have hp : p < j := stk_lt (ops := s.ops) (by rw [hs]; exact List.mem_cons_self ..)
      have hk2 : (opAt s.ops p).kind = 2 := stk_kind (i := j) (by rw [hs]; exact List.mem_cons_self ..)
      exact .inr ⟨p, by omega, by omega, ends_pop W hj hk hs⟩
  · exact .inl ⟨hj, hk⟩
theorem bx_out {s : Script} (W : Wf s.ops) {j : Nat} (hj : s.ops.length ≤ j) : ∀ i, i ≤ s.ops.length → (bxAt s i).1 j = zeroR
  | 0, _ => rfl
  | i + 1, hi => by
    have ih := bx_out W hj i (by omega)
    rcases W.kinds i (by omega) with k | k | k
    · rw [bxAt, if_neg (by omega), if_pos k]; dsimp only; rw [upd_ne _ _ (by omega)]; exact ih
    · rw [bxAt, if_pos k]; exact ih
    · have := stk_lt (head_mem (W.pops i (by omega) k))
      rw [bxAt, if_neg (by omega), if_neg (by omega)]; dsimp only; rw [upd_ne _ _ (by omega), upd_ne _ _ (by omega)]; exact ih
theorem rAt_out {s : Script} (W : Wf s.ops) {j : Nat} (hj : s.ops.length ≤ j) : ∀ i, i ≤ s.ops.length → rAt s i j = zeroR
  | 0, _ => rfl
  | i + 1, hi => by
    have ih := rAt_out W hj i (by omega)
    have := ends_lt W (show i < s.ops.length by omega)
    rw [rAt]
    split
    · exact ih
    · rw [upd_ne _ _ (by omega), upd_ne _ _ (by omega)]; exact ih
theorem rAt_eq {s : Script} (W : Wf s.ops) : rAt s s.ops.length = boxesM s := by
  funext j
  rcases Nat.lt_or_ge j s.ops.length with h | h
  · exact rAt_all W h
  · rw [rAt_out W h _ (Nat.le_refl _), boxesM, bx_out W h _ (Nat.le_refl _)]
/-- The boxes of a list that is given by a function. -/
theorem rboxes_spec (s : Script) (V : VOps s) (hs : ScriptLen s) : Pure Sg 62 [ag (scriptE s)] (fun x => x = .tup [.c (.p (rectsF s.ops.length (boxesM s))), I 0]) := by
  have hn := V.cnt
  have W := V.wf
  have ho := checkOps_spec s hs
  rw [vops0 V] at ho
  have he := ends_spec s V
  refine pure_of Tryd.func62 rfl (rs := [.tmp 2, .tmp 3]) rfl rfl mixed (by decide +kernel) (Nat.le_of_ble_eq_true rfl) (argsLt_mem (by simp (maxSteps := 1000000) (disch := omega) only [go_sem])) ?_
  repeat' (first | refine cw_assoc ?_ | refine cw_skips ?_ | refine cw_labels ?_ | ((first | refine cw_step (fun K hK => ?_) | refine cw_last (fun K hK => ?_) | refine cw_stepD (by decide +kernel) (by decide +kernel) (fun K hK => ?_) | refine cw_lastD (by decide +kernel) (by decide +kernel) (fun K hK => ?_) | refine rgB_some ?_ | refine call_a (ho) ?_ | refine gcall_a (fun hg => ho) ?_ | refine call_a (he) ?_ | refine gcall_a (fun hg => he) ?_); (try simp (maxSteps := 1000000) (disch := omega) only [go_sem]); (repeat' (refine And.intro ?_ ?_)); (all_goals first | (refine hK _ ?_; clear hK K) | exact auto_cl | skip)) | ((first | apply cw_ite | apply cw_iteN); (case hf => rfl); (case hc => simp (maxSteps := 1000000) (disch := omega) only [go_sem]; rfl); (all_goals first | (intro hb; (try simp only [decide_eq_true_eq, decide_eq_false_iff_not, beq_iff_eq, beq_eq_false_iff_ne, bne_iff_ne, bne_eq_false_iff_eq, ne_eq, Bool.not_eq_true, Bool.not_eq_false, Bool.not_true, Bool.not_false, Bool.not_eq_eq_eq_not, Int.not_lt, Int.not_le, gt_iff_lt, ge_iff_le, Bool.cond_eq_ite, Bool.if_false_right, Bool.if_true_left, Bool.and_eq_true, Bool.or_eq_true, Bool.and_eq_false_imp, Bool.or_eq_false_iff, Decidable.not_not, beq_true, beq_false, iteT, iteF, cond_true, cond_false] at hb)) | skip)) | exact atN_intro | ((first | apply cw_if | apply cw_cond); (case hc => simp (maxSteps := 1000000) (disch := omega) only [go_sem]; rfl); (all_goals (intro hb; (try simp only [decide_eq_true_eq, decide_eq_false_iff_not, beq_iff_eq, beq_eq_false_iff_ne, bne_iff_ne, bne_eq_false_iff_eq, ne_eq, Bool.not_eq_true, Bool.not_eq_false, Bool.not_true, Bool.not_false, Bool.not_eq_eq_eq_not, Int.not_lt, Int.not_le, gt_iff_lt, ge_iff_le, Bool.cond_eq_ite, Bool.if_false_right, Bool.if_true_left, Bool.and_eq_true, Bool.or_eq_true, Bool.and_eq_false_imp, Bool.or_eq_false_iff, Decidable.not_not, beq_true, beq_false, iteT, iteF, cond_true, cond_false] at hb); try (exfalso; omega)))) | (refine cw_blocks (fun KB hB => ?_)) | (refine cw_block ?_) | ((first | refine cw_exits ?_ | refine cw_exit ?_ | refine cw_skip ?_); simp (maxSteps := 1000000) (disch := omega) only [go_sem]) | (refine hB _ ?_; clear hB KB) | (refine exit_by (S := Sg) (by assumption) ?_) | ((first | refine cw_rets ?_ | refine cw_ret ?_); simp (maxSteps := 1000000) (disch := omega) only [go_sem]; (try clear hB KB); (try clear hK K)))
  · simp at hb
  refine cw_loop (X := Nat) (fun i => mkSt [(1, .b (.c (.ptr 0 0))), (2, .b (.c (.p (.val (.slice none 0 0))))), (3, .b (I 0)), (6, .b (.c (.p (natsF s.ops.length (endsM s.ops))))), (8, .b (.c (.own 1 s.ops.length))), (9, .b (I i))]
    [(0, .fix ((scriptE s).map CV.p)), (1, .arr 28 4 s.ops.length (fun a j => (rectE (rAt s i a)).getD j .any))] 2) (fun i => i ≤ s.ops.length) (fun i => s.ops.length - i) 0 ?_ ?_ ?_
  · exact Nat.zero_le _
  · refine le_of [(1, some 1)] rfl (by decide) rfl ?_ ?_
    all_goals simp (maxSteps := 1000000) (disch := omega) only [go_sem]
    repeat' (refine And.intro ?_ ?_)
    all_goals first | rfl | omega | exact .inl rfl | trivial | skip
    refine .inr fun a ha j hj => ?_
    have hivl : j = 0 ∨ j = 1 ∨ j = 2 ∨ j = 3 := by omega
    rcases hivl with rfl | rfl | rfl | rfl <;> exact fun _ _ _ h => h
  · intro i hi
    rcases Nat.lt_or_ge i s.ops.length with hlt | hge
    · have hel := ends_lt W hlt
      by_cases hk : (opAt s.ops i).kind = 3
      · have hk2 : (s.ops.getD i default).kind = 3 := hk
        repeat' (first | ((first | apply cw_ifT | apply cw_condT); (case hc => simp (maxSteps := 1000000) (disch := omega) only [go_sem]; rfl); (case ht => (simp only [Int.toNat_natCast, Int.reduceBEq, Int.reduceBNe, Int.reduceLT, Int.reduceLE, decide_true, decide_false, Bool.not_true, Bool.not_false, Bool.and_true, Bool.true_and, Bool.and_false, Bool.false_and, Bool.or_true, Bool.true_or, Bool.or_false, Bool.false_or, hk2]; done))) | ((first | apply cw_ifF | apply cw_condF); (case hc => simp (maxSteps := 1000000) (disch := omega) only [go_sem]; rfl); (case ht => (simp only [Int.toNat_natCast, Int.reduceBEq, Int.reduceBNe, Int.reduceLT, Int.reduceLE, decide_true, decide_false, Bool.not_true, Bool.not_false, Bool.and_true, Bool.true_and, Bool.and_false, Bool.false_and, Bool.or_true, Bool.true_or, Bool.or_false, Bool.false_or, hk2]; done))) | refine cw_assoc ?_ | refine cw_skips ?_ | refine cw_labels ?_ | ((first | refine cw_step (fun K hK => ?_) | refine cw_last (fun K hK => ?_) | refine cw_stepD (by decide +kernel) (by decide +kernel) (fun K hK => ?_) | refine cw_lastD (by decide +kernel) (by decide +kernel) (fun K hK => ?_) | refine rgB_some ?_); (try simp (maxSteps := 1000000) (disch := omega) only [go_sem]); (repeat' (refine And.intro ?_ ?_)); (all_goals first | (refine hK _ ?_; clear hK K) | exact auto_cl | skip)) | ((first | apply cw_ite | apply cw_iteN); (case hf => rfl); (case hc => simp (maxSteps := 1000000) (disch := omega) only [go_sem]; rfl); (all_goals first | (intro hb; (try simp only [decide_eq_true_eq, decide_eq_false_iff_not, beq_iff_eq, beq_eq_false_iff_ne, bne_iff_ne, bne_eq_false_iff_eq, ne_eq, Bool.not_eq_true, Bool.not_eq_false, Bool.not_true, Bool.not_false, Bool.not_eq_eq_eq_not, Int.not_lt, Int.not_le, gt_iff_lt, ge_iff_le, Bool.cond_eq_ite, Bool.if_false_right, Bool.if_true_left, Bool.and_eq_true, Bool.or_eq_true, Bool.and_eq_false_imp, Bool.or_eq_false_iff, Decidable.not_not, beq_true, beq_false, iteT, iteF, cond_true, cond_false] at hb)) | skip)) | exact atN_intro | ((first | apply cw_if | apply cw_cond); (case hc => simp (maxSteps := 1000000) (disch := omega) only [go_sem]; rfl); (all_goals (intro hb; (try simp only [decide_eq_true_eq, decide_eq_false_iff_not, beq_iff_eq, beq_eq_false_iff_ne, bne_iff_ne, bne_eq_false_iff_eq, ne_eq, Bool.not_eq_true, Bool.not_eq_false, Bool.not_true, Bool.not_false, Bool.not_eq_eq_eq_not, Int.not_lt, Int.not_le, gt_iff_lt, ge_iff_le, Bool.cond_eq_ite, Bool.if_false_right, Bool.if_true_left, Bool.and_eq_true, Bool.or_eq_true, Bool.and_eq_false_imp, Bool.or_eq_false_iff, Decidable.not_not, beq_true, beq_false, iteT, iteF, cond_true, cond_false] at hb); try (exfalso; omega)))) | (refine cw_blocks (fun KB hB => ?_)) | (refine cw_block ?_) | ((first | refine cw_exits ?_ | refine cw_exit ?_ | refine cw_skip ?_); simp (maxSteps := 1000000) (disch := omega) only [go_sem]) | (refine hB _ ?_; clear hB KB) | (refine exit_by (S := Sg) (by assumption) ?_) | ((first | refine cw_rets ?_ | refine cw_ret ?_); simp (maxSteps := 1000000) (disch := omega) only [go_sem]; (try clear hB KB); (try clear hK K)))
        rw [thenQ_normal]
        refine wk_loop (i + 1) ?_ (by omega) (by omega)
        rw [show rAt s (i + 1) = rAt s i from by rw [rAt, if_pos hk]]
        refine le_of [(1, some 1)] rfl (by decide) rfl ?_ ?_
        all_goals simp (maxSteps := 1000000) (disch := omega) only [go_sem]
        repeat' (refine And.intro ?_ ?_)
        all_goals first | rfl | omega | exact .inl rfl | trivial | skip
      · have hk2 : ¬ (s.ops.getD i default).kind = 3 := hk
        have hr := rbox_spec s V hs (s.ops.length - i) i (by omega) hlt hk
        have hk3 : ((s.ops.getD i default).kind != 3) = true := by simpa using hk2
        repeat' (first | ((first | apply cw_ifT | apply cw_condT); (case hc => simp (maxSteps := 1000000) (disch := omega) only [go_sem]; rfl); (case ht => (simp only [Int.toNat_natCast, Int.reduceBEq, Int.reduceBNe, Int.reduceLT, Int.reduceLE, decide_true, decide_false, Bool.not_true, Bool.not_false, Bool.and_true, Bool.true_and, Bool.and_false, Bool.false_and, Bool.or_true, Bool.true_or, Bool.or_false, Bool.false_or, hk3]; done))) | ((first | apply cw_ifF | apply cw_condF); (case hc => simp (maxSteps := 1000000) (disch := omega) only [go_sem]; rfl); (case ht => (simp only [Int.toNat_natCast, Int.reduceBEq, Int.reduceBNe, Int.reduceLT, Int.reduceLE, decide_true, decide_false, Bool.not_true, Bool.not_false, Bool.and_true, Bool.true_and, Bool.and_false, Bool.false_and, Bool.or_true, Bool.true_or, Bool.or_false, Bool.false_or, hk3]; done))) | refine cw_assoc ?_ | refine cw_skips ?_ | refine cw_labels ?_ | ((first | refine cw_step (fun K hK => ?_) | refine cw_last (fun K hK => ?_) | refine cw_stepD (by decide +kernel) (by decide +kernel) (fun K hK => ?_) | refine cw_lastD (by decide +kernel) (by decide +kernel) (fun K hK => ?_) | refine rgB_some ?_ | refine call_a (hr) ?_ | refine gcall_a (fun hg => hr) ?_); (try simp (maxSteps := 1000000) (disch := omega) only [go_sem]); (repeat' (refine And.intro ?_ ?_)); (all_goals first | (refine hK _ ?_; clear hK K) | exact auto_cl | skip)) | ((first | apply cw_ite | apply cw_iteN); (case hf => rfl); (case hc => simp (maxSteps := 1000000) (disch := omega) only [go_sem]; rfl); (all_goals first | (intro hb; (try simp only [decide_eq_true_eq, decide_eq_false_iff_not, beq_iff_eq, beq_eq_false_iff_ne, bne_iff_ne, bne_eq_false_iff_eq, ne_eq, Bool.not_eq_true, Bool.not_eq_false, Bool.not_true, Bool.not_false, Bool.not_eq_eq_eq_not, Int.not_lt, Int.not_le, gt_iff_lt, ge_iff_le, Bool.cond_eq_ite, Bool.if_false_right, Bool.if_true_left, Bool.and_eq_true, Bool.or_eq_true, Bool.and_eq_false_imp, Bool.or_eq_false_iff, Decidable.not_not, beq_true, beq_false, iteT, iteF, cond_true, cond_false] at hb)) | skip)) | exact atN_intro | ((first | apply cw_if | apply cw_cond); (case hc => simp (maxSteps := 1000000) (disch := omega) only [go_sem]; rfl); (all_goals (intro hb; (try simp only [decide_eq_true_eq, decide_eq_false_iff_not, beq_iff_eq, beq_eq_false_iff_ne, bne_iff_ne, bne_eq_false_iff_eq, ne_eq, Bool.not_eq_true, Bool.not_eq_false, Bool.not_true, Bool.not_false, Bool.not_eq_eq_eq_not, Int.not_lt, Int.not_le, gt_iff_lt, ge_iff_le, Bool.cond_eq_ite, Bool.if_false_right, Bool.if_true_left, Bool.and_eq_true, Bool.or_eq_true, Bool.and_eq_false_imp, Bool.or_eq_false_iff, Decidable.not_not, beq_true, beq_false, iteT, iteF, cond_true, cond_false] at hb); try (exfalso; omega)))) | (refine cw_blocks (fun KB hB => ?_)) | (refine cw_block ?_) | ((first | refine cw_exits ?_ | refine cw_exit ?_ | refine cw_skip ?_); simp (maxSteps := 1000000) (disch := omega) only [go_sem]) | (refine hB _ ?_; clear hB KB) | (refine exit_by (S := Sg) (by assumption) ?_) | ((first | refine cw_rets ?_ | refine cw_ret ?_); simp (maxSteps := 1000000) (disch := omega) only [go_sem]; (try clear hB KB); (try clear hK K)))
        rw [thenQ_normal]
        refine wk_loop (i + 1) ?_ (by omega) (by omega)
        rw [show rAt s (i + 1) = upd (upd (rAt s i) i (boxesM s i)) (endsM s.ops i) (boxesM s i) from by rw [rAt, if_neg hk]]
        refine le_of [(1, some 1)] rfl (by decide) rfl ?_ ?_
        all_goals simp (maxSteps := 1000000) (disch := omega) only [go_sem]
        repeat' (refine And.intro ?_ ?_)
        all_goals first | rfl | omega | exact .inl rfl | trivial | skip
        refine .inr fun a ha j hj => ?_
        by_cases e : a = endsM s.ops i
        · rw [if_pos e, if_pos (by omega), e, upd_self]
          have hivl : j = 0 ∨ j = 1 ∨ j = 2 ∨ j = 3 := by omega
          rcases hivl with rfl | rfl | rfl | rfl <;> exact fun _ _ _ h => h
        · rw [if_neg e, upd_ne _ _ e]
          by_cases e2 : a = i
          · rw [if_pos e2, if_pos (by omega), e2, upd_self]
            have hivl : j = 0 ∨ j = 1 ∨ j = 2 ∨ j = 3 := by omega
            rcases hivl with rfl | rfl | rfl | rfl <;> exact fun _ _ _ h => h
          · rw [if_neg e2, upd_ne _ _ e2]; exact fun _ _ _ h => h
    · have hi2 : i = s.ops.length := by omega
      subst hi2
      repeat' (first | refine cw_assoc ?_ | refine cw_skips ?_ | refine cw_labels ?_ | ((first | refine cw_step (fun K hK => ?_) | refine cw_last (fun K hK => ?_) | refine cw_stepD (by decide +kernel) (by decide +kernel) (fun K hK => ?_) | refine cw_lastD (by decide +kernel) (by decide +kernel) (fun K hK => ?_) | refine rgB_some ?_); (try simp (maxSteps := 1000000) (disch := omega) only [go_sem]); (repeat' (refine And.intro ?_ ?_)); (all_goals first | (refine hK _ ?_; clear hK K) | exact auto_cl | skip)) | ((first | apply cw_ite | apply cw_iteN); (case hf => rfl); (case hc => simp (maxSteps := 1000000) (disch := omega) only [go_sem]; rfl); (all_goals first | (intro hb; (try simp only [decide_eq_true_eq, decide_eq_false_iff_not, beq_iff_eq, beq_eq_false_iff_ne, bne_iff_ne, bne_eq_false_iff_eq, ne_eq, Bool.not_eq_true, Bool.not_eq_false, Bool.not_true, Bool.not_false, Bool.not_eq_eq_eq_not, Int.not_lt, Int.not_le, gt_iff_lt, ge_iff_le, Bool.cond_eq_ite, Bool.if_false_right, Bool.if_true_left, Bool.and_eq_true, Bool.or_eq_true, Bool.and_eq_false_imp, Bool.or_eq_false_iff, Decidable.not_not, beq_true, beq_false, iteT, iteF, cond_true, cond_false] at hb)) | skip)) | exact atN_intro | ((first | apply cw_if | apply cw_cond); (case hc => simp (maxSteps := 1000000) (disch := omega) only [go_sem]; rfl); (all_goals (intro hb; (try simp only [decide_eq_true_eq, decide_eq_false_iff_not, beq_iff_eq, beq_eq_false_iff_ne, bne_iff_ne, bne_eq_false_iff_eq, ne_eq, Bool.not_eq_true, Bool.not_eq_false, Bool.not_true, Bool.not_false, Bool.not_eq_eq_eq_not, Int.not_lt, Int.not_le, gt_iff_lt, ge_iff_le, Bool.cond_eq_ite, Bool.if_false_right, Bool.if_true_left, Bool.and_eq_true, Bool.or_eq_true, Bool.and_eq_false_imp, Bool.or_eq_false_iff, Decidable.not_not, beq_true, beq_false, iteT, iteF, cond_true, cond_false] at hb); try (exfalso; omega)))) | (refine cw_blocks (fun KB hB => ?_)) | (refine cw_block ?_) | ((first | refine cw_exits ?_ | refine cw_exit ?_ | refine cw_skip ?_); simp (maxSteps := 1000000) (disch := omega) only [go_sem]) | (refine hB _ ?_; clear hB KB) | (refine exit_by (S := Sg) (by assumption) ?_) | ((first | refine cw_rets ?_ | refine cw_ret ?_); simp (maxSteps := 1000000) (disch := omega) only [go_sem]; (try clear hB KB); (try clear hK K)))
      rw [rAt_eq W]; rfl
end Go.Proofs.YtkjdljcbpbeehaaDoor

/- What lies between two scripts: the parts of both programs. -/
set_option linter.unusedSimpArgs false
set_option linter.unusedVariables false
set_option maxRecDepth 8000
set_option maxHeartbeats 2000000
namespace Go.Proofs.YtkjdljcbpbeehaaDoor
open Go Go.SL
open Go.RowKit (wrap64)
attribute [local go_sem] Int.toNat_natCast stF_top pred_cast2

theorem lst_leQ {sz n : Nat} {f g : Nat → Nat → PV} (h : ∀ i, i < n → ∀ j, j < sz → PV.le (f i j) (g i j)) : PV.le (.lst sz n f) (.lst sz n g) := fun _ _ u hu => by
  obtain ⟨a, c, e, hn, hb⟩ := hu
  refine ⟨a, c, e, hn, fun h0 => ?_⟩
  obtain ⟨b, o, ha, hok, hc⟩ := hb h0
  refine ⟨b, o, ha, hok, fun i hi j hj => ?_⟩
  obtain ⟨x, h1, h2, h3⟩ := hc i hi j hj
  exact ⟨x, h1, h2, h i hi j hj _ _ _ h3⟩
theorem stF_lt {l junk : List Nat} {a : Nat} (h : a < l.length) : stF l junk a = l.reverse.getD a 0 := by
  rw [stF, List.getD_eq_getElem?_getD, List.getD_eq_getElem?_getD, List.getElem?_append_left (by simpa using h)]
theorem op_eq {a b : Op} : a = b ↔ a.kind = b.kind ∧ a.image = b.image ∧ a.x = b.x ∧ a.y = b.y ∧ a.mask = b.mask ∧ a.maskX = b.maskX ∧ a.maskY = b.maskY ∧ a.opacity = b.opacity ∧ a.operator = b.operator ∧
    a.mode = b.mode ∧ a.isolated = b.isolated ∧ a.knockout = b.knockout := by
  cases a; cases b; simp
theorem common_spec (a b : List Op) (ha : a.length ≤ 4096) (hb : b.length ≤ 4096) : Pure Sg 32 [.c (.p (opL a)), .c (.p (opL b))] (fun x => x = .tup [I (preM a b), I (sufM a b (preM a b))]) := by
  refine pure_of Tryd.func32 rfl (rs := [.tmp 4, .tmp 5]) rfl rfl mixed (by decide +kernel) (Nat.le_of_ble_eq_true rfl) (argsLt_mem (by simp (maxSteps := 1000000) (disch := omega) only [go_sem])) ?_
  repeat' (first | refine cw_assoc ?_ | refine cw_skips ?_ | refine cw_labels ?_ | ((first | refine cw_step (fun K hK => ?_) | refine cw_last (fun K hK => ?_) | refine cw_stepD (by decide +kernel) (by decide +kernel) (fun K hK => ?_) | refine cw_lastD (by decide +kernel) (by decide +kernel) (fun K hK => ?_) | refine rgB_some ?_); (try simp (maxSteps := 1000000) (disch := omega) only [go_sem]); (repeat' (refine And.intro ?_ ?_)); (all_goals first | (refine hK _ ?_; clear hK K) | exact auto_cl | skip)) | ((first | apply cw_ite | apply cw_iteN); (case hf => rfl); (case hc => simp (maxSteps := 1000000) (disch := omega) only [go_sem]; rfl); (all_goals first | (intro hb; (try simp only [decide_eq_true_eq, decide_eq_false_iff_not, beq_iff_eq, beq_eq_false_iff_ne, bne_iff_ne, bne_eq_false_iff_eq, ne_eq, Bool.not_eq_true, Bool.not_eq_false, Bool.not_true, Bool.not_false, Bool.not_eq_eq_eq_not, Int.not_lt, Int.not_le, gt_iff_lt, ge_iff_le, Bool.cond_eq_ite, Bool.if_false_right, Bool.if_true_left, Bool.and_eq_true, Bool.or_eq_true, Bool.and_eq_false_imp, Bool.or_eq_false_iff, Decidable.not_not, beq_true, beq_false, iteT, iteF, cond_true, cond_false] at hb)) | skip)) | exact atN_intro | ((first | apply cw_if | apply cw_cond); (case hc => simp (maxSteps := 1000000) (disch := omega) only [go_sem]; rfl); (all_goals (intro hb; (try simp only [decide_eq_true_eq, decide_eq_false_iff_not, beq_iff_eq, beq_eq_false_iff_ne, bne_iff_ne, bne_eq_false_iff_eq, ne_eq, Bool.not_eq_true, Bool.not_eq_false, Bool.not_true, Bool.not_false, Bool.not_eq_eq_eq_not, Int.not_lt, Int.not_le, gt_iff_lt, ge_iff_le, Bool.cond_eq_ite, Bool.if_false_right, Bool.if_true_left, Bool.and_eq_true, Bool.or_eq_true, Bool.and_eq_false_imp, Bool.or_eq_false_iff, Decidable.not_not, beq_true, beq_false, iteT, iteF, cond_true, cond_false] at hb); try (exfalso; omega)))) | (refine cw_blocks (fun KB hB => ?_)) | (refine cw_block ?_) | ((first | refine cw_exits ?_ | refine cw_exit ?_ | refine cw_skip ?_); simp (maxSteps := 1000000) (disch := omega) only [go_sem]) | (refine hB _ ?_; clear hB KB) | (refine exit_by (S := Sg) (by assumption) ?_) | ((first | refine cw_rets ?_ | refine cw_ret ?_); simp (maxSteps := 1000000) (disch := omega) only [go_sem]; (try clear hB KB); (try clear hK K)))
  refine cw_loop (X := Nat) (fun k => mkSt [(0, .b (.c (.p (opL a)))), (1, .b (.c (.p (opL b)))), (4, .b (I k)), (5, .b (I 0))] [] 1)
    (fun k => k ≤ a.length ∧ preM a b = upTo (fun k => decide (k < a.length ∧ k < b.length ∧ opAt a k = opAt b k)) (a.length - k) k) (fun k => a.length - k) 0 ?_ ?_ ?_
  · exact ⟨Nat.zero_le _, rfl⟩
  · refine le_of [] rfl (by decide) rfl ?_ ?_
    all_goals simp (maxSteps := 1000000) (disch := omega) only [go_sem]
    repeat' (refine And.intro ?_ ?_)
    all_goals first | rfl | omega | exact .inl rfl | trivial | skip
  · rintro k ⟨hk, hp⟩
    repeat' (first | refine cw_assoc ?_ | refine cw_skips ?_ | refine cw_labels ?_ | ((first | refine cw_step (fun K hK => ?_) | refine cw_last (fun K hK => ?_) | refine cw_stepD (by decide +kernel) (by decide +kernel) (fun K hK => ?_) | refine cw_lastD (by decide +kernel) (by decide +kernel) (fun K hK => ?_) | refine rgB_some ?_); (try simp (maxSteps := 1000000) (disch := omega) only [go_sem]); (repeat' (refine And.intro ?_ ?_)); (all_goals first | (refine hK _ ?_; clear hK K) | exact auto_cl | skip)) | ((first | apply cw_ite | apply cw_iteN); (case hf => rfl); (case hc => simp (maxSteps := 1000000) (disch := omega) only [go_sem]; rfl); (all_goals first | (intro hb; (try simp only [decide_eq_true_eq, decide_eq_false_iff_not, beq_iff_eq, beq_eq_false_iff_ne, bne_iff_ne, bne_eq_false_iff_eq, ne_eq, Bool.not_eq_true, Bool.not_eq_false, Bool.not_true, Bool.not_false, Bool.not_eq_eq_eq_not, Int.not_lt, Int.not_le, gt_iff_lt, ge_iff_le, Bool.cond_eq_ite, Bool.if_false_right, Bool.if_true_left, Bool.and_eq_true, Bool.or_eq_true, Bool.and_eq_false_imp, Bool.or_eq_false_iff, Decidable.not_not, beq_true, beq_false, iteT, iteF, cond_true, cond_false] at hb)) | skip)) | exact atN_intro | ((first | apply cw_if | apply cw_cond); (case hc => simp (maxSteps := 1000000) (disch := omega) only [go_sem]; rfl); (all_goals (intro hb; (try simp only [decide_eq_true_eq, decide_eq_false_iff_not, beq_iff_eq, beq_eq_false_iff_ne, bne_iff_ne, bne_eq_false_iff_eq, ne_eq, Bool.not_eq_true, Bool.not_eq_false, Bool.not_true, Bool.not_false, Bool.not_eq_eq_eq_not, Int.not_lt, Int.not_le, gt_iff_lt, ge_iff_le, Bool.cond_eq_ite, Bool.if_false_right, Bool.if_true_left, Bool.and_eq_true, Bool.or_eq_true, Bool.and_eq_false_imp, Bool.or_eq_false_iff, Decidable.not_not, beq_true, beq_false, iteT, iteF, cond_true, cond_false] at hb); try (exfalso; omega)))) | (refine cw_blocks (fun KB hB => ?_)) | (refine cw_block ?_) | ((first | refine cw_exits ?_ | refine cw_exit ?_ | refine cw_skip ?_); simp (maxSteps := 1000000) (disch := omega) only [go_sem]) | (refine hB _ ?_; clear hB KB) | (refine exit_by (S := Sg) (by assumption) ?_) | ((first | refine cw_rets ?_ | refine cw_ret ?_); simp (maxSteps := 1000000) (disch := omega) only [go_sem]; (try clear hB KB); (try clear hK K)))
    · have hP : decide (k < a.length ∧ k < b.length ∧ opAt a k = opAt b k) = true := by
        simp only [decide_eq_true_eq]
        obtain ⟨_, e1, e2, e3, e4, e5, e6, e7, e8, e9, e10, e11, e12, _⟩ := hb
        exact ⟨by omega, by omega, op_eq.2 ⟨e1, e2, e3, e4, e5, e6, e7, e8, e9, e10, e11, e12⟩⟩
      rw [blockQ_normal, thenQ_normal]
      refine wk_loop (k + 1) ?_ ⟨by omega, ?_⟩ (by omega)
      · refine le_of [] rfl (by decide) rfl ?_ ?_
        all_goals simp (maxSteps := 1000000) (disch := omega) only [go_sem]
        repeat' (refine And.intro ?_ ?_)
        all_goals first | rfl | omega | exact .inl rfl | trivial | skip
      · rw [hp, upTo_step (by omega), if_pos hP]
    · have hfin : preM a b = k := by
        rw [hp]
        rcases Nat.lt_or_ge k a.length with hka | hka
        · rw [upTo_step hka, if_neg]
          simp only [decide_eq_true_eq]
          rintro ⟨q1, q2, q3⟩
          obtain ⟨e1, e2, e3, e4, e5, e6, e7, e8, e9, e10, e11, e12⟩ := op_eq.1 q3
          exact absurd (hb ⟨by omega, by omega⟩ e1 e2 e3 e4 e5 e6 e7 e8 e9 e10 e11 e12) (by simp)
        · rw [show a.length - k = 0 by omega]; rfl
      have hpl := pre_le a b
      rw [hfin] at hpl
      rw [hfin]
      clear hb hp hk
      refine cw_loop (X := Nat) (fun j => mkSt [(0, .b (.c (.p (opL a)))), (1, .b (.c (.p (opL b)))), (4, .b (I k)), (5, .b (I j))] [] 1)
        (fun j => j ≤ a.length ∧ sufM a b k = upTo (fun j => decide (k + j < a.length ∧ k + j < b.length ∧ opAt a (a.length - 1 - j) = opAt b (b.length - 1 - j))) (a.length - j) j) (fun j => a.length - j) 0 ?_ ?_ ?_
      · exact ⟨Nat.zero_le _, rfl⟩
      · refine le_of [] rfl (by decide) rfl ?_ ?_
        all_goals simp (maxSteps := 1000000) (disch := omega) only [go_sem]
        repeat' (refine And.intro ?_ ?_)
        all_goals first | rfl | omega | exact .inl rfl | trivial | skip
      · rintro j ⟨hj, hs⟩
        have ia : ((a.length : Int) - 1 - (j : Int)).toNat = a.length - 1 - j := by omega
        have ib : ((b.length : Int) - 1 - (j : Int)).toNat = b.length - 1 - j := by omega
        repeat' (first | refine cw_assoc ?_ | refine cw_skips ?_ | refine cw_labels ?_ | ((first | refine cw_step (fun K hK => ?_) | refine cw_last (fun K hK => ?_) | refine cw_stepD (by decide +kernel) (by decide +kernel) (fun K hK => ?_) | refine cw_lastD (by decide +kernel) (by decide +kernel) (fun K hK => ?_) | refine rgB_some ?_); (try simp (maxSteps := 1000000) (disch := omega) only [go_sem]); (repeat' (refine And.intro ?_ ?_)); (all_goals first | (refine hK _ ?_; clear hK K) | exact auto_cl | skip)) | ((first | apply cw_ite | apply cw_iteN); (case hf => rfl); (case hc => simp (maxSteps := 1000000) (disch := omega) only [go_sem]; rfl); (all_goals first | (intro hb; (try simp only [decide_eq_true_eq, decide_eq_false_iff_not, beq_iff_eq, beq_eq_false_iff_ne, bne_iff_ne, bne_eq_false_iff_eq, ne_eq, Bool.not_eq_true, Bool.not_eq_false, Bool.not_true, Bool.not_false, Bool.not_eq_eq_eq_not, Int.not_lt, Int.not_le, gt_iff_lt, ge_iff_le, Bool.cond_eq_ite, Bool.if_false_right, Bool.if_true_left, Bool.and_eq_true, Bool.or_eq_true, Bool.and_eq_false_imp, Bool.or_eq_false_iff, Decidable.not_not, beq_true, beq_false, iteT, iteF, cond_true, cond_false] at hb)) | skip)) | exact atN_intro | ((first | apply cw_if | apply cw_cond); (case hc => simp (maxSteps := 1000000) (disch := omega) only [go_sem]; rfl); (all_goals (intro hb; (try simp only [decide_eq_true_eq, decide_eq_false_iff_not, beq_iff_eq, beq_eq_false_iff_ne, bne_iff_ne, bne_eq_false_iff_eq, ne_eq, Bool.not_eq_true, Bool.not_eq_false, Bool.not_true, Bool.not_false, Bool.not_eq_eq_eq_not, Int.not_lt, Int.not_le, gt_iff_lt, ge_iff_le, Bool.cond_eq_ite, Bool.if_false_right, Bool.if_true_left, Bool.and_eq_true, Bool.or_eq_true, Bool.and_eq_false_imp, Bool.or_eq_false_iff, Decidable.not_not, beq_true, beq_false, iteT, iteF, cond_true, cond_false] at hb); try (exfalso; omega)))) | (refine cw_blocks (fun KB hB => ?_)) | (refine cw_block ?_) | ((first | refine cw_exits ?_ | refine cw_exit ?_ | refine cw_skip ?_); simp (maxSteps := 1000000) (disch := omega) only [go_sem]) | (refine hB _ ?_; clear hB KB) | (refine exit_by (S := Sg) (by assumption) ?_) | ((first | refine cw_rets ?_ | refine cw_ret ?_); simp (maxSteps := 1000000) (disch := omega) only [go_sem]; (try clear hB KB); (try clear hK K)))
        · rw [ia, ib] at hb
          obtain ⟨_, e1, e2, e3, e4, e5, e6, e7, e8, e9, e10, e11, e12, _⟩ := hb
          rw [blockQ_normal, thenQ_normal]
          refine wk_loop (j + 1) ?_ ⟨by omega, ?_⟩ (by omega)
          · refine le_of [] rfl (by decide) rfl ?_ ?_
            all_goals simp (maxSteps := 1000000) (disch := omega) only [go_sem]
            repeat' (refine And.intro ?_ ?_)
            all_goals first | rfl | omega | exact .inl rfl | trivial | skip
          · rw [hs, upTo_step (by omega), if_pos]
            simp only [decide_eq_true_eq]
            exact ⟨by omega, by omega, op_eq.2 ⟨e1, e2, e3, e4, e5, e6, e7, e8, e9, e10, e11, e12⟩⟩
        · have hfin2 : sufM a b k = j := by
            rw [hs]
            rcases Nat.lt_or_ge j a.length with hka | hka
            · rw [upTo_step hka, if_neg]
              simp only [decide_eq_true_eq]
              rintro ⟨q1, q2, q3⟩
              rw [ia, ib] at hb
              obtain ⟨e1, e2, e3, e4, e5, e6, e7, e8, e9, e10, e11, e12⟩ := op_eq.1 q3
              exact absurd (hb ⟨by omega, by omega⟩ e1 e2 e3 e4 e5 e6 e7 e8 e9 e10 e11 e12) (by simp)
            · rw [show a.length - j = 0 by omega]; rfl
          rw [hfin, hfin2]
theorem open_spec (s : Script) (V : VOps s) (p : Nat) (hp : p ≤ s.ops.length) : Pure Sg 59 [.c (.p (opL s.ops)), I p] (fun x => x = .b (.c (.p (natsF (stk s.ops p).length (fun a => (stk s.ops p).reverse.getD a 0))))) := by
  have hn := V.cnt
  have W := V.wf
  refine pure_le ?_
  refine pure_of Tryd.func59 rfl (rs := [.tmp 4]) rfl rfl mixed (by decide +kernel) (Nat.le_of_ble_eq_true rfl) (argsLt_mem (by simp (maxSteps := 1000000) (disch := omega) only [go_sem])) ?_
  repeat' (first | refine cw_assoc ?_ | refine cw_skips ?_ | refine cw_labels ?_ | ((first | refine cw_step (fun K hK => ?_) | refine cw_last (fun K hK => ?_) | refine cw_stepD (by decide +kernel) (by decide +kernel) (fun K hK => ?_) | refine cw_lastD (by decide +kernel) (by decide +kernel) (fun K hK => ?_) | refine rgB_some ?_); (try simp (maxSteps := 1000000) (disch := omega) only [go_sem]); (repeat' (refine And.intro ?_ ?_)); (all_goals first | (refine hK _ ?_; clear hK K) | exact auto_cl | skip)) | ((first | apply cw_ite | apply cw_iteN); (case hf => rfl); (case hc => simp (maxSteps := 1000000) (disch := omega) only [go_sem]; rfl); (all_goals first | (intro hb; (try simp only [decide_eq_true_eq, decide_eq_false_iff_not, beq_iff_eq, beq_eq_false_iff_ne, bne_iff_ne, bne_eq_false_iff_eq, ne_eq, Bool.not_eq_true, Bool.not_eq_false, Bool.not_true, Bool.not_false, Bool.not_eq_eq_eq_not, Int.not_lt, Int.not_le, gt_iff_lt, ge_iff_le, Bool.cond_eq_ite, Bool.if_false_right, Bool.if_true_left, Bool.and_eq_true, Bool.or_eq_true, Bool.and_eq_false_imp, Bool.or_eq_false_iff, Decidable.not_not, beq_true, beq_false, iteT, iteF, cond_true, cond_false] at hb)) | skip)) | exact atN_intro | ((first | apply cw_if | apply cw_cond); (case hc => simp (maxSteps := 1000000) (disch := omega) only [go_sem]; rfl); (all_goals (intro hb; (try simp only [decide_eq_true_eq, decide_eq_false_iff_not, beq_iff_eq, beq_eq_false_iff_ne, bne_iff_ne, bne_eq_false_iff_eq, ne_eq, Bool.not_eq_true, Bool.not_eq_false, Bool.not_true, Bool.not_false, Bool.not_eq_eq_eq_not, Int.not_lt, Int.not_le, gt_iff_lt, ge_iff_le, Bool.cond_eq_ite, Bool.if_false_right, Bool.if_true_left, Bool.and_eq_true, Bool.or_eq_true, Bool.and_eq_false_imp, Bool.or_eq_false_iff, Decidable.not_not, beq_true, beq_false, iteT, iteF, cond_true, cond_false] at hb); try (exfalso; omega)))) | (refine cw_blocks (fun KB hB => ?_)) | (refine cw_block ?_) | ((first | refine cw_exits ?_ | refine cw_exit ?_ | refine cw_skip ?_); simp (maxSteps := 1000000) (disch := omega) only [go_sem]) | (refine hB _ ?_; clear hB KB) | (refine exit_by (S := Sg) (by assumption) ?_) | ((first | refine cw_rets ?_ | refine cw_ret ?_); simp (maxSteps := 1000000) (disch := omega) only [go_sem]; (try clear hB KB); (try clear hK K)))
  refine cw_loop (X := Nat × List Nat) (fun x => mkSt [(4, .b (.c (.p (.val (.slice none 0 0))))), (5, .b (.c (.own 1 (stk s.ops x.1).length))), (10, .b (.c (.p (.lst 12 p (fnOf opE s.ops))))), (11, .b (I p)), (12, .b (I x.1))]
    [(1, .arr 3 1 ((stk s.ops x.1).length + x.2.length) (fun a _ => PI (stF (stk s.ops x.1) x.2 a)))] 2) (fun x => x.1 ≤ p) (fun x => p - x.1) (0, []) ?_ ?_ ?_
  · exact Nat.zero_le _
  · refine le_of [(1, none)] rfl (by decide) rfl ?_ ?_
    all_goals simp (maxSteps := 1000000) (disch := omega) only [go_sem]
    repeat' (refine And.intro ?_ ?_)
    all_goals first | rfl | omega | exact .inl rfl | trivial | skip
    rw [Nat.sub_zero]
    refine .inr (lst_leQ fun i hi j hj => ?_)
    rw [Nat.zero_add]
    exact fun _ _ _ h => h
  · rintro ⟨i, junk⟩ hi
    dsimp only at hi ⊢
    have hsl := stk_len s.ops i
    rcases Nat.lt_or_ge i p with hlt | hge
    · rcases W.kinds i (by omega) with hk | hk | hk
      · have hk2 : (s.ops.getD i default).kind = 1 := hk
        repeat' (first | ((first | apply cw_ifT | apply cw_condT); (case hc => simp (maxSteps := 1000000) (disch := omega) only [go_sem]; rfl); (case ht => (simp only [Int.toNat_natCast, Int.reduceBEq, Int.reduceBNe, Int.reduceLT, Int.reduceLE, decide_true, decide_false, Bool.not_true, Bool.not_false, Bool.and_true, Bool.true_and, Bool.and_false, Bool.false_and, Bool.or_true, Bool.true_or, Bool.or_false, Bool.false_or, hk2]; done))) | ((first | apply cw_ifF | apply cw_condF); (case hc => simp (maxSteps := 1000000) (disch := omega) only [go_sem]; rfl); (case ht => (simp only [Int.toNat_natCast, Int.reduceBEq, Int.reduceBNe, Int.reduceLT, Int.reduceLE, decide_true, decide_false, Bool.not_true, Bool.not_false, Bool.and_true, Bool.true_and, Bool.and_false, Bool.false_and, Bool.or_true, Bool.true_or, Bool.or_false, Bool.false_or, hk2]; done))) | refine cw_assoc ?_ | refine cw_skips ?_ | refine cw_labels ?_ | ((first | refine cw_step (fun K hK => ?_) | refine cw_last (fun K hK => ?_) | refine cw_stepD (by decide +kernel) (by decide +kernel) (fun K hK => ?_) | refine cw_lastD (by decide +kernel) (by decide +kernel) (fun K hK => ?_) | refine rgB_some ?_); (try simp (maxSteps := 1000000) (disch := omega) only [go_sem]); (repeat' (refine And.intro ?_ ?_)); (all_goals first | (refine hK _ ?_; clear hK K) | exact auto_cl | skip)) | ((first | apply cw_ite | apply cw_iteN); (case hf => rfl); (case hc => simp (maxSteps := 1000000) (disch := omega) only [go_sem]; rfl); (all_goals first | (intro hb; (try simp only [decide_eq_true_eq, decide_eq_false_iff_not, beq_iff_eq, beq_eq_false_iff_ne, bne_iff_ne, bne_eq_false_iff_eq, ne_eq, Bool.not_eq_true, Bool.not_eq_false, Bool.not_true, Bool.not_false, Bool.not_eq_eq_eq_not, Int.not_lt, Int.not_le, gt_iff_lt, ge_iff_le, Bool.cond_eq_ite, Bool.if_false_right, Bool.if_true_left, Bool.and_eq_true, Bool.or_eq_true, Bool.and_eq_false_imp, Bool.or_eq_false_iff, Decidable.not_not, beq_true, beq_false, iteT, iteF, cond_true, cond_false] at hb)) | skip)) | exact atN_intro | ((first | apply cw_if | apply cw_cond); (case hc => simp (maxSteps := 1000000) (disch := omega) only [go_sem]; rfl); (all_goals (intro hb; (try simp only [decide_eq_true_eq, decide_eq_false_iff_not, beq_iff_eq, beq_eq_false_iff_ne, bne_iff_ne, bne_eq_false_iff_eq, ne_eq, Bool.not_eq_true, Bool.not_eq_false, Bool.not_true, Bool.not_false, Bool.not_eq_eq_eq_not, Int.not_lt, Int.not_le, gt_iff_lt, ge_iff_le, Bool.cond_eq_ite, Bool.if_false_right, Bool.if_true_left, Bool.and_eq_true, Bool.or_eq_true, Bool.and_eq_false_imp, Bool.or_eq_false_iff, Decidable.not_not, beq_true, beq_false, iteT, iteF, cond_true, cond_false] at hb); try (exfalso; omega)))) | (refine cw_blocks (fun KB hB => ?_)) | (refine cw_block ?_) | ((first | refine cw_exits ?_ | refine cw_exit ?_ | refine cw_skip ?_); simp (maxSteps := 1000000) (disch := omega) only [go_sem]) | (refine hB _ ?_; clear hB KB) | (refine exit_by (S := Sg) (by assumption) ?_) | ((first | refine cw_rets ?_ | refine cw_ret ?_); simp (maxSteps := 1000000) (disch := omega) only [go_sem]; (try clear hB KB); (try clear hK K)))
        rw [thenQ_normal]
        refine wk_loop (i + 1, junk) ?_ (by dsimp only; omega) (by dsimp only; omega)
        dsimp only
        rw [stk_draw hk]
        refine le_of [(1, some 1)] rfl (by decide) rfl ?_ ?_
        all_goals simp (maxSteps := 1000000) (disch := omega) only [go_sem]
        repeat' (refine And.intro ?_ ?_)
        all_goals first | rfl | omega | exact .inl rfl | trivial | skip
      · have hk2 : (s.ops.getD i default).kind = 2 := hk
        repeat' (first | ((first | apply cw_ifT | apply cw_condT); (case hc => simp (maxSteps := 1000000) (disch := omega) only [go_sem]; rfl); (case ht => (simp only [Int.toNat_natCast, Int.reduceBEq, Int.reduceBNe, Int.reduceLT, Int.reduceLE, decide_true, decide_false, Bool.not_true, Bool.not_false, Bool.and_true, Bool.true_and, Bool.and_false, Bool.false_and, Bool.or_true, Bool.true_or, Bool.or_false, Bool.false_or, hk2]; done))) | ((first | apply cw_ifF | apply cw_condF); (case hc => simp (maxSteps := 1000000) (disch := omega) only [go_sem]; rfl); (case ht => (simp only [Int.toNat_natCast, Int.reduceBEq, Int.reduceBNe, Int.reduceLT, Int.reduceLE, decide_true, decide_false, Bool.not_true, Bool.not_false, Bool.and_true, Bool.true_and, Bool.and_false, Bool.false_and, Bool.or_true, Bool.true_or, Bool.or_false, Bool.false_or, hk2]; done))) | refine cw_assoc ?_ | refine cw_skips ?_ | refine cw_labels ?_ | ((first | refine cw_step (fun K hK => ?_) | refine cw_last (fun K hK => ?_) | refine cw_stepD (by decide +kernel) (by decide +kernel) (fun K hK => ?_) | refine cw_lastD (by decide +kernel) (by decide +kernel) (fun K hK => ?_) | refine rgB_some ?_); (try simp (maxSteps := 1000000) (disch := omega) only [go_sem]); (repeat' (refine And.intro ?_ ?_)); (all_goals first | (refine hK _ ?_; clear hK K) | exact auto_cl | skip)) | ((first | apply cw_ite | apply cw_iteN); (case hf => rfl); (case hc => simp (maxSteps := 1000000) (disch := omega) only [go_sem]; rfl); (all_goals first | (intro hb; (try simp only [decide_eq_true_eq, decide_eq_false_iff_not, beq_iff_eq, beq_eq_false_iff_ne, bne_iff_ne, bne_eq_false_iff_eq, ne_eq, Bool.not_eq_true, Bool.not_eq_false, Bool.not_true, Bool.not_false, Bool.not_eq_eq_eq_not, Int.not_lt, Int.not_le, gt_iff_lt, ge_iff_le, Bool.cond_eq_ite, Bool.if_false_right, Bool.if_true_left, Bool.and_eq_true, Bool.or_eq_true, Bool.and_eq_false_imp, Bool.or_eq_false_iff, Decidable.not_not, beq_true, beq_false, iteT, iteF, cond_true, cond_false] at hb)) | skip)) | exact atN_intro | ((first | apply cw_if | apply cw_cond); (case hc => simp (maxSteps := 1000000) (disch := omega) only [go_sem]; rfl); (all_goals (intro hb; (try simp only [decide_eq_true_eq, decide_eq_false_iff_not, beq_iff_eq, beq_eq_false_iff_ne, bne_iff_ne, bne_eq_false_iff_eq, ne_eq, Bool.not_eq_true, Bool.not_eq_false, Bool.not_true, Bool.not_false, Bool.not_eq_eq_eq_not, Int.not_lt, Int.not_le, gt_iff_lt, ge_iff_le, Bool.cond_eq_ite, Bool.if_false_right, Bool.if_true_left, Bool.and_eq_true, Bool.or_eq_true, Bool.and_eq_false_imp, Bool.or_eq_false_iff, Decidable.not_not, beq_true, beq_false, iteT, iteF, cond_true, cond_false] at hb); try (exfalso; omega)))) | (refine cw_blocks (fun KB hB => ?_)) | (refine cw_block ?_) | ((first | refine cw_exits ?_ | refine cw_exit ?_ | refine cw_skip ?_); simp (maxSteps := 1000000) (disch := omega) only [go_sem]) | (refine hB _ ?_; clear hB KB) | (refine exit_by (S := Sg) (by assumption) ?_) | ((first | refine cw_rets ?_ | refine cw_ret ?_); simp (maxSteps := 1000000) (disch := omega) only [go_sem]; (try clear hB KB); (try clear hK K)))
        rw [thenQ_normal]
        refine wk_loop (i + 1, []) ?_ (by dsimp only; omega) (by dsimp only; omega)
        dsimp only
        rw [stk_push hk]
        refine le_of [(1, some 4)] rfl (by decide) rfl ?_ ?_
        all_goals simp (maxSteps := 1000000) (disch := omega) only [go_sem]
        repeat' (refine And.intro ?_ ?_)
        all_goals first | rfl | omega | exact .inl rfl | trivial | skip
        refine .inr fun a ha j hj => ?_
        have h2 : j = 0 := by omega
        subst h2
        unfold appF
        by_cases h : a < (stk s.ops i).length
        · rw [if_pos h, stF_old h]; exact fun _ _ _ h => h
        · have ea : a = (stk s.ops i).length := by omega
          rw [if_neg h, ea, stF_top, Nat.sub_self]; exact fun _ _ _ h => h
      · have hk2 : (s.ops.getD i default).kind = 3 := hk
        cases hs : stk s.ops i with
        | nil => exact absurd hs (W.pops i (by omega) hk)
        | cons q t =>
          have htl : t.length ≤ 4096 := by rw [hs] at hsl; simp at hsl; omega
          repeat' (first | ((first | apply cw_ifT | apply cw_condT); (case hc => simp (maxSteps := 1000000) (disch := omega) only [go_sem]; rfl); (case ht => (simp only [Int.toNat_natCast, Int.reduceBEq, Int.reduceBNe, Int.reduceLT, Int.reduceLE, decide_true, decide_false, Bool.not_true, Bool.not_false, Bool.and_true, Bool.true_and, Bool.and_false, Bool.false_and, Bool.or_true, Bool.true_or, Bool.or_false, Bool.false_or, hk2]; done))) | ((first | apply cw_ifF | apply cw_condF); (case hc => simp (maxSteps := 1000000) (disch := omega) only [go_sem]; rfl); (case ht => (simp only [Int.toNat_natCast, Int.reduceBEq, Int.reduceBNe, Int.reduceLT, Int.reduceLE, decide_true, decide_false, Bool.not_true, Bool.not_false, Bool.and_true, Bool.true_and, Bool.and_false, Bool.false_and, Bool.or_true, Bool.true_or, Bool.or_false, Bool.false_or, hk2]; done))) | refine cw_assoc ?_ | refine cw_skips ?_ | refine cw_labels ?_ | ((first | refine cw_step (fun K hK => ?_) | refine cw_last (fun K hK => ?_) | refine cw_stepD (by decide +kernel) (by decide +kernel) (fun K hK => ?_) | refine cw_lastD (by decide +kernel) (by decide +kernel) (fun K hK => ?_) | refine rgB_some ?_); (try simp (maxSteps := 1000000) (disch := omega) only [go_sem]); (repeat' (refine And.intro ?_ ?_)); (all_goals first | (refine hK _ ?_; clear hK K) | exact auto_cl | skip)) | ((first | apply cw_ite | apply cw_iteN); (case hf => rfl); (case hc => simp (maxSteps := 1000000) (disch := omega) only [go_sem]; rfl); (all_goals first | (intro hb; (try simp only [decide_eq_true_eq, decide_eq_false_iff_not, beq_iff_eq, beq_eq_false_iff_ne, bne_iff_ne, bne_eq_false_iff_eq, ne_eq, Bool.not_eq_true, Bool.not_eq_false, Bool.not_true, Bool.not_false, Bool.not_eq_eq_eq_not, Int.not_lt, Int.not_le, gt_iff_lt, ge_iff_le, Bool.cond_eq_ite, Bool.if_false_right, Bool.if_true_left, Bool.and_eq_true, Bool.or_eq_true, Bool.and_eq_false_imp, Bool.or_eq_false_iff, Decidable.not_not, beq_true, beq_false, iteT, iteF, cond_true, cond_false] at hb)) | skip)) | exact atN_intro | ((first | apply cw_if | apply cw_cond); (case hc => simp (maxSteps := 1000000) (disch := omega) only [go_sem]; rfl); (all_goals (intro hb; (try simp only [decide_eq_true_eq, decide_eq_false_iff_not, beq_iff_eq, beq_eq_false_iff_ne, bne_iff_ne, bne_eq_false_iff_eq, ne_eq, Bool.not_eq_true, Bool.not_eq_false, Bool.not_true, Bool.not_false, Bool.not_eq_eq_eq_not, Int.not_lt, Int.not_le, gt_iff_lt, ge_iff_le, Bool.cond_eq_ite, Bool.if_false_right, Bool.if_true_left, Bool.and_eq_true, Bool.or_eq_true, Bool.and_eq_false_imp, Bool.or_eq_false_iff, Decidable.not_not, beq_true, beq_false, iteT, iteF, cond_true, cond_false] at hb); try (exfalso; omega)))) | (refine cw_blocks (fun KB hB => ?_)) | (refine cw_block ?_) | ((first | refine cw_exits ?_ | refine cw_exit ?_ | refine cw_skip ?_); simp (maxSteps := 1000000) (disch := omega) only [go_sem]) | (refine hB _ ?_; clear hB KB) | (refine exit_by (S := Sg) (by assumption) ?_) | ((first | refine cw_rets ?_ | refine cw_ret ?_); simp (maxSteps := 1000000) (disch := omega) only [go_sem]; (try clear hB KB); (try clear hK K)))
          rw [thenQ_normal]
          refine wk_loop (i + 1, q :: junk) ?_ (by dsimp only; omega) (by dsimp only; omega)
          dsimp only
          rw [stk_pop hk, hs]
          refine le_of [(1, some 1)] rfl (by decide) rfl ?_ ?_
          all_goals simp (maxSteps := 1000000) (disch := omega) only [go_sem]
          repeat' (refine And.intro ?_ ?_)
          all_goals first | rfl | omega | exact .inl rfl | trivial | skip
          · show _ = t.length + (junk.length + 1); omega
          · exact .inl (by rw [stF_pop]; rfl)
    · have hi2 : i = p := by omega
      subst hi2
      repeat' (first | refine cw_assoc ?_ | refine cw_skips ?_ | refine cw_labels ?_ | ((first | refine cw_step (fun K hK => ?_) | refine cw_last (fun K hK => ?_) | refine cw_stepD (by decide +kernel) (by decide +kernel) (fun K hK => ?_) | refine cw_lastD (by decide +kernel) (by decide +kernel) (fun K hK => ?_) | refine rgB_some ?_); (try simp (maxSteps := 1000000) (disch := omega) only [go_sem]); (repeat' (refine And.intro ?_ ?_)); (all_goals first | (refine hK _ ?_; clear hK K) | exact auto_cl | skip)) | ((first | apply cw_ite | apply cw_iteN); (case hf => rfl); (case hc => simp (maxSteps := 1000000) (disch := omega) only [go_sem]; rfl); (all_goals first | (intro hb; (try simp only [decide_eq_true_eq, decide_eq_false_iff_not, beq_iff_eq, beq_eq_false_iff_ne, bne_iff_ne, bne_eq_false_iff_eq, ne_eq, Bool.not_eq_true, Bool.not_eq_false, Bool.not_true, Bool.not_false, Bool.not_eq_eq_eq_not, Int.not_lt, Int.not_le, gt_iff_lt, ge_iff_le, Bool.cond_eq_ite, Bool.if_false_right, Bool.if_true_left, Bool.and_eq_true, Bool.or_eq_true, Bool.and_eq_false_imp, Bool.or_eq_false_iff, Decidable.not_not, beq_true, beq_false, iteT, iteF, cond_true, cond_false] at hb)) | skip)) | exact atN_intro | ((first | apply cw_if | apply cw_cond); (case hc => simp (maxSteps := 1000000) (disch := omega) only [go_sem]; rfl); (all_goals (intro hb; (try simp only [decide_eq_true_eq, decide_eq_false_iff_not, beq_iff_eq, beq_eq_false_iff_ne, bne_iff_ne, bne_eq_false_iff_eq, ne_eq, Bool.not_eq_true, Bool.not_eq_false, Bool.not_true, Bool.not_false, Bool.not_eq_eq_eq_not, Int.not_lt, Int.not_le, gt_iff_lt, ge_iff_le, Bool.cond_eq_ite, Bool.if_false_right, Bool.if_true_left, Bool.and_eq_true, Bool.or_eq_true, Bool.and_eq_false_imp, Bool.or_eq_false_iff, Decidable.not_not, beq_true, beq_false, iteT, iteF, cond_true, cond_false] at hb); try (exfalso; omega)))) | (refine cw_blocks (fun KB hB => ?_)) | (refine cw_block ?_) | ((first | refine cw_exits ?_ | refine cw_exit ?_ | refine cw_skip ?_); simp (maxSteps := 1000000) (disch := omega) only [go_sem]) | (refine hB _ ?_; clear hB KB) | (refine exit_by (S := Sg) (by assumption) ?_) | ((first | refine cw_rets ?_ | refine cw_ret ?_); simp (maxSteps := 1000000) (disch := omega) only [go_sem]; (try clear hB KB); (try clear hK K)))
      rw [if_pos (by omega)]
      refine ⟨trivial, ?_⟩
      refine sle_b (ble_c (lst_leQ fun a ha x hx => ?_))
      rw [stF_lt ha]
      exact fun _ _ _ h => h
theorem sameOps_spec (a b : List Op) (ha : a.length ≤ 1000000) (hb : b.length ≤ 1000000) : Pure Sg 23 [.c (.p (opL a)), .c (.p (opL b))] (fun x => x = .b (B (decide (a = b)))) := by
  refine pure_of Tryd.func23 rfl (rs := [.tmp 4]) rfl rfl mixed (by decide +kernel) (Nat.le_of_ble_eq_true rfl) (argsLt_mem (by simp (maxSteps := 1000000) (disch := omega) only [go_sem])) ?_
  repeat' (first | refine cw_assoc ?_ | refine cw_skips ?_ | refine cw_labels ?_ | ((first | refine cw_step (fun K hK => ?_) | refine cw_last (fun K hK => ?_) | refine cw_stepD (by decide +kernel) (by decide +kernel) (fun K hK => ?_) | refine cw_lastD (by decide +kernel) (by decide +kernel) (fun K hK => ?_) | refine rgB_some ?_); (try simp (maxSteps := 1000000) (disch := omega) only [go_sem]); (repeat' (refine And.intro ?_ ?_)); (all_goals first | (refine hK _ ?_; clear hK K) | exact auto_cl | skip)) | ((first | apply cw_ite | apply cw_iteN); (case hf => rfl); (case hc => simp (maxSteps := 1000000) (disch := omega) only [go_sem]; rfl); (all_goals first | (intro hb; (try simp only [decide_eq_true_eq, decide_eq_false_iff_not, beq_iff_eq, beq_eq_false_iff_ne, bne_iff_ne, bne_eq_false_iff_eq, ne_eq, Bool.not_eq_true, Bool.not_eq_false, Bool.not_true, Bool.not_false, Bool.not_eq_eq_eq_not, Int.not_lt, Int.not_le, gt_iff_lt, ge_iff_le, Bool.cond_eq_ite, Bool.if_false_right, Bool.if_true_left, Bool.and_eq_true, Bool.or_eq_true, Bool.and_eq_false_imp, Bool.or_eq_false_iff, Decidable.not_not, beq_true, beq_false, iteT, iteF, cond_true, cond_false] at hb)) | skip)) | exact atN_intro | ((first | apply cw_if | apply cw_cond); (case hc => simp (maxSteps := 1000000) (disch := omega) only [go_sem]; rfl); (all_goals (intro hb; (try simp only [decide_eq_true_eq, decide_eq_false_iff_not, beq_iff_eq, beq_eq_false_iff_ne, bne_iff_ne, bne_eq_false_iff_eq, ne_eq, Bool.not_eq_true, Bool.not_eq_false, Bool.not_true, Bool.not_false, Bool.not_eq_eq_eq_not, Int.not_lt, Int.not_le, gt_iff_lt, ge_iff_le, Bool.cond_eq_ite, Bool.if_false_right, Bool.if_true_left, Bool.and_eq_true, Bool.or_eq_true, Bool.and_eq_false_imp, Bool.or_eq_false_iff, Decidable.not_not, beq_true, beq_false, iteT, iteF, cond_true, cond_false] at hb); try (exfalso; omega)))) | (refine cw_blocks (fun KB hB => ?_)) | (refine cw_block ?_) | ((first | refine cw_exits ?_ | refine cw_exit ?_ | refine cw_skip ?_); simp (maxSteps := 1000000) (disch := omega) only [go_sem]) | (refine hB _ ?_; clear hB KB) | (refine exit_by (S := Sg) (by assumption) ?_) | ((first | refine cw_rets ?_ | refine cw_ret ?_); simp (maxSteps := 1000000) (disch := omega) only [go_sem]; (try clear hB KB); (try clear hK K)))
  · rw [decide_eq_false (fun e => by rw [e] at hb; omega)]
  refine cw_loop (X := Nat) (fun k => mkSt [(0, .b (.c (.p (opL a)))), (1, .b (.c (.p (opL b)))), (4, .b (B false)), (5, .b (I k))] [] 1) (fun k => k ≤ a.length ∧ ∀ j, j < k → opAt a j = opAt b j) (fun k => a.length - k) 0 ?_ ?_ ?_
  · exact ⟨Nat.zero_le _, fun j hj => absurd hj (Nat.not_lt_zero _)⟩
  · refine le_of [] rfl (by decide) rfl ?_ ?_
    all_goals simp (maxSteps := 1000000) (disch := omega) only [go_sem]
    repeat' (refine And.intro ?_ ?_)
    all_goals first | rfl | omega | exact .inl rfl | trivial | skip
  · rintro k ⟨hk, hp⟩
    repeat' (first | refine cw_assoc ?_ | refine cw_skips ?_ | refine cw_labels ?_ | ((first | refine cw_step (fun K hK => ?_) | refine cw_last (fun K hK => ?_) | refine cw_stepD (by decide +kernel) (by decide +kernel) (fun K hK => ?_) | refine cw_lastD (by decide +kernel) (by decide +kernel) (fun K hK => ?_) | refine rgB_some ?_); (try simp (maxSteps := 1000000) (disch := omega) only [go_sem]); (repeat' (refine And.intro ?_ ?_)); (all_goals first | (refine hK _ ?_; clear hK K) | exact auto_cl | skip)) | ((first | apply cw_ite | apply cw_iteN); (case hf => rfl); (case hc => simp (maxSteps := 1000000) (disch := omega) only [go_sem]; rfl); (all_goals first | (intro hb; (try simp only [decide_eq_true_eq, decide_eq_false_iff_not, beq_iff_eq, beq_eq_false_iff_ne, bne_iff_ne, bne_eq_false_iff_eq, ne_eq, Bool.not_eq_true, Bool.not_eq_false, Bool.not_true, Bool.not_false, Bool.not_eq_eq_eq_not, Int.not_lt, Int.not_le, gt_iff_lt, ge_iff_le, Bool.cond_eq_ite, Bool.if_false_right, Bool.if_true_left, Bool.and_eq_true, Bool.or_eq_true, Bool.and_eq_false_imp, Bool.or_eq_false_iff, Decidable.not_not, beq_true, beq_false, iteT, iteF, cond_true, cond_false] at hb)) | skip)) | exact atN_intro | ((first | apply cw_if | apply cw_cond); (case hc => simp (maxSteps := 1000000) (disch := omega) only [go_sem]; rfl); (all_goals (intro hb; (try simp only [decide_eq_true_eq, decide_eq_false_iff_not, beq_iff_eq, beq_eq_false_iff_ne, bne_iff_ne, bne_eq_false_iff_eq, ne_eq, Bool.not_eq_true, Bool.not_eq_false, Bool.not_true, Bool.not_false, Bool.not_eq_eq_eq_not, Int.not_lt, Int.not_le, gt_iff_lt, ge_iff_le, Bool.cond_eq_ite, Bool.if_false_right, Bool.if_true_left, Bool.and_eq_true, Bool.or_eq_true, Bool.and_eq_false_imp, Bool.or_eq_false_iff, Decidable.not_not, beq_true, beq_false, iteT, iteF, cond_true, cond_false] at hb); try (exfalso; omega)))) | (refine cw_blocks (fun KB hB => ?_)) | (refine cw_block ?_) | ((first | refine cw_exits ?_ | refine cw_exit ?_ | refine cw_skip ?_); simp (maxSteps := 1000000) (disch := omega) only [go_sem]) | (refine hB _ ?_; clear hB KB) | (refine exit_by (S := Sg) (by assumption) ?_) | ((first | refine cw_rets ?_ | refine cw_ret ?_); simp (maxSteps := 1000000) (disch := omega) only [go_sem]; (try clear hB KB); (try clear hK K)))
    · rw [decide_eq_false]
      intro e
      subst e
      simp at hb
    · rw [thenQ_normal]
      refine wk_loop (k + 1) ?_ ⟨by omega, fun j hj => ?_⟩ (by omega)
      · refine le_of [] rfl (by decide) rfl ?_ ?_
        all_goals simp (maxSteps := 1000000) (disch := omega) only [go_sem]
        repeat' (refine And.intro ?_ ?_)
        all_goals first | rfl | omega | exact .inl rfl | trivial | skip
      · by_cases e : j = k
        · obtain ⟨e1, e2, e3, e4, e5, e6, e7, e8, e9, e10, e11, e12, _⟩ := hb
          rw [e]; exact op_eq.2 ⟨e1, e2, e3, e4, e5, e6, e7, e8, e9, e10, e11, e12⟩
        · exact hp j (by omega)
    · rw [decide_eq_true (opAt_ext (by omega) fun j hj => hp j (by omega))]
theorem sizes_spec (s t : Script) (hs : ScriptLen s) (ht : ScriptLen t) : Pure Sg 31 [ag (scriptE s), ag (scriptE t)] (fun x => x = .b (B (sizesM s t))) := by
  obtain ⟨h1, h2, h3⟩ := id hs
  obtain ⟨t1, t2, t3⟩ := id ht
  refine pure_of Tryd.func31 rfl (rs := [.tmp 4]) rfl rfl mixed (by decide +kernel) (Nat.le_of_ble_eq_true rfl) (argsLt_mem (by simp (maxSteps := 1000000) (disch := omega) only [go_sem])) ?_
  repeat' (first | refine cw_assoc ?_ | refine cw_skips ?_ | refine cw_labels ?_ | ((first | refine cw_step (fun K hK => ?_) | refine cw_last (fun K hK => ?_) | refine cw_stepD (by decide +kernel) (by decide +kernel) (fun K hK => ?_) | refine cw_lastD (by decide +kernel) (by decide +kernel) (fun K hK => ?_) | refine rgB_some ?_); (try simp (maxSteps := 1000000) (disch := omega) only [go_sem]); (repeat' (refine And.intro ?_ ?_)); (all_goals first | (refine hK _ ?_; clear hK K) | exact auto_cl | skip)) | ((first | apply cw_ite | apply cw_iteN); (case hf => rfl); (case hc => simp (maxSteps := 1000000) (disch := omega) only [go_sem]; rfl); (all_goals first | (intro hb; (try simp only [decide_eq_true_eq, decide_eq_false_iff_not, beq_iff_eq, beq_eq_false_iff_ne, bne_iff_ne, bne_eq_false_iff_eq, ne_eq, Bool.not_eq_true, Bool.not_eq_false, Bool.not_true, Bool.not_false, Bool.not_eq_eq_eq_not, Int.not_lt, Int.not_le, gt_iff_lt, ge_iff_le, Bool.cond_eq_ite, Bool.if_false_right, Bool.if_true_left, Bool.and_eq_true, Bool.or_eq_true, Bool.and_eq_false_imp, Bool.or_eq_false_iff, Decidable.not_not, beq_true, beq_false, iteT, iteF, cond_true, cond_false] at hb)) | skip)) | exact atN_intro | ((first | apply cw_if | apply cw_cond); (case hc => simp (maxSteps := 1000000) (disch := omega) only [go_sem]; rfl); (all_goals (intro hb; (try simp only [decide_eq_true_eq, decide_eq_false_iff_not, beq_iff_eq, beq_eq_false_iff_ne, bne_iff_ne, bne_eq_false_iff_eq, ne_eq, Bool.not_eq_true, Bool.not_eq_false, Bool.not_true, Bool.not_false, Bool.not_eq_eq_eq_not, Int.not_lt, Int.not_le, gt_iff_lt, ge_iff_le, Bool.cond_eq_ite, Bool.if_false_right, Bool.if_true_left, Bool.and_eq_true, Bool.or_eq_true, Bool.and_eq_false_imp, Bool.or_eq_false_iff, Decidable.not_not, beq_true, beq_false, iteT, iteF, cond_true, cond_false] at hb); try (exfalso; omega)))) | (refine cw_blocks (fun KB hB => ?_)) | (refine cw_block ?_) | ((first | refine cw_exits ?_ | refine cw_exit ?_ | refine cw_skip ?_); simp (maxSteps := 1000000) (disch := omega) only [go_sem]) | (refine hB _ ?_; clear hB KB) | (refine exit_by (S := Sg) (by assumption) ?_) | ((first | refine cw_rets ?_ | refine cw_ret ?_); simp (maxSteps := 1000000) (disch := omega) only [go_sem]; (try clear hB KB); (try clear hK K)))
  · rw [sizesM, decide_eq_false, Bool.false_and]
    rintro ⟨e1, e2, e3⟩
    rw [e2] at hb
    rcases hb with (h | h) | h
    · exact h e1
    · exact absurd (h rfl rfl rfl rfl) (by simp)
    · exact h (by rw [e3])
  have hh : s.bits = t.bits ∧ s.canvas = t.canvas ∧ s.images.length = t.images.length := ⟨hb.1.1, rect_ext hb.1.2.1 hb.1.2.2.1 hb.1.2.2.2.1 hb.1.2.2.2.2.1, by omega⟩
  refine cw_loop (X := Nat) (fun i => mkSt [(2, .b (.c (.ptr 0 0))), (3, .b (.c (.ptr 1 0))), (4, .b (B false)), (29, .b (.c (.p (imgL s.images)))), (30, .b (I s.images.length)), (31, .b (I i))] [(0, .fix ((scriptE s).map CV.p)), (1, .fix ((scriptE t).map CV.p))] 2)
    (fun i => i ≤ s.images.length ∧ ∀ j, j < i → (s.images.getD j default).w = (t.images.getD j default).w ∧ (s.images.getD j default).h = (t.images.getD j default).h) (fun i => s.images.length - i) 0 ?_ ?_ ?_
  · exact ⟨Nat.zero_le _, fun j hj => absurd hj (Nat.not_lt_zero _)⟩
  · refine le_of [(1, some 1)] rfl (by decide) rfl ?_ ?_
    all_goals simp (maxSteps := 1000000) (disch := omega) only [go_sem]
    repeat' (refine And.intro ?_ ?_)
    all_goals first | rfl | omega | exact .inl rfl | trivial | skip
  · rintro i ⟨hi, hp⟩
    have hl := hh.2.2
    repeat' (first | refine cw_assoc ?_ | refine cw_skips ?_ | refine cw_labels ?_ | ((first | refine cw_step (fun K hK => ?_) | refine cw_last (fun K hK => ?_) | refine cw_stepD (by decide +kernel) (by decide +kernel) (fun K hK => ?_) | refine cw_lastD (by decide +kernel) (by decide +kernel) (fun K hK => ?_) | refine rgB_some ?_); (try simp (maxSteps := 1000000) (disch := omega) only [go_sem]); (repeat' (refine And.intro ?_ ?_)); (all_goals first | (refine hK _ ?_; clear hK K) | exact auto_cl | skip)) | ((first | apply cw_ite | apply cw_iteN); (case hf => rfl); (case hc => simp (maxSteps := 1000000) (disch := omega) only [go_sem]; rfl); (all_goals first | (intro hb; (try simp only [decide_eq_true_eq, decide_eq_false_iff_not, beq_iff_eq, beq_eq_false_iff_ne, bne_iff_ne, bne_eq_false_iff_eq, ne_eq, Bool.not_eq_true, Bool.not_eq_false, Bool.not_true, Bool.not_false, Bool.not_eq_eq_eq_not, Int.not_lt, Int.not_le, gt_iff_lt, ge_iff_le, Bool.cond_eq_ite, Bool.if_false_right, Bool.if_true_left, Bool.and_eq_true, Bool.or_eq_true, Bool.and_eq_false_imp, Bool.or_eq_false_iff, Decidable.not_not, beq_true, beq_false, iteT, iteF, cond_true, cond_false] at hb)) | skip)) | exact atN_intro | ((first | apply cw_if | apply cw_cond); (case hc => simp (maxSteps := 1000000) (disch := omega) only [go_sem]; rfl); (all_goals (intro hb; (try simp only [decide_eq_true_eq, decide_eq_false_iff_not, beq_iff_eq, beq_eq_false_iff_ne, bne_iff_ne, bne_eq_false_iff_eq, ne_eq, Bool.not_eq_true, Bool.not_eq_false, Bool.not_true, Bool.not_false, Bool.not_eq_eq_eq_not, Int.not_lt, Int.not_le, gt_iff_lt, ge_iff_le, Bool.cond_eq_ite, Bool.if_false_right, Bool.if_true_left, Bool.and_eq_true, Bool.or_eq_true, Bool.and_eq_false_imp, Bool.or_eq_false_iff, Decidable.not_not, beq_true, beq_false, iteT, iteF, cond_true, cond_false] at hb); try (exfalso; omega)))) | (refine cw_blocks (fun KB hB => ?_)) | (refine cw_block ?_) | ((first | refine cw_exits ?_ | refine cw_exit ?_ | refine cw_skip ?_); simp (maxSteps := 1000000) (disch := omega) only [go_sem]) | (refine hB _ ?_; clear hB KB) | (refine exit_by (S := Sg) (by assumption) ?_) | ((first | refine cw_rets ?_ | refine cw_ret ?_); simp (maxSteps := 1000000) (disch := omega) only [go_sem]; (try clear hB KB); (try clear hK K)))
    · rw [sizesM, List.all_eq_false.2, Bool.and_false]
      refine ⟨i, List.mem_range.2 (by omega), ?_⟩
      simp only [decide_eq_true_eq]
      omega
    · rw [thenQ_normal]
      refine wk_loop (i + 1) ?_ ⟨by omega, fun j hj => ?_⟩ (by omega)
      · refine le_of [(1, some 1)] rfl (by decide) rfl ?_ ?_
        all_goals simp (maxSteps := 1000000) (disch := omega) only [go_sem]
        repeat' (refine And.intro ?_ ?_)
        all_goals first | rfl | omega | exact .inl rfl | trivial | skip
      · by_cases e : j = i
        · rw [e]; omega
        · exact hp j (by omega)
    · rw [sizesM, decide_eq_true hh, Bool.true_and, List.all_eq_true.2]
      intro j hj
      rw [decide_eq_true_eq]
      exact hp j (by have := List.mem_range.1 hj; omega)
end Go.Proofs.YtkjdljcbpbeehaaDoor

set_option linter.unusedSimpArgs false
set_option linter.unusedVariables false
set_option maxRecDepth 8000
set_option maxHeartbeats 8000000
namespace Go.Proofs.YtkjdljcbpbeehaaDoor
open Go Go.SL
open Go.RowKit (wrap64)

theorem arr_push_junk {l jk : List Op} {x : Op} {g : Nat → Nat → PV} (hg : ∀ j, j < 12 → g 0 j = (opE x).getD j .any) :
    ∀ i, i < l.length + 1 → ∀ j, j < 12 → PV.le (appF l.length (fnOf opE (l ++ jk)) g i j) (fnOf opE (l ++ [x]) i j) := fun i hi j hj => by
  have := arr_push (enc := opE) (xs := l) (x := x) (s := 12) (g := g) hg i hi j hj
  unfold appF at this ⊢
  by_cases h : i < l.length
  · rw [if_pos h] at this ⊢
    have e : (l ++ jk).getD i default = l.getD i default := by
      rw [List.getD_eq_getElem?_getD, List.getD_eq_getElem?_getD, List.getElem?_append_left h]
    unfold fnOf at this ⊢
    rw [e]; exact this
  · rw [if_neg h] at this ⊢
    exact this
theorem gscript_spec (s : Scene) (hs : SceneOk s) : Pure Sg 7 [ag (sceneE s)] (fun r => r = .b (ag (scriptE (gScript s)))) := by
  obtain ⟨hb, ⟨x1, x2⟩, ⟨y1, y2⟩, ⟨w1, w2⟩, ⟨v1, v2⟩, ⟨t1, t2⟩, ⟨u1, u2⟩, ho, hp, hop, hpic, hraw⟩ := hs
  have hm := gMax_u s.bits
  have hsm := gCanvas_small s
  have htw := tiles_wrap (gCanvas s) (gTileW s) (gTileH s)
  have hw0 : 1 ≤ 1 + s.w % 5 ∧ 1 + s.w % 5 ≤ 5 := by omega
  have hh0 : 1 ≤ 1 + s.h % 4 ∧ 1 + s.h % 4 ≤ 4 := by omega
  have ew : s.tileW % (1 + s.w % 5) = gTileW s - 1 := by unfold gTileW; omega
  have eh : s.tileH % (1 + s.h % 4) = gTileH s - 1 := by unfold gTileH; omega
  have bw := Int.emod_nonneg s.tileW (show 1 + s.w % 5 ≠ 0 by omega)
  have bw2 := Int.emod_lt_of_pos s.tileW (show 0 < 1 + s.w % 5 by omega)
  have bh := Int.emod_nonneg s.tileH (show 1 + s.h % 4 ≠ 0 by omega)
  have bh2 := Int.emod_lt_of_pos s.tileH (show 0 < 1 + s.h % 4 by omega)
  have hmx : Pure Sg 24 [I s.bits] (fun r => r = .b (U (gMax s.bits))) := max_spec _
  refine pure_le ?_
  refine pure_of Tryd.func7 rfl (rs := [.cell 2 32]) rfl rfl mixed (by decide +kernel) (Nat.le_of_ble_eq_true rfl) (argsLt_mem (by simp (maxSteps := 1000000) (disch := omega) only [go_sem])) ?_
  repeat' (first | refine cw_assoc ?_ | refine cw_skips ?_ | refine cw_labels ?_ | ((first | (with_reducible refine cw_stepV (id := 10) (fun K hW => ?_)) | refine cw_step (fun K hK => ?_) | refine cw_last (fun K hK => ?_) | refine cw_stepD (by decide +kernel) (by decide +kernel) (fun K hK => ?_) | refine cw_lastD (by decide +kernel) (by decide +kernel) (fun K hK => ?_) | refine rgB_some ?_ | refine call_a (hmx) ?_ | refine gcall_a (fun hg => hmx) ?_ | refine call_a (modp_spec _ _ (by omega) (by omega)) ?_ | refine gcall_a (fun hg => modp_spec _ _ (by omega) (by omega)) ?_ | refine call_a (tiles_spec ⟨_, _, _, _⟩ _ _) ?_ | refine gcall_a (fun hg => tiles_spec ⟨_, _, _, _⟩ _ _) ?_); (try simp (maxSteps := 1000000) (disch := omega) only [go_sem]); (repeat' (refine And.intro ?_ ?_)); (all_goals first | (refine hK _ ?_; clear hK K) | exact auto_cl | skip)) | ((first | apply cw_ite | apply cw_iteN); (case hf => rfl); (case hc => simp (maxSteps := 1000000) (disch := omega) only [go_sem]; rfl); (all_goals first | (intro hb; (try simp only [decide_eq_true_eq, decide_eq_false_iff_not, beq_iff_eq, beq_eq_false_iff_ne, bne_iff_ne, bne_eq_false_iff_eq, ne_eq, Bool.not_eq_true, Bool.not_eq_false, Bool.not_true, Bool.not_false, Bool.not_eq_eq_eq_not, Int.not_lt, Int.not_le, gt_iff_lt, ge_iff_le, Bool.cond_eq_ite, Bool.if_false_right, Bool.if_true_left, Bool.and_eq_true, Bool.or_eq_true, Bool.and_eq_false_imp, Bool.or_eq_false_iff, Decidable.not_not, beq_true, beq_false, iteT, iteF, cond_true, cond_false] at hb)) | skip)) | exact atN_intro | ((first | apply cw_if | apply cw_cond); (case hc => simp (maxSteps := 1000000) (disch := omega) only [go_sem]; rfl); (all_goals (intro hb; (try simp only [decide_eq_true_eq, decide_eq_false_iff_not, beq_iff_eq, beq_eq_false_iff_ne, bne_iff_ne, bne_eq_false_iff_eq, ne_eq, Bool.not_eq_true, Bool.not_eq_false, Bool.not_true, Bool.not_false, Bool.not_eq_eq_eq_not, Int.not_lt, Int.not_le, gt_iff_lt, ge_iff_le, Bool.cond_eq_ite, Bool.if_false_right, Bool.if_true_left, Bool.and_eq_true, Bool.or_eq_true, Bool.and_eq_false_imp, Bool.or_eq_false_iff, Decidable.not_not, beq_true, beq_false, iteT, iteF, cond_true, cond_false] at hb); try (exfalso; omega)))) | (refine cw_blocks (fun KB hB => ?_)) | (refine cw_block ?_) | ((first | refine cw_exits ?_ | refine cw_exit ?_ | refine cw_skip ?_); simp (maxSteps := 1000000) (disch := omega) only [go_sem]) | (refine hB _ ?_; clear hB KB) | (refine exit_by (S := Sg) (by assumption) ?_) | ((first | refine cw_rets ?_ | refine cw_ret ?_); simp (maxSteps := 1000000) (disch := omega) only [go_sem]; (try clear hB KB); (try clear hK K)))
  refine call_as ?_ ?_ (by simp (maxSteps := 1000000) (disch := omega) only [go_sem]) (permutation_spec s.order (tilesX (gCanvas s) (gTileW s) (gTileH s) * tilesY (gCanvas s) (gTileW s) (gTileH s)) ho htw.2)
  try simp (maxSteps := 1000000) (disch := omega) only [go_sem]
  try (refine hK _ ?_; clear hK K)
  rotate_left
  · rw [← htw.1]
    have e1 : 1 + s.tileW % (1 + s.w % 5) = gTileW s := rfl
    have e2 : 1 + s.tileH % (1 + s.h % 4) = gTileH s := rfl
    simp only [e1, e2]
    rfl
  refine hW _ (mkSt [(1, .b (.c (.ptr 0 0))), (2, .b (.c (.ptr 1 0))), (3, .b (U (gMax s.bits))), (4, .b (.c (.ptr 2 0))), (7, .b (I (1 + s.w % 5))), (8, .b (I (1 + s.h % 4)))]
    [(0, .fix ((sceneE s).map CV.p)), (1, .fix ((List.range 10).map fun _ => CV.p .any)), (2, .fix [.p (PI (gScript s).bits), .p (PI (gCanvas s).x0), .p (PI (gCanvas s).y0), .p (PI (gCanvas s).x1), .p (PI (gCanvas s).y1), .p (PI (gTileW s)), .p (PI (gTileH s)), .p (ints (gScript s).order), .p Nil, .p Nil])] 3) ?_ ?_
  · clear hW
    refine le_of [(1, some 1), (2, some 2)] rfl (by decide) rfl ?_ ?_
    all_goals simp (maxSteps := 1000000) (disch := omega) only [go_sem]
    repeat' (refine And.intro ?_ ?_)
    all_goals first | rfl | omega | exact .inl rfl | trivial | skip
  clear hW
  refine cw_assoc ?_
  refine cw_step fun K hK => ?_
  simp (maxSteps := 1000000) (disch := omega) only [go_sem]
  repeat' (refine And.intro ?_ ?_)
  all_goals first | (refine hK _ ?_; clear hK K) | exact auto_cl | skip
  refine cw_blocksV fun KB hV => ?_
  refine cw_loop (X := Nat) (fun i => mkSt [(1, .b (.c (.ptr 0 0))), (2, .b (.c (.ptr 1 0))), (3, .b (U (gMax s.bits))), (4, .b (.c (.ptr 2 0))), (7, .b (I (1 + s.w % 5))), (8, .b (I (1 + s.h % 4))), (12, .b (I i))]
    [(0, .fix ((sceneE s).map CV.p)), (1, .fix ((List.range 10).map fun _ => CV.p .any)), (2, .fix [.p (PI (gScript s).bits), .p (PI (gCanvas s).x0), .p (PI (gCanvas s).y0), .p (PI (gCanvas s).x1), .p (PI (gCanvas s).y1), .p (PI (gTileW s)), .p (PI (gTileH s)), .p (ints (gScript s).order), .own 3 i, .p Nil]),
     (3, .arr 45 28 i (fnOf imageE ((gImages0 s).take i)))] 4) (fun i => i ≤ s.pics.length ∧ i ≤ 4) (fun i => 4 - i) 0 ?_ ?_ ?_
  · omega
  · refine le_of [(1, some 1), (2, some 2), (3, none)] rfl (by decide) rfl ?_ ?_
    all_goals simp (maxSteps := 1000000) (disch := omega) only [go_sem]
    repeat' (refine And.intro ?_ ?_)
    all_goals first | rfl | omega | exact .inl rfl | trivial | skip
  · rintro i ⟨hi, hi4⟩
    have him : i < s.pics.length → PicOk (s.pics.getD i default) := hpic i
    repeat' (first | ((first | ((with_reducible refine cw_stepDK (id := 14) [] (by decide +kernel) (by decide +kernel) ?_ (fun K hK => ?_)); (focus (refine And.intro (fun iw hiw => by ((try simp (maxSteps := 1000000) (disch := omega) only [go_sem] at hiw ⊢); (repeat (first | rfl | exact if_neg (by omega) | rw [if_neg (by omega)])); done)) (by first | exact Nat.zero_le _ | (simp (maxSteps := 1000000) (disch := omega) only [go_sem]; done) | (simp (maxSteps := 1000000) (disch := omega) only [go_sem]; omega) | decide)))) | ((with_reducible refine cw_lastDK (id := 14) [] (by decide +kernel) (by decide +kernel) ?_ (fun K hK => ?_)); (focus (refine And.intro (fun iw hiw => by ((try simp (maxSteps := 1000000) (disch := omega) only [go_sem] at hiw ⊢); (repeat (first | rfl | exact if_neg (by omega) | rw [if_neg (by omega)])); done)) (by first | exact Nat.zero_le _ | (simp (maxSteps := 1000000) (disch := omega) only [go_sem]; done) | (simp (maxSteps := 1000000) (disch := omega) only [go_sem]; omega) | decide))))); (try simp (maxSteps := 1000000) (disch := omega) only [go_sem]); (repeat' (refine And.intro ?_ ?_)); (all_goals first | (refine hK _ (by simp (maxSteps := 1000000) (disch := omega) only [go_sem]) ?_; clear hK K) | exact auto_cl | skip)) | refine cw_assoc ?_ | refine cw_skips ?_ | refine cw_labels ?_ | ((first | refine cw_step (fun K hK => ?_) | refine cw_last (fun K hK => ?_) | refine cw_stepD (by decide +kernel) (by decide +kernel) (fun K hK => ?_) | refine cw_lastD (by decide +kernel) (by decide +kernel) (fun K hK => ?_) | refine rgB_some ?_); (try simp (maxSteps := 1000000) (disch := omega) only [go_sem]); (repeat' (refine And.intro ?_ ?_)); (all_goals first | (refine hK _ ?_; clear hK K) | exact auto_cl | skip)) | ((first | apply cw_ite | apply cw_iteN); (case hf => rfl); (case hc => simp (maxSteps := 1000000) (disch := omega) only [go_sem]; rfl); (all_goals first | (intro hb; (try simp only [decide_eq_true_eq, decide_eq_false_iff_not, beq_iff_eq, beq_eq_false_iff_ne, bne_iff_ne, bne_eq_false_iff_eq, ne_eq, Bool.not_eq_true, Bool.not_eq_false, Bool.not_true, Bool.not_false, Bool.not_eq_eq_eq_not, Int.not_lt, Int.not_le, gt_iff_lt, ge_iff_le, Bool.cond_eq_ite, Bool.if_false_right, Bool.if_true_left, Bool.and_eq_true, Bool.or_eq_true, Bool.and_eq_false_imp, Bool.or_eq_false_iff, Decidable.not_not, beq_true, beq_false, iteT, iteF, cond_true, cond_false] at hb)) | skip)) | exact atN_intro | ((first | apply cw_if | apply cw_cond); (case hc => simp (maxSteps := 1000000) (disch := omega) only [go_sem]; rfl); (all_goals (intro hb; (try simp only [decide_eq_true_eq, decide_eq_false_iff_not, beq_iff_eq, beq_eq_false_iff_ne, bne_iff_ne, bne_eq_false_iff_eq, ne_eq, Bool.not_eq_true, Bool.not_eq_false, Bool.not_true, Bool.not_false, Bool.not_eq_eq_eq_not, Int.not_lt, Int.not_le, gt_iff_lt, ge_iff_le, Bool.cond_eq_ite, Bool.if_false_right, Bool.if_true_left, Bool.and_eq_true, Bool.or_eq_true, Bool.and_eq_false_imp, Bool.or_eq_false_iff, Decidable.not_not, beq_true, beq_false, iteT, iteF, cond_true, cond_false] at hb); try (exfalso; omega)))) | (refine cw_blocks (fun KB hB => ?_)) | (refine cw_block ?_) | ((first | refine cw_exits ?_ | refine cw_exit ?_ | refine cw_skip ?_); simp (maxSteps := 1000000) (disch := omega) only [go_sem]) | (refine hB _ ?_; clear hB KB) | (refine exit_by (S := Sg) (by assumption) ?_) | ((first | refine cw_rets ?_ | refine cw_ret ?_); simp (maxSteps := 1000000) (disch := omega) only [go_sem]; (try clear hB KB); (try clear hK K)))
    · refine call_eq (image_spec (s.pics.getD (i : Int).toNat default) (gCanvas s) (gMax s.bits) (by rw [Int.toNat_natCast]; exact hpic i (by omega)) hsm (by unfold u16; omega)) (by simp (maxSteps := 1000000) (disch := omega) only [go_sem]) ?_
      try simp (maxSteps := 1000000) (disch := omega) only [go_sem]
      repeat' (refine And.intro ?_ ?_)
      all_goals first | (refine hK _ ?_; clear hK K) | exact auto_cl | skip
      refine hK _ trivial ?_
      clear hK
      repeat' (first | refine cw_assoc ?_ | refine cw_skips ?_ | refine cw_labels ?_ | ((first | refine cw_step (fun K hK => ?_) | refine cw_last (fun K hK => ?_) | refine cw_stepD (by decide +kernel) (by decide +kernel) (fun K hK => ?_) | refine cw_lastD (by decide +kernel) (by decide +kernel) (fun K hK => ?_) | refine rgB_some ?_); (try simp (maxSteps := 1000000) (disch := omega) only [go_sem]); (repeat' (refine And.intro ?_ ?_)); (all_goals first | (refine hK _ ?_; clear hK K) | exact auto_cl | skip)) | ((first | apply cw_ite | apply cw_iteN); (case hf => rfl); (case hc => simp (maxSteps := 1000000) (disch := omega) only [go_sem]; rfl); (all_goals first | (intro hb; (try simp only [decide_eq_true_eq, decide_eq_false_iff_not, beq_iff_eq, beq_eq_false_iff_ne, bne_iff_ne, bne_eq_false_iff_eq, ne_eq, Bool.not_eq_true, Bool.not_eq_false, Bool.not_true, Bool.not_false, Bool.not_eq_eq_eq_not, Int.not_lt, Int.not_le, gt_iff_lt, ge_iff_le, Bool.cond_eq_ite, Bool.if_false_right, Bool.if_true_left, Bool.and_eq_true, Bool.or_eq_true, Bool.and_eq_false_imp, Bool.or_eq_false_iff, Decidable.not_not, beq_true, beq_false, iteT, iteF, cond_true, cond_false] at hb)) | skip)) | exact atN_intro | ((first | apply cw_if | apply cw_cond); (case hc => simp (maxSteps := 1000000) (disch := omega) only [go_sem]; rfl); (all_goals (intro hb; (try simp only [decide_eq_true_eq, decide_eq_false_iff_not, beq_iff_eq, beq_eq_false_iff_ne, bne_iff_ne, bne_eq_false_iff_eq, ne_eq, Bool.not_eq_true, Bool.not_eq_false, Bool.not_true, Bool.not_false, Bool.not_eq_eq_eq_not, Int.not_lt, Int.not_le, gt_iff_lt, ge_iff_le, Bool.cond_eq_ite, Bool.if_false_right, Bool.if_true_left, Bool.and_eq_true, Bool.or_eq_true, Bool.and_eq_false_imp, Bool.or_eq_false_iff, Decidable.not_not, beq_true, beq_false, iteT, iteF, cond_true, cond_false] at hb); try (exfalso; omega)))) | (refine cw_blocks (fun KB hB => ?_)) | (refine cw_block ?_) | ((first | refine cw_exits ?_ | refine cw_exit ?_ | refine cw_skip ?_); simp (maxSteps := 1000000) (disch := omega) only [go_sem]) | (refine hB _ ?_; clear hB KB) | (refine exit_by (S := Sg) (by assumption) ?_) | ((first | refine cw_rets ?_ | refine cw_ret ?_); simp (maxSteps := 1000000) (disch := omega) only [go_sem]; (try clear hB KB); (try clear hK K)))
      rw [thenQ_normal]
      refine wk_loop (i + 1) ?_ (by omega) (by omega)
      have hl1 : ((gImages0 s).take i).length = i := by simp [gImages0]; omega
      have he : (gImages0 s).take (i + 1) = (gImages0 s).take i ++ [gImage (s.pics.getD i default) (gCanvas s) (gMax s.bits)] := by
        have h1 : i < (s.pics.take 4).length := by rw [List.length_take]; omega
        have h2 : i < s.pics.length := by omega
        simp only [gImages0, ← List.map_take]
        rw [List.take_add_one, List.map_append, List.getElem?_eq_getElem h1, List.getD_eq_getElem?_getD, List.getElem?_eq_getElem h2, List.getElem_take]
        rfl
      refine le_of [(1, some 1), (2, some 2), (3, some 5)] rfl (by decide) rfl ?_ ?_
      all_goals simp (maxSteps := 1000000) (disch := omega) only [go_sem]
      repeat' (refine And.intro ?_ ?_)
      all_goals first | rfl | omega | exact .inl rfl | trivial | skip
      have key := fun g hg => arr_push (enc := imageE) (xs := (gImages0 s).take i) (x := gImage (s.pics.getD i default) (gCanvas s) (gMax s.bits)) (s := 28) (g := g) hg
      simp only [hl1, ← he] at key
      refine .inr (key _ fun j hj => ?_)
      simp only [Int.toNat_natCast]
      have hivl : j = 0 ∨ j = 1 ∨ j = 2 ∨ j = 3 ∨ j = 4 ∨ j = 5 ∨ j = 6 ∨ j = 7 ∨ j = 8 ∨ j = 9 ∨ j = 10 ∨ j = 11 ∨ j = 12 ∨ j = 13 ∨ j = 14 ∨ j = 15 ∨ j = 16 ∨ j = 17 ∨ j = 18 ∨ j = 19 ∨ j = 20 ∨ j = 21 ∨ j = 22 ∨ j = 23 ∨ j = 24 ∨ j = 25 ∨ j = 26 ∨ j = 27 := by omega
      rcases hivl with rfl | rfl | rfl | rfl | rfl | rfl | rfl | rfl | rfl | rfl | rfl | rfl | rfl | rfl | rfl | rfl | rfl | rfl | rfl | rfl | rfl | rfl | rfl | rfl | rfl | rfl | rfl | rfl <;> rfl
    · have hn0 : i = (gImages0 s).length := by simp [gImages0]; omega
      refine hV _ (mkSt [(1, .b (.c (.ptr 0 0))), (2, .b (.c (.ptr 1 0))), (3, .b (U (gMax s.bits))), (4, .b (.c (.ptr 2 0))), (7, .b (I (1 + s.w % 5))), (8, .b (I (1 + s.h % 4)))]
        [(0, .fix ((sceneE s).map CV.p)), (1, .fix ((List.range 10).map fun _ => CV.p .any)), (2, .fix [.p (PI (gScript s).bits), .p (PI (gCanvas s).x0), .p (PI (gCanvas s).y0), .p (PI (gCanvas s).x1), .p (PI (gCanvas s).y1), .p (PI (gTileW s)), .p (PI (gTileH s)), .p (ints (gScript s).order), .own 3 (gImages0 s).length, .p Nil]), (3, .arr 45 28 (gImages0 s).length (fnOf imageE (gImages0 s)))] 4) ?_ ?_
      · rw [hn0, List.take_of_length_le (Nat.le_refl _)]
        refine le_of [(1, some 1), (2, some 2), (3, some 3)] rfl (by decide) rfl ?_ ?_
        all_goals simp (maxSteps := 1000000) (disch := omega) only [go_sem]
        repeat' (refine And.intro ?_ ?_)
        all_goals first | rfl | omega | exact .inl rfl | trivial | skip
      clear hV hn0 him
      refine cw_assoc ?_
      refine cw_step fun K hK => ?_
      simp (maxSteps := 1000000) (disch := omega) only [go_sem]
      repeat' (refine And.intro ?_ ?_)
      all_goals first | (refine hK _ ?_; clear hK K) | exact auto_cl | skip
      refine cw_ifM (t := (((gImages0 s).length : Int) == 0)) (mkSt [(1, .b (.c (.ptr 0 0))), (2, .b (.c (.ptr 1 0))), (3, .b (U (gMax s.bits))), (4, .b (.c (.ptr 2 0)))]
        [(0, .fix ((sceneE s).map CV.p)), (1, .fix ((List.range 10).map fun _ => CV.p .any)), (2, .fix [.p (PI (gScript s).bits), .p (PI (gCanvas s).x0), .p (PI (gCanvas s).y0), .p (PI (gCanvas s).x1), .p (PI (gCanvas s).y1), .p (PI (gTileW s)), .p (PI (gTileH s)), .p (ints (gScript s).order), .p (imgL (gImages s)), .p Nil])] 3) ?_ ?_ ?_ ?_
      · simp (maxSteps := 1000000) (disch := omega) only [go_sem]
      · intro hb
        have h0 : (gImages0 s).length = 0 := by simpa using hb
        have hi1 : gImages s = [solidOf (1 + s.w % 5) (1 + s.h % 4) ⟨gMax s.bits, 0, 0, gMax s.bits, gMax s.bits⟩] := by rw [gImages, if_pos h0]
        repeat' (first | ((first | ((with_reducible refine cw_stepDK (id := 16) [] (by decide +kernel) (by decide +kernel) ?_ (fun K hK => ?_)); (focus (refine And.intro (fun iw hiw => by ((try simp (maxSteps := 1000000) (disch := omega) only [go_sem] at hiw ⊢); (repeat (first | rfl | exact if_neg (by omega) | rw [if_neg (by omega)])); done)) (by first | exact Nat.zero_le _ | (simp (maxSteps := 1000000) (disch := omega) only [go_sem]; done) | (simp (maxSteps := 1000000) (disch := omega) only [go_sem]; omega) | decide)))) | ((with_reducible refine cw_lastDK (id := 16) [] (by decide +kernel) (by decide +kernel) ?_ (fun K hK => ?_)); (focus (refine And.intro (fun iw hiw => by ((try simp (maxSteps := 1000000) (disch := omega) only [go_sem] at hiw ⊢); (repeat (first | rfl | exact if_neg (by omega) | rw [if_neg (by omega)])); done)) (by first | exact Nat.zero_le _ | (simp (maxSteps := 1000000) (disch := omega) only [go_sem]; done) | (simp (maxSteps := 1000000) (disch := omega) only [go_sem]; omega) | decide))))); (try simp (maxSteps := 1000000) (disch := omega) only [go_sem]); (repeat' (refine And.intro ?_ ?_)); (all_goals first | (refine hK _ (by simp (maxSteps := 1000000) (disch := omega) only [go_sem]) ?_; clear hK K) | exact auto_cl | skip)) | refine cw_assoc ?_ | refine cw_skips ?_ | refine cw_labels ?_ | ((first | refine cw_step (fun K hK => ?_) | refine cw_last (fun K hK => ?_) | refine cw_stepD (by decide +kernel) (by decide +kernel) (fun K hK => ?_) | refine cw_lastD (by decide +kernel) (by decide +kernel) (fun K hK => ?_) | refine rgB_some ?_ | refine call_a (solid_spec (1 + s.w % 5) (1 + s.h % 4) ⟨gMax s.bits, 0, 0, gMax s.bits, gMax s.bits⟩) ?_ | refine gcall_a (fun hg => solid_spec (1 + s.w % 5) (1 + s.h % 4) ⟨gMax s.bits, 0, 0, gMax s.bits, gMax s.bits⟩) ?_); (try simp (maxSteps := 1000000) (disch := omega) only [go_sem]); (repeat' (refine And.intro ?_ ?_)); (all_goals first | (refine hK _ ?_; clear hK K) | exact auto_cl | skip)) | ((first | apply cw_ite | apply cw_iteN); (case hf => rfl); (case hc => simp (maxSteps := 1000000) (disch := omega) only [go_sem]; rfl); (all_goals first | (intro hb; (try simp only [decide_eq_true_eq, decide_eq_false_iff_not, beq_iff_eq, beq_eq_false_iff_ne, bne_iff_ne, bne_eq_false_iff_eq, ne_eq, Bool.not_eq_true, Bool.not_eq_false, Bool.not_true, Bool.not_false, Bool.not_eq_eq_eq_not, Int.not_lt, Int.not_le, gt_iff_lt, ge_iff_le, Bool.cond_eq_ite, Bool.if_false_right, Bool.if_true_left, Bool.and_eq_true, Bool.or_eq_true, Bool.and_eq_false_imp, Bool.or_eq_false_iff, Decidable.not_not, beq_true, beq_false, iteT, iteF, cond_true, cond_false] at hb)) | skip)) | exact atN_intro | ((first | apply cw_if | apply cw_cond); (case hc => simp (maxSteps := 1000000) (disch := omega) only [go_sem]; rfl); (all_goals (intro hb; (try simp only [decide_eq_true_eq, decide_eq_false_iff_not, beq_iff_eq, beq_eq_false_iff_ne, bne_iff_ne, bne_eq_false_iff_eq, ne_eq, Bool.not_eq_true, Bool.not_eq_false, Bool.not_true, Bool.not_false, Bool.not_eq_eq_eq_not, Int.not_lt, Int.not_le, gt_iff_lt, ge_iff_le, Bool.cond_eq_ite, Bool.if_false_right, Bool.if_true_left, Bool.and_eq_true, Bool.or_eq_true, Bool.and_eq_false_imp, Bool.or_eq_false_iff, Decidable.not_not, beq_true, beq_false, iteT, iteF, cond_true, cond_false] at hb); try (exfalso; omega)))) | (refine cw_blocks (fun KB hB => ?_)) | (refine cw_block ?_) | ((first | refine cw_exits ?_ | refine cw_exit ?_ | refine cw_skip ?_); simp (maxSteps := 1000000) (disch := omega) only [go_sem]) | (refine hB _ ?_; clear hB KB) | (refine exit_by (S := Sg) (by assumption) ?_) | ((first | refine cw_rets ?_ | refine cw_ret ?_); simp (maxSteps := 1000000) (disch := omega) only [go_sem]; (try clear hB KB); (try clear hK K)))
        refine hK _ trivial ?_
        clear hK
        rw [thenQ_normal, hi1]
        refine ⟨_, ?_, rfl⟩
        refine le_of [(1, some 1), (2, some 2)] rfl (by decide) rfl ?_ ?_
        all_goals simp (maxSteps := 1000000) (disch := omega) only [go_sem]
        repeat' (refine And.intro ?_ ?_)
        all_goals first | rfl | omega | exact .inl rfl | trivial | skip
        have h00 : gImages0 s = [] := List.eq_nil_of_length_eq_zero h0
        rw [h00]
        intro a ha j hj
        have : a = 0 := by simpa using ha
        subst this
        have hivl : j = 0 ∨ j = 1 ∨ j = 2 ∨ j = 3 ∨ j = 4 ∨ j = 5 ∨ j = 6 ∨ j = 7 ∨ j = 8 ∨ j = 9 ∨ j = 10 ∨ j = 11 ∨ j = 12 ∨ j = 13 ∨ j = 14 ∨ j = 15 ∨ j = 16 ∨ j = 17 ∨ j = 18 ∨ j = 19 ∨ j = 20 ∨ j = 21 ∨ j = 22 ∨ j = 23 ∨ j = 24 ∨ j = 25 ∨ j = 26 ∨ j = 27 := by omega
        rcases hivl with rfl | rfl | rfl | rfl | rfl | rfl | rfl | rfl | rfl | rfl | rfl | rfl | rfl | rfl | rfl | rfl | rfl | rfl | rfl | rfl | rfl | rfl | rfl | rfl | rfl | rfl | rfl | rfl <;> exact PV.le_refl _
      · intro hb
        have h0 : ¬ (gImages0 s).length = 0 := by simpa using hb
        have hi1 : gImages s = gImages0 s := by rw [gImages, if_neg h0]
        refine cw_skip ?_
        rw [thenQ_normal, hi1]
        refine ⟨_, ?_, rfl⟩
        refine le_of [(1, some 1), (2, some 2)] rfl (by decide) rfl ?_ ?_
        all_goals simp (maxSteps := 1000000) (disch := omega) only [go_sem]
        repeat' (refine And.intro ?_ ?_)
        all_goals first | rfl | omega | exact .inl rfl | trivial | skip
        exact fun _ _ _ _ => PV.le_refl _
      have h3m : u16 (gMax s.bits) := by unfold u16; omega
      have him1 : 1 ≤ (gImages s).length ∧ (gImages s).length ≤ 4 := by
        unfold gImages
        split
        · simp
        · have : (gImages0 s).length ≤ 4 := by simp [gImages0]; omega
          omega
      refine cw_step fun K hK => ?_
      simp (maxSteps := 1000000) (disch := omega) only [go_sem]
      repeat' (refine And.intro ?_ ?_)
      all_goals first | (refine hK _ ?_; clear hK K) | exact auto_cl | skip
      refine cw_assoc ?_
      refine cw_step fun K hK => ?_
      simp (maxSteps := 1000000) (disch := omega) only [go_sem]
      repeat' (refine And.intro ?_ ?_)
      all_goals first | (refine hK _ ?_; clear hK K) | exact auto_cl | skip
      refine cw_blocksV fun KB2 hV2 => ?_
      refine cw_loop (X := Nat × List Op × List Op × List Op) (fun x => mkSt [(1, .b (.c (.ptr 0 0))), (2, .b (.c (.ptr 1 0))), (3, .b (U (gMax s.bits))), (4, .b (.c (.ptr 2 0))), (13, .b (.c (.own 4 x.2.2.1.length))), (14, .b (I x.1))]
        [(0, .fix ((sceneE s).map CV.p)), (1, .fix ((List.range 10).map fun _ => CV.p .any)), (2, .fix [.p (PI (gScript s).bits), .p (PI (gCanvas s).x0), .p (PI (gCanvas s).y0), .p (PI (gCanvas s).x1), .p (PI (gCanvas s).y1), .p (PI (gTileW s)), .p (PI (gTileH s)), .p (ints (gScript s).order), .p (imgL (gImages s)), .own 3 x.2.1.length]),
         (3, .arr 62 12 x.2.1.length (fnOf opE x.2.1)), (4, .arr 62 12 (x.2.2.1.length + x.2.2.2.length) (fnOf opE (x.2.2.1 ++ x.2.2.2)))] 5)
        (fun x => x.1 ≤ s.ops.length ∧ x.1 ≤ 9 ∧ (s.ops.take x.1).foldl (gStep (gImages s).length (gCanvas s) (gMax s.bits)) ([], []) = (x.2.1, x.2.2.1) ∧ x.2.1.length ≤ x.1 ∧ x.2.2.1.length ≤ x.1) (fun x => 9 - x.1) (0, [], [], []) ?_ ?_ ?_
      · exact ⟨by omega, by omega, rfl, Nat.le_refl _, Nat.le_refl _⟩
      · refine le_of [(1, some 1), (2, some 2), (3, none), (4, none)] rfl (by decide) rfl ?_ ?_
        all_goals simp (maxSteps := 1000000) (disch := omega) only [go_sem]
        repeat' (refine And.intro ?_ ?_)
        all_goals first | rfl | omega | exact .inl rfl | trivial | skip
      · rintro ⟨i, ops, l, jk⟩ ⟨hi, hi9, hf, ho1, hl1⟩
        dsimp only at hi hi9 hf ho1 hl1 ⊢
        have hstep : ∀ (hlt : i < s.ops.length) (q : List Op × List Op), gStep (gImages s).length (gCanvas s) (gMax s.bits) (ops, l) (s.ops.getD i default) = q → (s.ops.take (i + 1)).foldl (gStep (gImages s).length (gCanvas s) (gMax s.bits)) ([], []) = q := by
          rintro hlt q rfl
          rw [List.take_add_one, List.getElem?_eq_getElem hlt, List.foldl_append, hf, List.getD_eq_getElem?_getD, List.getElem?_eq_getElem hlt]
          rfl
        by_cases hc : i < s.ops.length ∧ i < 9
        · by_cases hk0 : (s.ops.getD i default).kind % 8 = 0 ∧ 0 < l.length
          · have hkT : ((s.ops.getD i default).kind % 8 == 0 && decide ((l.length : Int) > 0)) = true := by
              simp only [Bool.and_eq_true, beq_iff_eq, decide_eq_true_eq]; omega
            repeat' (first | ((first | apply cw_ifT | apply cw_condT); (case hc => simp (maxSteps := 1000000) (disch := omega) only [go_sem]; rfl); (case ht => (simp only [Int.toNat_natCast, Int.reduceBEq, Int.reduceBNe, Int.reduceLT, Int.reduceLE, decide_true, decide_false, Bool.not_true, Bool.not_false, Bool.and_true, Bool.true_and, Bool.and_false, Bool.false_and, Bool.or_true, Bool.true_or, Bool.or_false, Bool.false_or, hkT]; done))) | ((first | apply cw_ifF | apply cw_condF); (case hc => simp (maxSteps := 1000000) (disch := omega) only [go_sem]; rfl); (case ht => (simp only [Int.toNat_natCast, Int.reduceBEq, Int.reduceBNe, Int.reduceLT, Int.reduceLE, decide_true, decide_false, Bool.not_true, Bool.not_false, Bool.and_true, Bool.true_and, Bool.and_false, Bool.false_and, Bool.or_true, Bool.true_or, Bool.or_false, Bool.false_or, hkT]; done))) | refine cw_assoc ?_ | refine cw_skips ?_ | refine cw_labels ?_ | ((first | refine cw_step (fun K hK => ?_) | refine cw_last (fun K hK => ?_) | refine cw_stepD (by decide +kernel) (by decide +kernel) (fun K hK => ?_) | refine cw_lastD (by decide +kernel) (by decide +kernel) (fun K hK => ?_) | refine rgB_some ?_ | refine call_a (modp_spec _ _ (by omega) (by omega)) ?_ | refine gcall_a (fun hg => modp_spec _ _ (by omega) (by omega)) ?_); (try simp (maxSteps := 1000000) (disch := omega) only [go_sem]); (repeat' (refine And.intro ?_ ?_)); (all_goals first | (refine hK _ ?_; clear hK K) | exact auto_cl | skip)) | ((first | apply cw_ite | apply cw_iteN); (case hf => rfl); (case hc => simp (maxSteps := 1000000) (disch := omega) only [go_sem]; rfl); (all_goals first | (intro hb; (try simp only [decide_eq_true_eq, decide_eq_false_iff_not, beq_iff_eq, beq_eq_false_iff_ne, bne_iff_ne, bne_eq_false_iff_eq, ne_eq, Bool.not_eq_true, Bool.not_eq_false, Bool.not_true, Bool.not_false, Bool.not_eq_eq_eq_not, Int.not_lt, Int.not_le, gt_iff_lt, ge_iff_le, Bool.cond_eq_ite, Bool.if_false_right, Bool.if_true_left, Bool.and_eq_true, Bool.or_eq_true, Bool.and_eq_false_imp, Bool.or_eq_false_iff, Decidable.not_not, beq_true, beq_false, iteT, iteF, cond_true, cond_false] at hb)) | skip)) | exact atN_intro | ((first | apply cw_if | apply cw_cond); (case hc => simp (maxSteps := 1000000) (disch := omega) only [go_sem]; rfl); (all_goals (intro hb; (try simp only [decide_eq_true_eq, decide_eq_false_iff_not, beq_iff_eq, beq_eq_false_iff_ne, bne_iff_ne, bne_eq_false_iff_eq, ne_eq, Bool.not_eq_true, Bool.not_eq_false, Bool.not_true, Bool.not_false, Bool.not_eq_eq_eq_not, Int.not_lt, Int.not_le, gt_iff_lt, ge_iff_le, Bool.cond_eq_ite, Bool.if_false_right, Bool.if_true_left, Bool.and_eq_true, Bool.or_eq_true, Bool.and_eq_false_imp, Bool.or_eq_false_iff, Decidable.not_not, beq_true, beq_false, iteT, iteF, cond_true, cond_false] at hb); try (exfalso; omega)))) | (refine cw_blocks (fun KB hB => ?_)) | (refine cw_block ?_) | ((first | refine cw_exits ?_ | refine cw_exit ?_ | refine cw_skip ?_); simp (maxSteps := 1000000) (disch := omega) only [go_sem]) | (refine hB _ ?_; clear hB KB) | (refine exit_by (S := Sg) (by assumption) ?_) | ((first | refine cw_rets ?_ | refine cw_ret ?_); simp (maxSteps := 1000000) (disch := omega) only [go_sem]; (try clear hB KB); (try clear hK K)))
            rw [thenQ_normal]
            have hp := hk0.2
            have hne : l ≠ [] := fun h => by rw [h] at hp; simp at hp
            have hj : l.dropLast ++ (l.getLast hne :: jk) = l ++ jk := by
              conv => rhs; rw [← List.dropLast_concat_getLast hne]
              simp
            refine wk_loop (i + 1, ops ++ [popOp], l.dropLast, l.getLast hne :: jk) ?_ ⟨by dsimp only; omega, by dsimp only; omega, hstep hc.1 _ (by rw [gStep, if_pos hk0]), by simp; omega, by rw [List.length_dropLast]; dsimp only; omega⟩ (by dsimp only; omega)
            dsimp only
            rw [hj]
            refine le_of [(1, some 1), (2, some 2), (3, some 6), (4, some 4)] rfl (by decide) rfl ?_ ?_
            all_goals simp (maxSteps := 1000000) (disch := omega) only [go_sem]
            repeat' (refine And.intro ?_ ?_)
            all_goals first | rfl | omega | exact .inl rfl | trivial | skip
            · rw [List.length_dropLast]; omega
            · simp
            · simp
            · refine .inr fun a ha j hj => arr_push (fun j hj => ?_) a ha j hj
              have hivl : j = 0 ∨ j = 1 ∨ j = 2 ∨ j = 3 ∨ j = 4 ∨ j = 5 ∨ j = 6 ∨ j = 7 ∨ j = 8 ∨ j = 9 ∨ j = 10 ∨ j = 11 := by omega
              rcases hivl with rfl | rfl | rfl | rfl | rfl | rfl | rfl | rfl | rfl | rfl | rfl | rfl <;> rfl
            · rw [List.length_dropLast]; omega
          · have hkF : ((s.ops.getD i default).kind % 8 == 0 && decide ((l.length : Int) > 0)) = false := by
              rw [Bool.eq_false_iff]
              intro h
              simp only [Bool.and_eq_true, beq_iff_eq, decide_eq_true_eq] at h
              exact hk0 ⟨h.1, by omega⟩
            have hraw1 : RawOk (s.ops.getD (i : Int).toNat default) := hraw i hc.1
            have hcb : -2000000000 ≤ (gCanvas s).x0 ∧ (gCanvas s).x0 ≤ 2000000000 ∧ -2000000000 ≤ (gCanvas s).y0 ∧ (gCanvas s).y0 ≤ 2000000000 := by
              unfold gCanvas
              dsimp only
              omega
            repeat' (first | ((first | apply cw_ifT | apply cw_condT); (case hc => simp (maxSteps := 1000000) (disch := omega) only [go_sem]; rfl); (case ht => (simp only [Int.toNat_natCast, Int.reduceBEq, Int.reduceBNe, Int.reduceLT, Int.reduceLE, decide_true, decide_false, Bool.not_true, Bool.not_false, Bool.and_true, Bool.true_and, Bool.and_false, Bool.false_and, Bool.or_true, Bool.true_or, Bool.or_false, Bool.false_or, hkF]; done))) | ((first | apply cw_ifF | apply cw_condF); (case hc => simp (maxSteps := 1000000) (disch := omega) only [go_sem]; rfl); (case ht => (simp only [Int.toNat_natCast, Int.reduceBEq, Int.reduceBNe, Int.reduceLT, Int.reduceLE, decide_true, decide_false, Bool.not_true, Bool.not_false, Bool.and_true, Bool.true_and, Bool.and_false, Bool.false_and, Bool.or_true, Bool.true_or, Bool.or_false, Bool.false_or, hkF]; done))) | refine cw_assoc ?_ | refine cw_skips ?_ | refine cw_labels ?_ | ((first | refine cw_step (fun K hK => ?_) | refine cw_last (fun K hK => ?_) | refine cw_stepD (by decide +kernel) (by decide +kernel) (fun K hK => ?_) | refine cw_lastD (by decide +kernel) (by decide +kernel) (fun K hK => ?_) | refine rgB_some ?_ | refine call_a (modp_spec _ _ (by omega) (by omega)) ?_ | refine gcall_a (fun hg => modp_spec _ _ (by omega) (by omega)) ?_); (try simp (maxSteps := 1000000) (disch := omega) only [go_sem]); (repeat' (refine And.intro ?_ ?_)); (all_goals first | (refine hK _ ?_; clear hK K) | exact auto_cl | skip)) | ((first | apply cw_ite | apply cw_iteN); (case hf => rfl); (case hc => simp (maxSteps := 1000000) (disch := omega) only [go_sem]; rfl); (all_goals first | (intro hb; (try simp only [decide_eq_true_eq, decide_eq_false_iff_not, beq_iff_eq, beq_eq_false_iff_ne, bne_iff_ne, bne_eq_false_iff_eq, ne_eq, Bool.not_eq_true, Bool.not_eq_false, Bool.not_true, Bool.not_false, Bool.not_eq_eq_eq_not, Int.not_lt, Int.not_le, gt_iff_lt, ge_iff_le, Bool.cond_eq_ite, Bool.if_false_right, Bool.if_true_left, Bool.and_eq_true, Bool.or_eq_true, Bool.and_eq_false_imp, Bool.or_eq_false_iff, Decidable.not_not, beq_true, beq_false, iteT, iteF, cond_true, cond_false] at hb)) | skip)) | exact atN_intro | ((first | apply cw_if | apply cw_cond); (case hc => simp (maxSteps := 1000000) (disch := omega) only [go_sem]; rfl); (all_goals (intro hb; (try simp only [decide_eq_true_eq, decide_eq_false_iff_not, beq_iff_eq, beq_eq_false_iff_ne, bne_iff_ne, bne_eq_false_iff_eq, ne_eq, Bool.not_eq_true, Bool.not_eq_false, Bool.not_true, Bool.not_false, Bool.not_eq_eq_eq_not, Int.not_lt, Int.not_le, gt_iff_lt, ge_iff_le, Bool.cond_eq_ite, Bool.if_false_right, Bool.if_true_left, Bool.and_eq_true, Bool.or_eq_true, Bool.and_eq_false_imp, Bool.or_eq_false_iff, Decidable.not_not, beq_true, beq_false, iteT, iteF, cond_true, cond_false] at hb); try (exfalso; omega)))) | (refine cw_blocks (fun KB hB => ?_)) | (refine cw_block ?_) | ((first | refine cw_exits ?_ | refine cw_exit ?_ | refine cw_skip ?_); simp (maxSteps := 1000000) (disch := omega) only [go_sem]) | (refine hB _ ?_; clear hB KB) | (refine exit_by (S := Sg) (by assumption) ?_) | ((first | refine cw_rets ?_ | refine cw_ret ?_); simp (maxSteps := 1000000) (disch := omega) only [go_sem]; (try clear hB KB); (try clear hK K)))
            any_goals (focus (simp only [beq_eq_false_iff_ne, ne_eq]; omega))
            any_goals (focus (rintro ⟨q1, q2⟩; refine ⟨⟨q1, q2⟩, ?_⟩; simp only [beq_eq_false_iff_ne, ne_eq] at q1; omega))
            repeat' (first | ((first | ((with_reducible refine cw_stepDK (id := 27) [] (by decide +kernel) (by decide +kernel) ?_ (fun K hK => ?_)); (focus (refine And.intro (fun iw hiw => by ((try simp (maxSteps := 1000000) (disch := omega) only [go_sem] at hiw ⊢); (repeat (first | rfl | exact if_neg (by omega) | rw [if_neg (by omega)])); done)) (by first | exact Nat.zero_le _ | (simp (maxSteps := 1000000) (disch := omega) only [go_sem]; done) | (simp (maxSteps := 1000000) (disch := omega) only [go_sem]; omega) | decide)))) | ((with_reducible refine cw_lastDK (id := 27) [] (by decide +kernel) (by decide +kernel) ?_ (fun K hK => ?_)); (focus (refine And.intro (fun iw hiw => by ((try simp (maxSteps := 1000000) (disch := omega) only [go_sem] at hiw ⊢); (repeat (first | rfl | exact if_neg (by omega) | rw [if_neg (by omega)])); done)) (by first | exact Nat.zero_le _ | (simp (maxSteps := 1000000) (disch := omega) only [go_sem]; done) | (simp (maxSteps := 1000000) (disch := omega) only [go_sem]; omega) | decide))))); (try simp (maxSteps := 1000000) (disch := omega) only [go_sem]); (repeat' (refine And.intro ?_ ?_)); (all_goals first | (refine hK _ (by simp (maxSteps := 1000000) (disch := omega) only [go_sem]) ?_; clear hK K) | exact auto_cl | skip)) | refine cw_assoc ?_ | refine cw_skips ?_ | refine cw_labels ?_ | ((first | refine cw_step (fun K hK => ?_) | refine cw_last (fun K hK => ?_) | refine cw_stepD (by decide +kernel) (by decide +kernel) (fun K hK => ?_) | refine cw_lastD (by decide +kernel) (by decide +kernel) (fun K hK => ?_) | refine rgB_some ?_ | refine call_a (op_spec _ _ _ (gCanvas s) _ (gMax s.bits) hraw1 (by omega) (by omega) hcb.1 hcb.2.1 hcb.2.2.1 hcb.2.2.2 h3m) ?_ | refine gcall_a (fun hg => op_spec _ _ _ (gCanvas s) _ (gMax s.bits) hraw1 (by omega) (by omega) hcb.1 hcb.2.1 hcb.2.2.1 hcb.2.2.2 h3m) ?_); (try simp (maxSteps := 1000000) (disch := omega) only [go_sem]); (repeat' (refine And.intro ?_ ?_)); (all_goals first | (refine hK _ ?_; clear hK K) | exact auto_cl | skip)) | ((first | apply cw_ite | apply cw_iteN); (case hf => rfl); (case hc => simp (maxSteps := 1000000) (disch := omega) only [go_sem]; rfl); (all_goals first | (intro hb; (try simp only [decide_eq_true_eq, decide_eq_false_iff_not, beq_iff_eq, beq_eq_false_iff_ne, bne_iff_ne, bne_eq_false_iff_eq, ne_eq, Bool.not_eq_true, Bool.not_eq_false, Bool.not_true, Bool.not_false, Bool.not_eq_eq_eq_not, Int.not_lt, Int.not_le, gt_iff_lt, ge_iff_le, Bool.cond_eq_ite, Bool.if_false_right, Bool.if_true_left, Bool.and_eq_true, Bool.or_eq_true, Bool.and_eq_false_imp, Bool.or_eq_false_iff, Decidable.not_not, beq_true, beq_false, iteT, iteF, cond_true, cond_false] at hb)) | skip)) | exact atN_intro | ((first | apply cw_if | apply cw_cond); (case hc => simp (maxSteps := 1000000) (disch := omega) only [go_sem]; rfl); (all_goals (intro hb; (try simp only [decide_eq_true_eq, decide_eq_false_iff_not, beq_iff_eq, beq_eq_false_iff_ne, bne_iff_ne, bne_eq_false_iff_eq, ne_eq, Bool.not_eq_true, Bool.not_eq_false, Bool.not_true, Bool.not_false, Bool.not_eq_eq_eq_not, Int.not_lt, Int.not_le, gt_iff_lt, ge_iff_le, Bool.cond_eq_ite, Bool.if_false_right, Bool.if_true_left, Bool.and_eq_true, Bool.or_eq_true, Bool.and_eq_false_imp, Bool.or_eq_false_iff, Decidable.not_not, beq_true, beq_false, iteT, iteF, cond_true, cond_false] at hb); try (exfalso; omega)))) | (refine cw_blocks (fun KB hB => ?_)) | (refine cw_block ?_) | ((first | refine cw_exits ?_ | refine cw_exit ?_ | refine cw_skip ?_); simp (maxSteps := 1000000) (disch := omega) only [go_sem]) | (refine hB _ ?_; clear hB KB) | (refine exit_by (S := Sg) (by assumption) ?_) | ((first | refine cw_rets ?_ | refine cw_ret ?_); simp (maxSteps := 1000000) (disch := omega) only [go_sem]; (try clear hB KB); (try clear hK K)))
            refine hK _ trivial ?_
            clear hK
            have hfr : ((l.length : Int) == 0 || ((l ++ jk).getD ((l.length : Int) - 1).toNat default).isolated && !((l ++ jk).getD ((l.length : Int) - 1).toNat default).knockout) = ctxOk l := by
              cases hl0 : l with
              | nil => rfl
              | cons a r =>
                rw [← hl0]
                have hpos : 0 < l.length := by rw [hl0]; simp
                have e1 : ((l.length : Int) - 1).toNat = l.length - 1 := by omega
                have e2 : (l ++ jk).getD (l.length - 1) default = l.getD (l.length - 1) default := by
                  rw [List.getD_eq_getElem?_getD, List.getD_eq_getElem?_getD, List.getElem?_append_left (by omega)]
                have e3 : ((l.length : Int) == 0) = false := beq_eq_false_iff_ne.2 (by omega)
                have e4 : l.isEmpty = false := by rw [hl0]; rfl
                rw [e1, e2, e3, ctxOk, e4]
            generalize hO : gOp (s.ops.getD i default) (decide ((s.ops.getD i default).kind % 8 < 3)) (gImages s).length (gCanvas s).x0 (gCanvas s).y0 (ctxOk l) (gMax s.bits) = O at *
            by_cases hp : (s.ops.getD i default).kind % 8 < 3
            · have gk : ∀ f x y, ((gOp (s.ops.getD i default) (decide ((s.ops.getD i default).kind % 8 < 3)) (gImages s).length x y f (gMax s.bits)).kind == 2) = true := fun f x y => by rw [decide_eq_true hp]; rfl
              repeat' (first | ((first | apply cw_ifT | apply cw_condT); (case hc => simp (maxSteps := 1000000) (disch := omega) only [go_sem]; rfl); (case ht => (simp only [Int.toNat_natCast, Int.reduceBEq, Int.reduceBNe, Int.reduceLT, Int.reduceLE, decide_true, decide_false, Bool.not_true, Bool.not_false, Bool.and_true, Bool.true_and, Bool.and_false, Bool.false_and, Bool.or_true, Bool.true_or, Bool.or_false, Bool.false_or, gk]; done))) | ((first | apply cw_ifF | apply cw_condF); (case hc => simp (maxSteps := 1000000) (disch := omega) only [go_sem]; rfl); (case ht => (simp only [Int.toNat_natCast, Int.reduceBEq, Int.reduceBNe, Int.reduceLT, Int.reduceLE, decide_true, decide_false, Bool.not_true, Bool.not_false, Bool.and_true, Bool.true_and, Bool.and_false, Bool.false_and, Bool.or_true, Bool.true_or, Bool.or_false, Bool.false_or, gk]; done))) | refine cw_assoc ?_ | refine cw_skips ?_ | refine cw_labels ?_ | ((first | refine cw_step (fun K hK => ?_) | refine cw_last (fun K hK => ?_) | refine cw_stepD (by decide +kernel) (by decide +kernel) (fun K hK => ?_) | refine cw_lastD (by decide +kernel) (by decide +kernel) (fun K hK => ?_) | refine rgB_some ?_); (try simp (maxSteps := 1000000) (disch := omega) only [go_sem]); (repeat' (refine And.intro ?_ ?_)); (all_goals first | (refine hK _ ?_; clear hK K) | exact auto_cl | skip)) | ((first | apply cw_ite | apply cw_iteN); (case hf => rfl); (case hc => simp (maxSteps := 1000000) (disch := omega) only [go_sem]; rfl); (all_goals first | (intro hb; (try simp only [decide_eq_true_eq, decide_eq_false_iff_not, beq_iff_eq, beq_eq_false_iff_ne, bne_iff_ne, bne_eq_false_iff_eq, ne_eq, Bool.not_eq_true, Bool.not_eq_false, Bool.not_true, Bool.not_false, Bool.not_eq_eq_eq_not, Int.not_lt, Int.not_le, gt_iff_lt, ge_iff_le, Bool.cond_eq_ite, Bool.if_false_right, Bool.if_true_left, Bool.and_eq_true, Bool.or_eq_true, Bool.and_eq_false_imp, Bool.or_eq_false_iff, Decidable.not_not, beq_true, beq_false, iteT, iteF, cond_true, cond_false] at hb)) | skip)) | exact atN_intro | ((first | apply cw_if | apply cw_cond); (case hc => simp (maxSteps := 1000000) (disch := omega) only [go_sem]; rfl); (all_goals (intro hb; (try simp only [decide_eq_true_eq, decide_eq_false_iff_not, beq_iff_eq, beq_eq_false_iff_ne, bne_iff_ne, bne_eq_false_iff_eq, ne_eq, Bool.not_eq_true, Bool.not_eq_false, Bool.not_true, Bool.not_false, Bool.not_eq_eq_eq_not, Int.not_lt, Int.not_le, gt_iff_lt, ge_iff_le, Bool.cond_eq_ite, Bool.if_false_right, Bool.if_true_left, Bool.and_eq_true, Bool.or_eq_true, Bool.and_eq_false_imp, Bool.or_eq_false_iff, Decidable.not_not, beq_true, beq_false, iteT, iteF, cond_true, cond_false] at hb); try (exfalso; omega)))) | (refine cw_blocks (fun KB hB => ?_)) | (refine cw_block ?_) | ((first | refine cw_exits ?_ | refine cw_exit ?_ | refine cw_skip ?_); simp (maxSteps := 1000000) (disch := omega) only [go_sem]) | (refine hB _ ?_; clear hB KB) | (refine exit_by (S := Sg) (by assumption) ?_) | ((first | refine cw_rets ?_ | refine cw_ret ?_); simp (maxSteps := 1000000) (disch := omega) only [go_sem]; (try clear hB KB); (try clear hK K)))
              rw [thenQ_normal]
              simp only [hfr, Int.toNat_natCast, hO]
              refine wk_loop (i + 1, ops ++ [O], l ++ [O], []) ?_ ⟨by dsimp only; omega, by dsimp only; omega, hstep hc.1 _ (by rw [gStep, if_neg hk0, if_pos hp]; dsimp only; rw [hO]), by simp; omega, by simp; omega⟩ (by dsimp only; omega)
              simp only [List.append_nil, List.length_nil, Nat.add_zero]
              refine le_of [(1, some 1), (2, some 2), (3, some 7), (4, some 9)] rfl (by decide) rfl ?_ ?_
              all_goals simp (maxSteps := 1000000) (disch := omega) only [go_sem]
              repeat' (refine And.intro ?_ ?_)
              all_goals first | rfl | omega | exact .inl rfl | trivial | skip
              · simp
              · simp
              · simp
              · refine .inr fun a ha j hj => arr_push (fun j hj => ?_) a ha j hj
                have hivl : j = 0 ∨ j = 1 ∨ j = 2 ∨ j = 3 ∨ j = 4 ∨ j = 5 ∨ j = 6 ∨ j = 7 ∨ j = 8 ∨ j = 9 ∨ j = 10 ∨ j = 11 := by omega
                rcases hivl with rfl | rfl | rfl | rfl | rfl | rfl | rfl | rfl | rfl | rfl | rfl | rfl <;> rfl
              · simp
              · refine .inr fun a ha j hj => arr_push_junk (fun j hj => ?_) a ha j hj
                have hivl : j = 0 ∨ j = 1 ∨ j = 2 ∨ j = 3 ∨ j = 4 ∨ j = 5 ∨ j = 6 ∨ j = 7 ∨ j = 8 ∨ j = 9 ∨ j = 10 ∨ j = 11 := by omega
                rcases hivl with rfl | rfl | rfl | rfl | rfl | rfl | rfl | rfl | rfl | rfl | rfl | rfl <;> rfl
            · have gk : ∀ f x y, ((gOp (s.ops.getD i default) (decide ((s.ops.getD i default).kind % 8 < 3)) (gImages s).length x y f (gMax s.bits)).kind == 2) = false := fun f x y => by rw [decide_eq_false hp]; rfl
              repeat' (first | ((first | apply cw_ifT | apply cw_condT); (case hc => simp (maxSteps := 1000000) (disch := omega) only [go_sem]; rfl); (case ht => (simp only [Int.toNat_natCast, Int.reduceBEq, Int.reduceBNe, Int.reduceLT, Int.reduceLE, decide_true, decide_false, Bool.not_true, Bool.not_false, Bool.and_true, Bool.true_and, Bool.and_false, Bool.false_and, Bool.or_true, Bool.true_or, Bool.or_false, Bool.false_or, gk]; done))) | ((first | apply cw_ifF | apply cw_condF); (case hc => simp (maxSteps := 1000000) (disch := omega) only [go_sem]; rfl); (case ht => (simp only [Int.toNat_natCast, Int.reduceBEq, Int.reduceBNe, Int.reduceLT, Int.reduceLE, decide_true, decide_false, Bool.not_true, Bool.not_false, Bool.and_true, Bool.true_and, Bool.and_false, Bool.false_and, Bool.or_true, Bool.true_or, Bool.or_false, Bool.false_or, gk]; done))) | refine cw_assoc ?_ | refine cw_skips ?_ | refine cw_labels ?_ | ((first | refine cw_step (fun K hK => ?_) | refine cw_last (fun K hK => ?_) | refine cw_stepD (by decide +kernel) (by decide +kernel) (fun K hK => ?_) | refine cw_lastD (by decide +kernel) (by decide +kernel) (fun K hK => ?_) | refine rgB_some ?_); (try simp (maxSteps := 1000000) (disch := omega) only [go_sem]); (repeat' (refine And.intro ?_ ?_)); (all_goals first | (refine hK _ ?_; clear hK K) | exact auto_cl | skip)) | ((first | apply cw_ite | apply cw_iteN); (case hf => rfl); (case hc => simp (maxSteps := 1000000) (disch := omega) only [go_sem]; rfl); (all_goals first | (intro hb; (try simp only [decide_eq_true_eq, decide_eq_false_iff_not, beq_iff_eq, beq_eq_false_iff_ne, bne_iff_ne, bne_eq_false_iff_eq, ne_eq, Bool.not_eq_true, Bool.not_eq_false, Bool.not_true, Bool.not_false, Bool.not_eq_eq_eq_not, Int.not_lt, Int.not_le, gt_iff_lt, ge_iff_le, Bool.cond_eq_ite, Bool.if_false_right, Bool.if_true_left, Bool.and_eq_true, Bool.or_eq_true, Bool.and_eq_false_imp, Bool.or_eq_false_iff, Decidable.not_not, beq_true, beq_false, iteT, iteF, cond_true, cond_false] at hb)) | skip)) | exact atN_intro | ((first | apply cw_if | apply cw_cond); (case hc => simp (maxSteps := 1000000) (disch := omega) only [go_sem]; rfl); (all_goals (intro hb; (try simp only [decide_eq_true_eq, decide_eq_false_iff_not, beq_iff_eq, beq_eq_false_iff_ne, bne_iff_ne, bne_eq_false_iff_eq, ne_eq, Bool.not_eq_true, Bool.not_eq_false, Bool.not_true, Bool.not_false, Bool.not_eq_eq_eq_not, Int.not_lt, Int.not_le, gt_iff_lt, ge_iff_le, Bool.cond_eq_ite, Bool.if_false_right, Bool.if_true_left, Bool.and_eq_true, Bool.or_eq_true, Bool.and_eq_false_imp, Bool.or_eq_false_iff, Decidable.not_not, beq_true, beq_false, iteT, iteF, cond_true, cond_false] at hb); try (exfalso; omega)))) | (refine cw_blocks (fun KB hB => ?_)) | (refine cw_block ?_) | ((first | refine cw_exits ?_ | refine cw_exit ?_ | refine cw_skip ?_); simp (maxSteps := 1000000) (disch := omega) only [go_sem]) | (refine hB _ ?_; clear hB KB) | (refine exit_by (S := Sg) (by assumption) ?_) | ((first | refine cw_rets ?_ | refine cw_ret ?_); simp (maxSteps := 1000000) (disch := omega) only [go_sem]; (try clear hB KB); (try clear hK K)))
              rw [thenQ_normal]
              simp only [hfr, Int.toNat_natCast, hO]
              refine wk_loop (i + 1, ops ++ [O], l, jk) ?_ ⟨by dsimp only; omega, by dsimp only; omega, hstep hc.1 _ (by rw [gStep, if_neg hk0, if_neg hp]; dsimp only; rw [hO]), by simp; omega, by dsimp only; omega⟩ (by dsimp only; omega)
              dsimp only
              refine le_of [(1, some 1), (2, some 2), (3, some 7), (4, some 4)] rfl (by decide) rfl ?_ ?_
              all_goals simp (maxSteps := 1000000) (disch := omega) only [go_sem]
              repeat' (refine And.intro ?_ ?_)
              all_goals first | rfl | omega | exact .inl rfl | trivial | skip
              · simp
              · simp
              · refine .inr fun a ha j hj => arr_push (fun j hj => ?_) a ha j hj
                have hivl : j = 0 ∨ j = 1 ∨ j = 2 ∨ j = 3 ∨ j = 4 ∨ j = 5 ∨ j = 6 ∨ j = 7 ∨ j = 8 ∨ j = 9 ∨ j = 10 ∨ j = 11 := by omega
                rcases hivl with rfl | rfl | rfl | rfl | rfl | rfl | rfl | rfl | rfl | rfl | rfl | rfl <;> rfl
        · repeat' (first | refine cw_assoc ?_ | refine cw_skips ?_ | refine cw_labels ?_ | ((first | refine cw_step (fun K hK => ?_) | refine cw_last (fun K hK => ?_) | refine cw_stepD (by decide +kernel) (by decide +kernel) (fun K hK => ?_) | refine cw_lastD (by decide +kernel) (by decide +kernel) (fun K hK => ?_) | refine rgB_some ?_); (try simp (maxSteps := 1000000) (disch := omega) only [go_sem]); (repeat' (refine And.intro ?_ ?_)); (all_goals first | (refine hK _ ?_; clear hK K) | exact auto_cl | skip)) | ((first | apply cw_ite | apply cw_iteN); (case hf => rfl); (case hc => simp (maxSteps := 1000000) (disch := omega) only [go_sem]; rfl); (all_goals first | (intro hb; (try simp only [decide_eq_true_eq, decide_eq_false_iff_not, beq_iff_eq, beq_eq_false_iff_ne, bne_iff_ne, bne_eq_false_iff_eq, ne_eq, Bool.not_eq_true, Bool.not_eq_false, Bool.not_true, Bool.not_false, Bool.not_eq_eq_eq_not, Int.not_lt, Int.not_le, gt_iff_lt, ge_iff_le, Bool.cond_eq_ite, Bool.if_false_right, Bool.if_true_left, Bool.and_eq_true, Bool.or_eq_true, Bool.and_eq_false_imp, Bool.or_eq_false_iff, Decidable.not_not, beq_true, beq_false, iteT, iteF, cond_true, cond_false] at hb)) | skip)) | exact atN_intro | ((first | apply cw_if | apply cw_cond); (case hc => simp (maxSteps := 1000000) (disch := omega) only [go_sem]; rfl); (all_goals (intro hb; (try simp only [decide_eq_true_eq, decide_eq_false_iff_not, beq_iff_eq, beq_eq_false_iff_ne, bne_iff_ne, bne_eq_false_iff_eq, ne_eq, Bool.not_eq_true, Bool.not_eq_false, Bool.not_true, Bool.not_false, Bool.not_eq_eq_eq_not, Int.not_lt, Int.not_le, gt_iff_lt, ge_iff_le, Bool.cond_eq_ite, Bool.if_false_right, Bool.if_true_left, Bool.and_eq_true, Bool.or_eq_true, Bool.and_eq_false_imp, Bool.or_eq_false_iff, Decidable.not_not, beq_true, beq_false, iteT, iteF, cond_true, cond_false] at hb); try (exfalso; omega)))) | (refine cw_blocks (fun KB hB => ?_)) | (refine cw_block ?_) | ((first | refine cw_exits ?_ | refine cw_exit ?_ | refine cw_skip ?_); simp (maxSteps := 1000000) (disch := omega) only [go_sem]) | (refine hB _ ?_; clear hB KB) | (refine exit_by (S := Sg) (by assumption) ?_) | ((first | refine cw_rets ?_ | refine cw_ret ?_); simp (maxSteps := 1000000) (disch := omega) only [go_sem]; (try clear hB KB); (try clear hK K)))
          have hc2 : i = s.ops.length ∨ i = 9 := by omega
          have hfin : gOps s = (ops, l) := by
            rw [gOps, ← hf]
            rcases hc2 with h | h
            · rw [h, List.take_of_length_le (Nat.le_refl _), List.take_of_length_le (by omega)]
            · rw [h]
          refine hV2 _ (mkSt [(1, .b (.c (.ptr 0 0))), (2, .b (.c (.ptr 1 0))), (4, .b (.c (.ptr 2 0))), (13, .b (.c (.own 4 l.length)))]
            [(0, .fix ((sceneE s).map CV.p)), (1, .fix ((List.range 10).map fun _ => CV.p .any)), (2, .fix [.p (PI (gScript s).bits), .p (PI (gCanvas s).x0), .p (PI (gCanvas s).y0), .p (PI (gCanvas s).x1), .p (PI (gCanvas s).y1), .p (PI (gTileW s)), .p (PI (gTileH s)), .p (ints (gScript s).order), .p (imgL (gImages s)), .own 3 ops.length]),
             (3, .arr 62 12 ops.length (fnOf opE ops)), (4, .arr 62 12 (l.length + jk.length) (fnOf opE (l ++ jk)))] 5) ?_ ?_
          · refine le_of [(1, some 1), (2, some 2), (3, some 3), (4, some 4)] rfl (by decide) rfl ?_ ?_
            all_goals simp (maxSteps := 1000000) (disch := omega) only [go_sem]
            repeat' (refine And.intro ?_ ?_)
            all_goals first | rfl | omega | exact .inl rfl | trivial | skip
          clear hV2 hraw hstep hf
          refine cw_assoc ?_
          refine cw_step fun K hK => ?_
          simp (maxSteps := 1000000) (disch := omega) only [go_sem]
          repeat' (refine And.intro ?_ ?_)
          all_goals first | (refine hK _ ?_; clear hK K) | exact auto_cl | skip
          refine cw_blocks fun KB3 hB3 => ?_
          refine cw_loop (X := Nat) (fun k => mkSt [(1, .b (.c (.ptr 0 0))), (2, .b (.c (.ptr 1 0))), (4, .b (.c (.ptr 2 0))), (13, .b (.c (.own 4 l.length))), (19, .b (I k))]
            [(0, .fix ((sceneE s).map CV.p)), (1, .fix ((List.range 10).map fun _ => CV.p .any)), (2, .fix [.p (PI (gScript s).bits), .p (PI (gCanvas s).x0), .p (PI (gCanvas s).y0), .p (PI (gCanvas s).x1), .p (PI (gCanvas s).y1), .p (PI (gTileW s)), .p (PI (gTileH s)), .p (ints (gScript s).order), .p (imgL (gImages s)), .own 3 (ops.length + k)]),
             (3, .arr 62 12 (ops.length + k) (fnOf opE (ops ++ List.replicate k popOp))), (4, .arr 62 12 (l.length + jk.length) (fnOf opE (l ++ jk)))] 5) (fun k => k ≤ l.length) (fun k => l.length - k) 0 ?_ ?_ ?_
          · omega
          · refine le_of [(1, some 1), (2, some 2), (3, some 3), (4, some 4)] rfl (by decide) rfl ?_ ?_
            all_goals simp (maxSteps := 1000000) (disch := omega) only [go_sem]
            repeat' (refine And.intro ?_ ?_)
            all_goals first | rfl | omega | exact .inl rfl | trivial | skip
            exact .inl (by rw [List.replicate_zero, List.append_nil])
          · intro k hk
            repeat' (first | refine cw_assoc ?_ | refine cw_skips ?_ | refine cw_labels ?_ | ((first | refine cw_step (fun K hK => ?_) | refine cw_last (fun K hK => ?_) | refine cw_stepD (by decide +kernel) (by decide +kernel) (fun K hK => ?_) | refine cw_lastD (by decide +kernel) (by decide +kernel) (fun K hK => ?_) | refine rgB_some ?_); (try simp (maxSteps := 1000000) (disch := omega) only [go_sem]); (repeat' (refine And.intro ?_ ?_)); (all_goals first | (refine hK _ ?_; clear hK K) | exact auto_cl | skip)) | ((first | apply cw_ite | apply cw_iteN); (case hf => rfl); (case hc => simp (maxSteps := 1000000) (disch := omega) only [go_sem]; rfl); (all_goals first | (intro hb; (try simp only [decide_eq_true_eq, decide_eq_false_iff_not, beq_iff_eq, beq_eq_false_iff_ne, bne_iff_ne, bne_eq_false_iff_eq, ne_eq, Bool.not_eq_true, Bool.not_eq_false, Bool.not_true, Bool.not_false, Bool.not_eq_eq_eq_not, Int.not_lt, Int.not_le, gt_iff_lt, ge_iff_le, Bool.cond_eq_ite, Bool.if_false_right, Bool.if_true_left, Bool.and_eq_true, Bool.or_eq_true, Bool.and_eq_false_imp, Bool.or_eq_false_iff, Decidable.not_not, beq_true, beq_false, iteT, iteF, cond_true, cond_false] at hb)) | skip)) | exact atN_intro | ((first | apply cw_if | apply cw_cond); (case hc => simp (maxSteps := 1000000) (disch := omega) only [go_sem]; rfl); (all_goals (intro hb; (try simp only [decide_eq_true_eq, decide_eq_false_iff_not, beq_iff_eq, beq_eq_false_iff_ne, bne_iff_ne, bne_eq_false_iff_eq, ne_eq, Bool.not_eq_true, Bool.not_eq_false, Bool.not_true, Bool.not_false, Bool.not_eq_eq_eq_not, Int.not_lt, Int.not_le, gt_iff_lt, ge_iff_le, Bool.cond_eq_ite, Bool.if_false_right, Bool.if_true_left, Bool.and_eq_true, Bool.or_eq_true, Bool.and_eq_false_imp, Bool.or_eq_false_iff, Decidable.not_not, beq_true, beq_false, iteT, iteF, cond_true, cond_false] at hb); try (exfalso; omega)))) | (refine cw_blocks (fun KB hB => ?_)) | (refine cw_block ?_) | ((first | refine cw_exits ?_ | refine cw_exit ?_ | refine cw_skip ?_); simp (maxSteps := 1000000) (disch := omega) only [go_sem]) | (refine hB _ ?_; clear hB KB) | (refine exit_by (S := Sg) (by assumption) ?_) | ((first | refine cw_rets ?_ | refine cw_ret ?_); simp (maxSteps := 1000000) (disch := omega) only [go_sem]; (try clear hB KB); (try clear hK K)))
            · rw [thenQ_normal]
              refine wk_loop (k + 1) ?_ (by omega) (by omega)
              have hl1 : (ops ++ List.replicate k popOp).length = ops.length + k := by simp
              have he : (ops ++ List.replicate k popOp) ++ [popOp] = ops ++ List.replicate (k + 1) popOp := by rw [List.append_assoc, List.replicate_succ']
              refine le_of [(1, some 1), (2, some 2), (3, some 6), (4, some 4)] rfl (by decide) rfl ?_ ?_
              all_goals simp (maxSteps := 1000000) (disch := omega) only [go_sem]
              repeat' (refine And.intro ?_ ?_)
              all_goals first | rfl | omega | exact .inl rfl | trivial | skip
              have key := fun g hg => arr_push (enc := opE) (xs := ops ++ List.replicate k popOp) (x := popOp) (s := 12) (g := g) hg
              simp only [hl1, he] at key
              refine .inr (key _ fun j hj => ?_)
              have hivl : j = 0 ∨ j = 1 ∨ j = 2 ∨ j = 3 ∨ j = 4 ∨ j = 5 ∨ j = 6 ∨ j = 7 ∨ j = 8 ∨ j = 9 ∨ j = 10 ∨ j = 11 := by omega
              rcases hivl with rfl | rfl | rfl | rfl | rfl | rfl | rfl | rfl | rfl | rfl | rfl | rfl <;> rfl
            · have hk2 : k = l.length := by omega
              have e2 : ops ++ List.replicate k popOp = (gScript s).ops := by
                rw [hk2]
                show _ = (gOps s).1 ++ List.replicate (gOps s).2.length popOp
                rw [hfin]
              have e1 : ops.length + k = (gScript s).ops.length := by rw [← e2]; simp
              rw [e1, e2]
              refine sle_b (ble_agg ?_)
              simp only [List.map_cons, List.map_nil, cleL_cons, cleL_nil]
              repeat' (refine And.intro ?_ ?_)
              all_goals first | exact .inl rfl | exact .inl trivial | exact .inr nil_le | trivial | skip
end Go.Proofs.YtkjdljcbpbeehaaDoor

/- The edited script. -/
set_option linter.unusedSimpArgs false
set_option linter.unusedVariables false
set_option maxRecDepth 8000
set_option maxHeartbeats 4000000
namespace Go.Proofs.YtkjdljcbpbeehaaDoor
open Go Go.SL
open Go.RowKit (wrap64)
attribute [local go_sem] Int.toNat_natCast

/-- Where the operations that are left out end. -/
def skipM (ops : List Op) : Nat → Nat → Int → Nat
  | 0, k, _ => k
  | f + 1, k, c => if k < ops.length ∧ 0 < c % 3 ∧ (opAt ops k).kind = 1 then skipM ops f (k + 1) (c.tdiv 3) else k
theorem skip_step {ops : List Op} {k : Nat} {c : Int} (hk : k < ops.length) : skipM ops (ops.length - k) k c = if k < ops.length ∧ 0 < c % 3 ∧ (opAt ops k).kind = 1 then skipM ops (ops.length - (k + 1)) (k + 1) (c.tdiv 3) else k := by
  rw [show ops.length - k = (ops.length - (k + 1)) + 1 by omega]; rfl
def mostM (b : Int) : Int := if b = 16 then 65535 else 255
def cutAt (s : Script) (n : Int) : Nat := (n % (s.ops.length + 1)).toNat
def newOps (s : Script) (l : List Raw) : List Op := (l.take 3).map fun r => gOp r false s.images.length s.canvas.x0 s.canvas.y0 false (mostM s.bits)
def restAt (s : Script) (cut n : Int) : Nat := skipM s.ops (s.ops.length - cutAt s n) (cutAt s n) cut
def editedM (s : Script) (l : List Raw) (cut n : Int) : Script :=
  { s with ops := s.ops.take (cutAt s n) ++ newOps s l ++ s.ops.drop (restAt s cut n) }
def zS : List CV := [CV.p (PI 0), CV.p (PI 0), CV.p (PI 0), CV.p (PI 0), CV.p (PI 0), CV.p (PI 0), CV.p (PI 0), CV.p Nil, CV.p Nil, CV.p Nil]
def tS (s : Script) (m : Nat) : List CV := [CV.p (PI s.bits), CV.p (PI s.canvas.x0), CV.p (PI s.canvas.y0), CV.p (PI s.canvas.x1), CV.p (PI s.canvas.y1), CV.p (PI s.tileW), CV.p (PI s.tileH), CV.p (ints s.order), CV.p (imgL s.images), CV.own 3 m]
attribute [local go_sem] zS tS
theorem app_drop {xs ys : List Op} {k : Nat} (hk : k ≤ ys.length) (a : Nat) (ha : a < xs.length + (ys.length - k)) (j : Nat) :
    appF xs.length (fnOf opE xs) (fun i j => (opE (ys.getD (k + i) default)).getD j .any) a j = fnOf opE (xs ++ ys.drop k) a j := by
  unfold appF fnOf
  by_cases h : a < xs.length
  · rw [if_pos h, show (xs ++ ys.drop k).getD a default = xs.getD a default from by rw [List.getD_eq_getElem?_getD, List.getD_eq_getElem?_getD, List.getElem?_append_left h]]
  · rw [if_neg h, show (xs ++ ys.drop k).getD a default = ys.getD (k + (a - xs.length)) default from by
      rw [List.getD_eq_getElem?_getD, List.getD_eq_getElem?_getD, List.getElem?_append_right (by omega), List.getElem?_drop]]
theorem edited_spec (s : Script) (l : List Raw) (cut n : Int) (hs : ScriptLen s) (hn : s.ops.length ≤ 4096) (h1 : 1 ≤ s.images.length) (h2 : s.images.length ≤ 64) (hc1 : -1000 ≤ s.canvas.x0 ∧ s.canvas.x0 ≤ 1000) (hc2 : -1000 ≤ s.canvas.y0 ∧ s.canvas.y0 ≤ 1000)
    (hl : l.length ≤ 4611686018427387904) (hr : ∀ x ∈ l, RawOk x) (hcut : i64 cut) (hat : i64 n) :
    Pure Sg 8 [ag (scriptE s), .c (.p (rawL l)), I cut, I n] (fun x => x = .b (ag (scriptE (editedM s l cut n)))) := by
  obtain ⟨c1, c2⟩ := hcut
  obtain ⟨n1, n2⟩ := hat
  have hk0 : (cutAt s n : Int) = n % (s.ops.length + 1) := by
    have := Int.emod_nonneg n (show ((s.ops.length : Int) + 1) ≠ 0 by omega)
    unfold cutAt; omega
  have hk1 : cutAt s n ≤ s.ops.length := by
    have := Int.emod_lt_of_pos n (show (0 : Int) < (s.ops.length : Int) + 1 by omega)
    omega
  refine pure_le ?_
  refine pure_of Tryd.func8 rfl (rs := [.cell 8 32]) rfl rfl mixed (by decide +kernel) (Nat.le_of_ble_eq_true rfl) (argsLt_mem (by simp (maxSteps := 1000000) (disch := omega) only [go_sem])) ?_
  have hnl : (newOps s l).length = min 3 l.length := by simp [newOps]
  have hTl : (s.ops.take (cutAt s n)).length = cutAt s n := by rw [List.length_take]; omega
  have hmost : u16 (mostM s.bits) := by unfold mostM u16; split <;> omega
  have hbit : ∀ t : Bool, t = (s.bits == 16) → (if t = true then (65535 : Int) else 255) = mostM s.bits := fun t ht => by rw [ht, mostM]; simp
  repeat' (first | refine cw_assoc ?_ | refine cw_skips ?_ | refine cw_labels ?_ | ((first | refine cw_step (fun K hK => ?_) | refine cw_last (fun K hK => ?_) | refine cw_stepD (by decide +kernel) (by decide +kernel) (fun K hK => ?_) | refine cw_lastD (by decide +kernel) (by decide +kernel) (fun K hK => ?_) | refine rgB_some ?_ | refine call_a (modp_spec n (s.ops.length + 1) (by omega) (by omega)) ?_ | refine gcall_a (fun hg => modp_spec n (s.ops.length + 1) (by omega) (by omega)) ?_); (try simp (maxSteps := 1000000) (disch := omega) only [go_sem]); (repeat' (refine And.intro ?_ ?_)); (all_goals first | (refine hK _ ?_; clear hK K) | exact auto_cl | skip)) | ((first | apply cw_ite | apply cw_iteN); (case hf => rfl); (case hc => simp (maxSteps := 1000000) (disch := omega) only [go_sem]; rfl); (all_goals first | (intro hb; (try simp only [decide_eq_true_eq, decide_eq_false_iff_not, beq_iff_eq, beq_eq_false_iff_ne, bne_iff_ne, bne_eq_false_iff_eq, ne_eq, Bool.not_eq_true, Bool.not_eq_false, Bool.not_true, Bool.not_false, Bool.not_eq_eq_eq_not, Int.not_lt, Int.not_le, gt_iff_lt, ge_iff_le, Bool.cond_eq_ite, Bool.if_false_right, Bool.if_true_left, Bool.and_eq_true, Bool.or_eq_true, Bool.and_eq_false_imp, Bool.or_eq_false_iff, Decidable.not_not, beq_true, beq_false, iteT, iteF, cond_true, cond_false] at hb)) | skip)) | exact atN_intro | ((first | apply cw_if | apply cw_cond); (case hc => simp (maxSteps := 1000000) (disch := omega) only [go_sem]; rfl); (all_goals (intro hb; (try simp only [decide_eq_true_eq, decide_eq_false_iff_not, beq_iff_eq, beq_eq_false_iff_ne, bne_iff_ne, bne_eq_false_iff_eq, ne_eq, Bool.not_eq_true, Bool.not_eq_false, Bool.not_true, Bool.not_false, Bool.not_eq_eq_eq_not, Int.not_lt, Int.not_le, gt_iff_lt, ge_iff_le, Bool.cond_eq_ite, Bool.if_false_right, Bool.if_true_left, Bool.and_eq_true, Bool.or_eq_true, Bool.and_eq_false_imp, Bool.or_eq_false_iff, Decidable.not_not, beq_true, beq_false, iteT, iteF, cond_true, cond_false] at hb); try (exfalso; omega)))) | (refine cw_blocks (fun KB hB => ?_)) | (refine cw_block ?_) | ((first | refine cw_exits ?_ | refine cw_exit ?_ | refine cw_skip ?_); simp (maxSteps := 1000000) (disch := omega) only [go_sem]) | (refine hB _ ?_; clear hB KB) | (refine exit_by (S := Sg) (by assumption) ?_) | ((first | refine cw_rets ?_ | refine cw_ret ?_); simp (maxSteps := 1000000) (disch := omega) only [go_sem]; (try clear hB KB); (try clear hK K)))
  refine cw_loop (X := Nat) (fun i => mkSt [(1, .b (.c (.p (rawL l)))), (2, .b (I cut)), (4, .b (.c (.ptr 0 0))), (8, .b (.c (.ptr 1 0))), (9, .b (U (mostM s.bits))), (10, .b (.c (.ptr 2 0))), (11, .b (I (cutAt s n))), (12, .b (I i))]
    [(0, .fix ((scriptE s).map CV.p)), (1, .fix zS), (2, .fix (tS s ((s.ops.take (cutAt s n)).length + i))), (3, .arr 62 12 ((s.ops.take (cutAt s n)).length + i) (fnOf opE (s.ops.take (cutAt s n) ++ (newOps s l).take i)))] 4)
    (fun i => i ≤ 3 ∧ i ≤ l.length) (fun i => 3 - i) 0 ?_ ?_ ?_
  · exact ⟨by omega, by omega⟩
  · refine le_of [(1, some 1), (2, some 2), (3, some 3)] rfl (by decide) rfl ?_ ?_
    all_goals simp (maxSteps := 1000000) (disch := omega) only [go_sem]
    repeat' (refine And.intro ?_ ?_)
    all_goals first | rfl | omega | exact .inl rfl | trivial | skip
    · exact .inl (by rw [hk0])
    · refine .inr fun a ha j hj => ?_
      rw [show (s.ops.take (cutAt s n)).getD a default = s.ops.getD (0 + a) default from by
        rw [Nat.zero_add, List.getD_eq_getElem?_getD, List.getD_eq_getElem?_getD, List.getElem?_take_of_lt (by omega)]]
      exact fun _ _ _ h => h
  · rintro i ⟨hi3, hil⟩
    rcases Nat.lt_or_ge i (min 3 l.length) with hlt | hge
    · have hraw : RawOk (l.getD i default) := by
        rw [List.getD_eq_getElem?_getD, List.getElem?_eq_getElem (by omega)]; exact hr _ (List.getElem_mem _)
      repeat' (first | ((first | ((with_reducible refine cw_stepDK (id := 10) [] (by decide +kernel) (by decide +kernel) ?_ (fun K hK => ?_)); (focus (refine And.intro (fun iw hiw => by ((try simp (maxSteps := 1000000) (disch := omega) only [go_sem] at hiw ⊢); (repeat (first | rfl | exact if_neg (by omega) | rw [if_neg (by omega)])); done)) (by first | exact Nat.zero_le _ | (simp (maxSteps := 1000000) (disch := omega) only [go_sem]; done) | (simp (maxSteps := 1000000) (disch := omega) only [go_sem]; omega) | decide)))) | ((with_reducible refine cw_lastDK (id := 10) [] (by decide +kernel) (by decide +kernel) ?_ (fun K hK => ?_)); (focus (refine And.intro (fun iw hiw => by ((try simp (maxSteps := 1000000) (disch := omega) only [go_sem] at hiw ⊢); (repeat (first | rfl | exact if_neg (by omega) | rw [if_neg (by omega)])); done)) (by first | exact Nat.zero_le _ | (simp (maxSteps := 1000000) (disch := omega) only [go_sem]; done) | (simp (maxSteps := 1000000) (disch := omega) only [go_sem]; omega) | decide))))); (try simp (maxSteps := 1000000) (disch := omega) only [go_sem]); (repeat' (refine And.intro ?_ ?_)); (all_goals first | (refine hK _ (by simp (maxSteps := 1000000) (disch := omega) only [go_sem]) ?_; clear hK K) | exact auto_cl | skip)) | refine cw_assoc ?_ | refine cw_skips ?_ | refine cw_labels ?_ | ((first | refine cw_step (fun K hK => ?_) | refine cw_last (fun K hK => ?_) | refine cw_stepD (by decide +kernel) (by decide +kernel) (fun K hK => ?_) | refine cw_lastD (by decide +kernel) (by decide +kernel) (fun K hK => ?_) | refine rgB_some ?_ | refine call_a (op_spec (l.getD i default) false s.images.length s.canvas false (mostM s.bits) hraw (by omega) (by omega) (by omega) (by omega) (by omega) (by omega) hmost) ?_ | refine gcall_a (fun hg => op_spec (l.getD i default) false s.images.length s.canvas false (mostM s.bits) hraw (by omega) (by omega) (by omega) (by omega) (by omega) (by omega) hmost) ?_); (try simp (maxSteps := 1000000) (disch := omega) only [go_sem]); (repeat' (refine And.intro ?_ ?_)); (all_goals first | (refine hK _ ?_; clear hK K) | exact auto_cl | skip)) | ((first | apply cw_ite | apply cw_iteN); (case hf => rfl); (case hc => simp (maxSteps := 1000000) (disch := omega) only [go_sem]; rfl); (all_goals first | (intro hb; (try simp only [decide_eq_true_eq, decide_eq_false_iff_not, beq_iff_eq, beq_eq_false_iff_ne, bne_iff_ne, bne_eq_false_iff_eq, ne_eq, Bool.not_eq_true, Bool.not_eq_false, Bool.not_true, Bool.not_false, Bool.not_eq_eq_eq_not, Int.not_lt, Int.not_le, gt_iff_lt, ge_iff_le, Bool.cond_eq_ite, Bool.if_false_right, Bool.if_true_left, Bool.and_eq_true, Bool.or_eq_true, Bool.and_eq_false_imp, Bool.or_eq_false_iff, Decidable.not_not, beq_true, beq_false, iteT, iteF, cond_true, cond_false] at hb)) | skip)) | exact atN_intro | ((first | apply cw_if | apply cw_cond); (case hc => simp (maxSteps := 1000000) (disch := omega) only [go_sem]; rfl); (all_goals (intro hb; (try simp only [decide_eq_true_eq, decide_eq_false_iff_not, beq_iff_eq, beq_eq_false_iff_ne, bne_iff_ne, bne_eq_false_iff_eq, ne_eq, Bool.not_eq_true, Bool.not_eq_false, Bool.not_true, Bool.not_false, Bool.not_eq_eq_eq_not, Int.not_lt, Int.not_le, gt_iff_lt, ge_iff_le, Bool.cond_eq_ite, Bool.if_false_right, Bool.if_true_left, Bool.and_eq_true, Bool.or_eq_true, Bool.and_eq_false_imp, Bool.or_eq_false_iff, Decidable.not_not, beq_true, beq_false, iteT, iteF, cond_true, cond_false] at hb); try (exfalso; omega)))) | (refine cw_blocks (fun KB hB => ?_)) | (refine cw_block ?_) | ((first | refine cw_exits ?_ | refine cw_exit ?_ | refine cw_skip ?_); simp (maxSteps := 1000000) (disch := omega) only [go_sem]) | (refine hB _ ?_; clear hB KB) | (refine exit_by (S := Sg) (by assumption) ?_) | ((first | refine cw_rets ?_ | refine cw_ret ?_); simp (maxSteps := 1000000) (disch := omega) only [go_sem]; (try clear hB KB); (try clear hK K)))
      refine hK _ trivial ?_
      clear hK
      repeat' (first | refine cw_assoc ?_ | refine cw_skips ?_ | refine cw_labels ?_ | ((first | refine cw_step (fun K hK => ?_) | refine cw_last (fun K hK => ?_) | refine cw_stepD (by decide +kernel) (by decide +kernel) (fun K hK => ?_) | refine cw_lastD (by decide +kernel) (by decide +kernel) (fun K hK => ?_) | refine rgB_some ?_); (try simp (maxSteps := 1000000) (disch := omega) only [go_sem]); (repeat' (refine And.intro ?_ ?_)); (all_goals first | (refine hK _ ?_; clear hK K) | exact auto_cl | skip)) | ((first | apply cw_ite | apply cw_iteN); (case hf => rfl); (case hc => simp (maxSteps := 1000000) (disch := omega) only [go_sem]; rfl); (all_goals first | (intro hb; (try simp only [decide_eq_true_eq, decide_eq_false_iff_not, beq_iff_eq, beq_eq_false_iff_ne, bne_iff_ne, bne_eq_false_iff_eq, ne_eq, Bool.not_eq_true, Bool.not_eq_false, Bool.not_true, Bool.not_false, Bool.not_eq_eq_eq_not, Int.not_lt, Int.not_le, gt_iff_lt, ge_iff_le, Bool.cond_eq_ite, Bool.if_false_right, Bool.if_true_left, Bool.and_eq_true, Bool.or_eq_true, Bool.and_eq_false_imp, Bool.or_eq_false_iff, Decidable.not_not, beq_true, beq_false, iteT, iteF, cond_true, cond_false] at hb)) | skip)) | exact atN_intro | ((first | apply cw_if | apply cw_cond); (case hc => simp (maxSteps := 1000000) (disch := omega) only [go_sem]; rfl); (all_goals (intro hb; (try simp only [decide_eq_true_eq, decide_eq_false_iff_not, beq_iff_eq, beq_eq_false_iff_ne, bne_iff_ne, bne_eq_false_iff_eq, ne_eq, Bool.not_eq_true, Bool.not_eq_false, Bool.not_true, Bool.not_false, Bool.not_eq_eq_eq_not, Int.not_lt, Int.not_le, gt_iff_lt, ge_iff_le, Bool.cond_eq_ite, Bool.if_false_right, Bool.if_true_left, Bool.and_eq_true, Bool.or_eq_true, Bool.and_eq_false_imp, Bool.or_eq_false_iff, Decidable.not_not, beq_true, beq_false, iteT, iteF, cond_true, cond_false] at hb); try (exfalso; omega)))) | (refine cw_blocks (fun KB hB => ?_)) | (refine cw_block ?_) | ((first | refine cw_exits ?_ | refine cw_exit ?_ | refine cw_skip ?_); simp (maxSteps := 1000000) (disch := omega) only [go_sem]) | (refine hB _ ?_; clear hB KB) | (refine exit_by (S := Sg) (by assumption) ?_) | ((first | refine cw_rets ?_ | refine cw_ret ?_); simp (maxSteps := 1000000) (disch := omega) only [go_sem]; (try clear hB KB); (try clear hK K)))
      rw [thenQ_normal]
      refine wk_loop (i + 1) ?_ ⟨by omega, by omega⟩ (by omega)
      have hl1 : (s.ops.take (cutAt s n) ++ (newOps s l).take i).length = (s.ops.take (cutAt s n)).length + i := by simp only [List.length_append, List.length_take, hnl]; omega
      have he : (s.ops.take (cutAt s n) ++ (newOps s l).take i) ++ [gOp (l.getD i default) false s.images.length s.canvas.x0 s.canvas.y0 false (mostM s.bits)] = s.ops.take (cutAt s n) ++ (newOps s l).take (i + 1) := by
        rw [List.append_assoc, List.take_add_one]
        congr 2
        unfold newOps
        rw [List.getElem?_map, List.getElem?_take_of_lt (by omega), List.getElem?_eq_getElem (by omega), List.getD_eq_getElem?_getD, List.getElem?_eq_getElem (by omega)]
        rfl
      refine le_of [(1, some 1), (2, some 2), (3, some 5)] rfl (by decide) rfl ?_ ?_
      all_goals simp (maxSteps := 1000000) (disch := omega) only [go_sem]
      repeat' (refine And.intro ?_ ?_)
      all_goals first | rfl | omega | exact .inl rfl | trivial | skip
      have key := fun g hg => arr_push (enc := opE) (xs := s.ops.take (cutAt s n) ++ (newOps s l).take i) (x := gOp (l.getD i default) false s.images.length s.canvas.x0 s.canvas.y0 false (mostM s.bits)) (s := 12) (g := g) hg
      simp only [hl1, he] at key
      refine .inr (key _ fun j hj => ?_)
      have hivl : j = 0 ∨ j = 1 ∨ j = 2 ∨ j = 3 ∨ j = 4 ∨ j = 5 ∨ j = 6 ∨ j = 7 ∨ j = 8 ∨ j = 9 ∨ j = 10 ∨ j = 11 := by omega
      rcases hivl with rfl | rfl | rfl | rfl | rfl | rfl | rfl | rfl | rfl | rfl | rfl | rfl <;> rfl
    · repeat' (first | refine cw_assoc ?_ | refine cw_skips ?_ | refine cw_labels ?_ | ((first | refine cw_step (fun K hK => ?_) | refine cw_last (fun K hK => ?_) | refine cw_stepD (by decide +kernel) (by decide +kernel) (fun K hK => ?_) | refine cw_lastD (by decide +kernel) (by decide +kernel) (fun K hK => ?_) | refine rgB_some ?_); (try simp (maxSteps := 1000000) (disch := omega) only [go_sem]); (repeat' (refine And.intro ?_ ?_)); (all_goals first | (refine hK _ ?_; clear hK K) | exact auto_cl | skip)) | ((first | apply cw_ite | apply cw_iteN); (case hf => rfl); (case hc => simp (maxSteps := 1000000) (disch := omega) only [go_sem]; rfl); (all_goals first | (intro hb; (try simp only [decide_eq_true_eq, decide_eq_false_iff_not, beq_iff_eq, beq_eq_false_iff_ne, bne_iff_ne, bne_eq_false_iff_eq, ne_eq, Bool.not_eq_true, Bool.not_eq_false, Bool.not_true, Bool.not_false, Bool.not_eq_eq_eq_not, Int.not_lt, Int.not_le, gt_iff_lt, ge_iff_le, Bool.cond_eq_ite, Bool.if_false_right, Bool.if_true_left, Bool.and_eq_true, Bool.or_eq_true, Bool.and_eq_false_imp, Bool.or_eq_false_iff, Decidable.not_not, beq_true, beq_false, iteT, iteF, cond_true, cond_false] at hb)) | skip)) | exact atN_intro | ((first | apply cw_if | apply cw_cond); (case hc => simp (maxSteps := 1000000) (disch := omega) only [go_sem]; rfl); (all_goals (intro hb; (try simp only [decide_eq_true_eq, decide_eq_false_iff_not, beq_iff_eq, beq_eq_false_iff_ne, bne_iff_ne, bne_eq_false_iff_eq, ne_eq, Bool.not_eq_true, Bool.not_eq_false, Bool.not_true, Bool.not_false, Bool.not_eq_eq_eq_not, Int.not_lt, Int.not_le, gt_iff_lt, ge_iff_le, Bool.cond_eq_ite, Bool.if_false_right, Bool.if_true_left, Bool.and_eq_true, Bool.or_eq_true, Bool.and_eq_false_imp, Bool.or_eq_false_iff, Decidable.not_not, beq_true, beq_false, iteT, iteF, cond_true, cond_false] at hb); try (exfalso; omega)))) | (refine cw_blocks (fun KB hB => ?_)) | (refine cw_block ?_) | ((first | refine cw_exits ?_ | refine cw_exit ?_ | refine cw_skip ?_); simp (maxSteps := 1000000) (disch := omega) only [go_sem]) | (refine hB _ ?_; clear hB KB) | (refine exit_by (S := Sg) (by assumption) ?_) | ((first | refine cw_rets ?_ | refine cw_ret ?_); simp (maxSteps := 1000000) (disch := omega) only [go_sem]; (try clear hB KB); (try clear hK K)))
      refine cw_loop (X := Nat × Int) (fun x => mkSt [(2, .b (I x.2)), (4, .b (.c (.ptr 0 0))), (8, .b (.c (.ptr 1 0))), (10, .b (.c (.ptr 2 0))), (11, .b (I x.1))]
        [(0, .fix ((scriptE s).map CV.p)), (1, .fix zS), (2, .fix (tS s ((s.ops.take (cutAt s n)).length + i))), (3, .arr 62 12 ((s.ops.take (cutAt s n)).length + i) (fnOf opE (s.ops.take (cutAt s n) ++ (newOps s l).take i)))] 4)
        (fun x => restAt s cut n = skipM s.ops (s.ops.length - x.1) x.1 x.2 ∧ x.1 ≤ s.ops.length ∧ i64 x.2) (fun x => s.ops.length - x.1) (cutAt s n, cut) ?_ ?_ ?_
      · exact ⟨rfl, hk1, c1, c2⟩
      · refine le_of [(1, some 1), (2, some 2), (3, some 3)] rfl (by decide) rfl ?_ ?_
        all_goals simp (maxSteps := 1000000) (disch := omega) only [go_sem]
        repeat' (refine And.intro ?_ ?_)
        all_goals first | rfl | omega | exact .inl rfl | trivial | skip
      · rintro ⟨k, c⟩ ⟨hk, hkl, c1, c2⟩
        dsimp only at hk hkl c1 c2 ⊢
        repeat' (first | refine cw_assoc ?_ | refine cw_skips ?_ | refine cw_labels ?_ | ((first | refine cw_step (fun K hK => ?_) | refine cw_last (fun K hK => ?_) | refine cw_stepD (by decide +kernel) (by decide +kernel) (fun K hK => ?_) | refine cw_lastD (by decide +kernel) (by decide +kernel) (fun K hK => ?_) | refine rgB_some ?_ | refine call_a (modp_spec c 3 (by omega) (by omega)) ?_ | refine gcall_a (fun hg => modp_spec c 3 (by omega) (by omega)) ?_); (try simp (maxSteps := 1000000) (disch := omega) only [go_sem]); (repeat' (refine And.intro ?_ ?_)); (all_goals first | (refine hK _ ?_; clear hK K) | exact auto_cl | skip)) | ((first | apply cw_ite | apply cw_iteN); (case hf => rfl); (case hc => simp (maxSteps := 1000000) (disch := omega) only [go_sem]; rfl); (all_goals first | (intro hb; (try simp only [decide_eq_true_eq, decide_eq_false_iff_not, beq_iff_eq, beq_eq_false_iff_ne, bne_iff_ne, bne_eq_false_iff_eq, ne_eq, Bool.not_eq_true, Bool.not_eq_false, Bool.not_true, Bool.not_false, Bool.not_eq_eq_eq_not, Int.not_lt, Int.not_le, gt_iff_lt, ge_iff_le, Bool.cond_eq_ite, Bool.if_false_right, Bool.if_true_left, Bool.and_eq_true, Bool.or_eq_true, Bool.and_eq_false_imp, Bool.or_eq_false_iff, Decidable.not_not, beq_true, beq_false, iteT, iteF, cond_true, cond_false] at hb)) | skip)) | exact atN_intro | ((first | apply cw_if | apply cw_cond); (case hc => simp (maxSteps := 1000000) (disch := omega) only [go_sem]; rfl); (all_goals (intro hb; (try simp only [decide_eq_true_eq, decide_eq_false_iff_not, beq_iff_eq, beq_eq_false_iff_ne, bne_iff_ne, bne_eq_false_iff_eq, ne_eq, Bool.not_eq_true, Bool.not_eq_false, Bool.not_true, Bool.not_false, Bool.not_eq_eq_eq_not, Int.not_lt, Int.not_le, gt_iff_lt, ge_iff_le, Bool.cond_eq_ite, Bool.if_false_right, Bool.if_true_left, Bool.and_eq_true, Bool.or_eq_true, Bool.and_eq_false_imp, Bool.or_eq_false_iff, Decidable.not_not, beq_true, beq_false, iteT, iteF, cond_true, cond_false] at hb); try (exfalso; omega)))) | (refine cw_blocks (fun KB hB => ?_)) | (refine cw_block ?_) | ((first | refine cw_exits ?_ | refine cw_exit ?_ | refine cw_skip ?_); simp (maxSteps := 1000000) (disch := omega) only [go_sem]) | (refine hB _ ?_; clear hB KB) | (refine exit_by (S := Sg) (by assumption) ?_) | ((first | refine cw_rets ?_ | refine cw_ret ?_); simp (maxSteps := 1000000) (disch := omega) only [go_sem]; (try clear hB KB); (try clear hK K)))
        · rw [blockQ_normal, thenQ_normal]
          refine wk_loop (k + 1, c.tdiv 3) ?_ ⟨?_, by dsimp only; omega, ?_⟩ (by dsimp only; omega)
          · refine le_of [(1, some 1), (2, some 2), (3, some 3)] rfl (by decide) rfl ?_ ?_
            all_goals simp (maxSteps := 1000000) (disch := omega) only [go_sem]
            repeat' (refine And.intro ?_ ?_)
            all_goals first | rfl | omega | exact .inl rfl | trivial | skip
          · dsimp only
            rw [hk, skip_step (by omega), if_pos ⟨by omega, hb.1.2, hb.2⟩]
          · dsimp only [i64]
            rcases Int.lt_or_le c 0 with h | h
            · rw [show c = -(-c) by omega, Int.neg_tdiv, Int.tdiv_eq_ediv_of_nonneg (by omega)]; omega
            · rw [Int.tdiv_eq_ediv_of_nonneg h]; omega
        · have hrest : restAt s cut n = k := by
            rw [hk]
            rcases Nat.lt_or_ge k s.ops.length with h | h
            · rw [skip_step h, if_neg (fun q => hb ⟨by omega, q.2.1⟩ q.2.2)]
            · rw [show s.ops.length - k = 0 by omega]; rfl
          have hti : (newOps s l).take i = newOps s l := List.take_of_length_le (by omega)
          rw [hti]
          have hed : editedM s l cut n = { s with ops := (s.ops.take (cutAt s n) ++ newOps s l) ++ s.ops.drop k } := by rw [editedM, hrest]
          rw [hed]
          have hlen : (s.ops.take (cutAt s n) ++ newOps s l).length = (s.ops.take (cutAt s n)).length + i := by rw [List.length_append, hnl]; omega
          rw [← hlen]
          refine sle_b (ble_agg ?_)
          simp only [List.map_cons, List.map_nil, cleL_cons, cleL_nil]
          repeat' (refine And.intro ?_ ?_)
          all_goals first | exact .inl rfl | exact .inl trivial | exact .inr nil_le | trivial | skip
          rw [show (s.ops.take (cutAt s n) ++ newOps s l ++ s.ops.drop k).length = (s.ops.take (cutAt s n) ++ newOps s l).length + (s.ops.length - k) from by rw [List.length_append, List.length_drop]]
          refine .inr (lst_leQ fun a ha j hj => ?_)
          show PV.le (appF _ (fnOf opE (s.ops.take (cutAt s n) ++ newOps s l)) (fun i j => (opE (s.ops.getD (k + i) default)).getD j .any) a j) _
          rw [app_drop hkl a ha j]
          exact fun _ _ _ h => h
end Go.Proofs.YtkjdljcbpbeehaaDoor
