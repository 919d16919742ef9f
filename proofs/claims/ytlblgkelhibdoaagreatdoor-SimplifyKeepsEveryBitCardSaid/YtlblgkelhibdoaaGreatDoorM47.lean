/- Part of the proof: EP, E3, E4, EQ. -/
import Derived.Test.YtlblgkelhibdoaaGreatDoorM24
import Derived.Test.YtlblgkelhibdoaaGreatDoorM46
set_option linter.unusedSimpArgs false
set_option linter.unusedVariables false
set_option maxRecDepth 8000
set_option maxHeartbeats 2000000
namespace Go.Proofs.YtlblgkelhibdoaaGreatDoor
open Go Go.SL
theorem opAt_eq {ops : List Op} {i : Nat} (h : i < ops.length) : opAt ops i = ops[i] := by rw [opAt, List.getD_eq_getElem?_getD, List.getElem?_eq_getElem h]; rfl
theorem ops_cut {ops : List Op} {i : Nat} (h : i < ops.length) : ops = ops.take i ++ opAt ops i :: ops.drop (i + 1) := by
 rw [opAt_eq h, ← List.drop_eq_getElem_cons h, List.take_append_drop]
def sumW (w : Op → Nat) (l : List Op) : Nat := (l.map w).sum
theorem sumW_app (w : Op → Nat) (a b : List Op) : sumW w (a ++ b) = sumW w a + sumW w b := by rw [sumW, List.map_append, List.sum_append]; rfl
theorem sumW_cons (w : Op → Nat) (a : Op) (b : List Op) : sumW w (a :: b) = w a + sumW w b := by rw [sumW, List.map_cons, List.sum_cons]; rfl
theorem sumW_nil (w : Op → Nat) : sumW w [] = 0 := rfl
theorem sumW_take (w : Op → Nat) (l : List Op) (i : Nat) : sumW w (l.take i) + sumW w (l.drop i) = sumW w l := by rw [← sumW_app, List.take_append_drop]
theorem sumW_drop (w : Op → Nat) (l : List Op) (i : Nat) : sumW w (l.drop i) ≤ sumW w l := by have := sumW_take w l i; omega
theorem sumW_dropLe (w : Op → Nat) (l : List Op) {i j : Nat} (h : i ≤ j) : sumW w (l.drop j) ≤ sumW w (l.drop i) := by
 have := sumW_drop w (l.drop i) (j - i)
 rw [List.drop_drop, show i + (j - i) = j by omega] at this
 exact this
def cOp (o : Op) : Nat := if o.kind = 1 ∨ o.kind = 2 then 1 else 0
theorem cnt_sum : ∀ l : List Op, cntM l = sumW cOp l
 | [] => rfl
 | o :: l => by
  have ih := cnt_sum l
  rw [sumW_cons, ← ih, cntM, List.filter_cons, cOp]
  by_cases h : o.kind = 1 ∨ o.kind = 2
  ·rw [if_pos (decide_eq_true h), if_pos h, List.length_cons, cntM, Nat.add_comm]
  ·rw [if_neg (by simp [h]), if_neg h, cntM, Nat.zero_add]
theorem sum_cut (w : Op → Nat) {s : Script} (W : Wf s.ops) {i : Nat} (hi : i < s.ops.length) : sumW w (cutOps s i) + w (opAt s.ops i) ≤ sumW w s.ops := by
 have e := ops_cut hi
 have h1 : sumW w s.ops = sumW w (s.ops.take i) + (w (opAt s.ops i) + sumW w (s.ops.drop (i + 1))) := by rw [e, sumW_app, sumW_cons, ← e]
 have h2 := sumW_dropLe w s.ops (i := i + 1) (j := endsM s.ops i + 1) (by have := ends_ge W hi; omega)
 rw [cutOps, sumW_app]
 omega
theorem sum_unw (w : Op → Nat) {s : Script} (W : Wf s.ops) {i : Nat} (hi : i + 1 < s.ops.length) (hk : (opAt s.ops i).kind = 2) (he : i + 2 ≤ endsM s.ops i) :
  sumW w (unwOps s i) + w (opAt s.ops i) + w (opAt s.ops (i + 1)) ≤ sumW w s.ops + w (unwOp s i) := by
 have e := ops_cut (ops := s.ops) (i := i) (by omega)
 have h1 : sumW w s.ops = sumW w (s.ops.take i) + (w (opAt s.ops i) + sumW w (s.ops.drop (i + 1))) := by rw [e, sumW_app, sumW_cons, ← e]
 have h2 : sumW w (s.ops.drop (i + 1)) = w (opAt s.ops (i + 1)) + sumW w (s.ops.drop (i + 2)) := by
  rw [opAt_eq hi, List.drop_eq_getElem_cons hi, sumW_cons]
 have hl := ends_lt W (i := i) (by omega)
 have h3 : sumW w ((s.ops.take (endsM s.ops i)).drop (i + 2)) + sumW w (s.ops.drop (endsM s.ops i)) = sumW w (s.ops.drop (i + 2)) := by
  rw [List.drop_take]
  have := sumW_take w (s.ops.drop (i + 2)) (endsM s.ops i - (i + 2))
  rw [List.drop_drop, show i + 2 + (endsM s.ops i - (i + 2)) = endsM s.ops i by omega] at this
  exact this
 have h4 := sumW_dropLe w s.ops (i := endsM s.ops i) (j := endsM s.ops i + 1) (by omega)
 rw [unwOps, sumW_app, sumW_app, sumW_app, sumW_cons, sumW_nil]
 omega
theorem sum_set (w : Op → Nat) {l : List Op} {i : Nat} (hi : i < l.length) (o : Op) : sumW w (l.set i o) + w (opAt l i) = sumW w l + w o := by
 have e := ops_cut hi
 have h1 : sumW w l = sumW w (l.take i) + (w (opAt l i) + sumW w (l.drop (i + 1))) := by rw [e, sumW_app, sumW_cons, ← e]
 rw [List.set_eq_take_append_cons_drop, if_pos hi, sumW_app, sumW_cons]
 omega
theorem apM_lt {s : Script} {n i : Int} (h : apM s n i = true) : (1 ≤ n ∧ n ≤ 9) ∧ 0 ≤ i ∧ i.toNat < s.ops.length ∧ (opAt s.ops i.toNat).kind ≠ 3 ∧ ruleM s n.toNat i.toNat = true := by
 simp only [apM, Bool.and_eq_true, Bool.not_eq_true', decide_eq_true_eq, decide_eq_false_iff_not] at h
 obtain ⟨⟨⟨⟨⟨h1, h2⟩, h3⟩, h4⟩, h5⟩, h6⟩ := h
 exact ⟨⟨h1, by omega⟩, h3, by omega, h5, h6⟩
theorem kid_next {s : Script} (W : Wf s.ops) {i : Nat} (hi : i < s.ops.length) (hk : (opAt s.ops i).kind = 2) (h1 : 1 ≤ kidsM s.ops i) : i + 2 ≤ endsM s.ops i ∧ (opAt s.ops (i + 1)).kind ≠ 3 := by
 have hl := ends_lt W hi
 have hp := ends_push W hi hk
 have hm : i ∈ stk s.ops (i + 1) := by rw [stk_push hk]; exact List.mem_cons_self ..
 have key : (opAt s.ops (i + 1)).kind ≠ 3 := by
  intro h3
  have e : stk s.ops (i + 1) = i :: stk s.ops i := stk_push hk
  have hout : i ∉ stk s.ops (i + 2) := by
   rw [stk_pop h3, e, List.tail_cons]
   intro hc
   have := stk_lt hc
   omega
  have hz : ∀ j, kidsTo s.ops j i = 0 := by
   intro j
   induction j with
   | zero => rfl
   | succ j ih =>
    rw [kidsTo, ih, if_neg]
    rintro ⟨a, b⟩
    have hmem : i ∈ stk s.ops j := by
     cases hs : stk s.ops j with
     | nil => rw [topAt_nil hs] at b; omega
     | cons p t => rw [topAt_cons hs] at b; have : p = i := by omega
                   rw [this]; exact List.mem_cons_self ..
    have := stk_lt hmem
    rcases Nat.lt_or_ge j (i + 2) with h | h
    ·have : j = i + 1 := by omega
     rw [this] at a; exact a h3
    ·exact stk_keep W (p := i) (i := i + 2) (by omega) hout j h hmem
  unfold kidsM at h1
  rw [hz] at h1
  omega
 refine ⟨?_, key⟩
 have e3 : (opAt s.ops (endsM s.ops i)).kind = 3 := by
  obtain ⟨j, t, h1, h2, h3, h4⟩ := pop_of W (p := i) (s.ops.length - (i + 1)) (i + 1) (by omega) hm
  rw [ends_pop W h2 h3 h4]; exact h3
 rcases Nat.lt_or_ge (i + 1) (endsM s.ops i) with h | h
 ·omega
 ·have : endsM s.ops i = i + 1 := by omega
  rw [this] at e3; exact absurd e3 key
theorem chg_kind (n : Nat) (o : Op) : (chgOp n o).kind = o.kind := by
 unfold chgOp
 split
 ·rfl
 split
 ·rfl
 split <;> rfl
theorem cnt_same {s : Script} {n i : Int} (h : apM s n i = true) (hn : 5 ≤ n) (hn2 : n ≤ 8) : cntM (rwM s n.toNat i.toNat) = cntM s.ops ∧ (rwM s n.toNat i.toNat).length = s.ops.length := by
 obtain ⟨h1, h2, h3, h4, h5⟩ := apM_lt h
 rw [rwM, if_neg (by omega), if_neg (by omega)]
 refine ⟨?_, List.length_set⟩
 rw [cnt_sum, cnt_sum]
 have := sum_set cOp h3 (chgOp n.toNat (opAt s.ops i.toNat))
 have e : cOp (chgOp n.toNat (opAt s.ops i.toNat)) = cOp (opAt s.ops i.toNat) := by rw [cOp, cOp, chg_kind]
 omega
end Go.Proofs.YtlblgkelhibdoaaGreatDoor
set_option maxHeartbeats 2000000
set_option maxRecDepth 16000
namespace Go.Proofs.YtlblgkelhibdoaaGreatDoor
open Go Go.SL
open Go.RowKit (wrap64)
theorem op_rng {s : Script} (V : VOps s) {i : Nat} (hi : i < s.ops.length) : (0 ≤ (opAt s.ops i).mask ∧ (opAt s.ops i).mask ≤ s.images.length) ∧ ((opAt s.ops i).kind = 1 → 0 ≤ (opAt s.ops i).image ∧ (opAt s.ops i).image < s.images.length) := by
 have h := opErr_zero.1 (V.ok i hi)
 by_cases h3 : (opAt s.ops i).kind = 3
 ·have hf := h.2.1
  rw [fieldsM, if_pos h3, decide_eq_true_eq] at hf
  refine ⟨by omega, fun h => by omega⟩
 ·have := (h.2.2.2 h3).1
  refine ⟨by omega, fun h => by omega⟩
theorem grp_lt (ops : List Op) {i : Nat} (h : i < ops.length) : -1 ≤ grpM ops i ∧ grpM ops i < ops.length := by
 unfold grpM
 split
 ·rename_i hk
  have e : topAt ops (i + 1) < i := by
   cases hs : stk ops i with
   | nil => rw [topAt_nil (by rw [stk_pop hk, hs]; rfl)]; omega
   | cons p t =>
    have h1 : stk ops (i + 1) = t := by rw [stk_pop hk, hs]; rfl
    cases ht : t with
    | nil => rw [topAt_nil (by rw [h1, ht])]; omega
    | cons q r =>
     have hq : q < i := stk_lt (ops := ops) (by rw [hs, ht]; exact List.mem_cons_of_mem _ (List.mem_cons_self ..))
     rw [topAt_cons (by rw [h1, ht])]; omega
  have := topAt_lt ops (i + 1)
  omega
 ·have := topAt_lt ops i
  omega
theorem vb {x y : Bool} (h : x = y) : SV.b (BV.c (CV.p (PV.val (Value.bool x)))) = .b (B y) := by rw [h]
theorem kbeq (n m : Nat) : ((n : Int) == (m : Int)) = decide (n = m) := by
 by_cases h : n = m
 ·rw [h, decide_eq_true rfl]; exact beq_self_eq_true _
 ·rw [decide_eq_false h]; exact beq_eq_false_iff_ne.2 (by omega)
attribute [local go_sem] Int.toNat_natCast vP vf0 vf1 vf2 vf3 vf4 vf5 vf6 vf7 vf8 vf9 vf10 vf11 vf12 vf13 vf14
theorem frame_sp (s : Script) (V : VOps s) (i : Nat) (hi : i < s.ops.length) : Pure Sg 147 [vP s, I i] (fun x => x = .tup [B (isoM s i), B (koM s i)]) := by
 have hn := V.cnt
 have hg := grp_lt s.ops hi
 refine fn_a Tryz.func147 [.tmp 4, .tmp 5] ?_
 repeat' (first | refine un_a ?_ | (refine st_a (fun K hK => ?_); and_intros; (all_goals first | (refine hK _ ?_; clear hK K) | exact auto_cl | skip)) | (refine if_a (fun hb => ?_) (fun hb => ?_); all_goals try exact bad_a) | (refine ret_a ?_; (try clear hB KB); (try clear hK K)))
 ·rw [isoM, koM, decide_eq_false (by omega)]; rfl
 ·rw [isoM, koM, decide_eq_true hb]; rfl
theorem plain_sp (s : Script) (V : VOps s) (i : Nat) (hi : i < s.ops.length) : Pure Sg 143 [vP s, I i] (fun x => x = .b (B (plnM s i))) := by
 have h1 := frame_sp s V i hi
 refine fn_a Tryz.func143 [.tmp 4] ?_
 repeat' (first | ((first | refine st_a (fun K hK => ?_) | refine call_c (h1) ?_); and_intros; (all_goals first | (refine hK _ ?_; clear hK K) | exact auto_cl | skip)) | (refine ret_a ?_; (try clear hB KB); (try clear hK K)))
 rfl
theorem unscaled_sp (s : Script) (o : Op) : Pure Sg 149 [vP s, ag (opE o)] (fun x => x = .b (B (unscM s o))) := by
 refine fn_a Tryz.func149 [.tmp 4] ?_
 repeat' (first | (refine st_a (fun K hK => ?_); and_intros; (all_goals first | (refine hK _ ?_; clear hK K) | exact auto_cl | skip)) | (refine ret_a ?_; (try clear hB KB); (try clear hK K)))
 rfl
theorem solidMask_sp (s : Script) (V : VOps s) (o : Op) (ho : 0 ≤ o.mask ∧ o.mask ≤ s.images.length) : Pure Sg 161 [vP s, ag (opE o)] (fun x => x = .tup [U (smA s o), B (smB s o)]) := by
 have hn := V.imgs
 refine fn_a Tryz.func161 [.tmp 4, .tmp 5] ?_
 repeat' (first | (((with_reducible refine cw_stepDK (id := 3) [(13, 3), (15, 1), (18, 3)] (by decide +kernel) (by decide +kernel) ?_ (fun K hK => ?_)); (first | (refine And.intro (fun iw hiw => ?_) ?_; (focus ((try simp (maxSteps := 1000000) (disch := omega) only [go_sem] at hiw ⊢); (repeat (refine Eq.trans (if_neg ?_) ?_; (focus omega))); exact hw iw (by omega))); (focus (first | exact Nat.zero_le _ | (simp (maxSteps := 1000000) (disch := omega) only [go_sem]; done) | (simp (maxSteps := 1000000) (disch := omega) only [go_sem]; omega)))) | exact wf_a)); (try simp (maxSteps := 1000000) (disch := omega) only [go_sem]); and_intros; (all_goals first | (refine hK _ (by simp (maxSteps := 1000000) (disch := omega) only [go_sem]) ?_; clear hK K) | exact auto_cl | skip)) | refine un_a ?_ | (refine st_a (fun K hK => ?_); and_intros; (all_goals first | (refine hK _ ?_; clear hK K) | exact auto_cl | skip)) | (refine if_a (fun hb => ?_) (fun hb => ?_); all_goals try exact bad_a) | (refine ret_a ?_; (try clear hB KB); (try clear hK K)))
 ·rw [smA, smB, if_pos hb, decide_eq_true hb]; rfl
 ·rw [smA, smB, if_neg hb, decide_eq_false hb]; rfl
theorem fullv_sp (s : Script) (V : VOps s) (hs : ScriptLen s) (o : Op) (ho : 0 ≤ o.mask ∧ o.mask ≤ s.images.length) : Pure Sg 145 [vP s, ag (opE o)] (fun x => x = .b (B (fullM s o))) := by
 have hn := V.imgs
 have h1 := solidMask_sp s V o ho
 have h2 := maskRect_spec s o hs ⟨ho.1, by omega⟩
 have h3 := covers_spec (maskRectM s o) s.canvas
 refine fn_a Tryz.func145 [.tmp 4] ?_
 repeat' (first | ((first | refine st_a (fun K hK => ?_) | refine call_c (h1) ?_ | refine gcall_c (fun hg => h2) ?_ | refine gcall_c (fun hg => h3) ?_); and_intros; (all_goals first | (refine hK _ ?_; clear hK K) | exact auto_cl | skip)) | (refine ret_a ?_; (try clear hB KB); (try clear hK K)))
 rfl
theorem void_sp (s : Script) (V : VOps s) (hs : ScriptLen s) (o : Op) (ho : 0 ≤ o.mask ∧ o.mask ≤ s.images.length) : Pure Sg 141 [vP s, ag (opE o)] (fun x => x = .b (B (voidM s o))) := by
 have hn := V.imgs
 have h1 := solidMask_sp s V o ho
 have h2 := maskRect_spec s o hs ⟨ho.1, by omega⟩
 have h3 := rempty_spec (maskRectM s o)
 refine fn_a Tryz.func141 [.tmp 4] ?_
 repeat' (first | ((first | refine st_a (fun K hK => ?_) | refine call_c (h1) ?_ | refine gcall_c (fun hg => h2) ?_ | refine gcall_c (fun hg => h3) ?_); and_intros; (all_goals first | (refine hK _ ?_; clear hK K) | exact auto_cl | skip)) | (refine ret_a ?_; (try clear hB KB); (try clear hK K)))
 rfl
theorem invisible_sp (s : Script) (V : VOps s) (hs : ScriptLen s) (i : Nat) (hi : i < s.ops.length) (h3 : (opAt s.ops i).kind ≠ 3) : Pure Sg 94 [vP s, I i] (fun x => x = .b (B (invM s i))) := by
 have hn := V.cnt
 have hm := V.imgs
 obtain ⟨ho, hm2⟩ := op_rng V hi
 have h1 := neutral_spec (opAt s.ops i).operator
 have h2 := void_sp s V hs (opAt s.ops i) ho
 have h4 := imageRect_spec s (opAt s.ops i) hs
 have h5 := rempty_spec (imageRectM s (opAt s.ops i))
 have h6 := transparent_spec (imgM s (opAt s.ops i).image).color
 unfold opAt at h1 h2 h4 h5 h6 hm2 h3
 refine fn_a Tryz.func94 [.tmp 4] ?_
 repeat' (first | (((with_reducible refine cw_stepDK (id := 8) [(41, 3), (43, 1), (45, 3)] (by decide +kernel) (by decide +kernel) ?_ (fun K hK => ?_)); (first | (refine And.intro (fun iw hiw => ?_) ?_; (focus ((try simp (maxSteps := 1000000) (disch := omega) only [go_sem] at hiw ⊢); (repeat (refine Eq.trans (if_neg ?_) ?_; (focus omega))); exact hw iw (by omega))); (focus (first | exact Nat.zero_le _ | (simp (maxSteps := 1000000) (disch := omega) only [go_sem]; done) | (simp (maxSteps := 1000000) (disch := omega) only [go_sem]; omega)))) | exact wf_a)); (try simp (maxSteps := 1000000) (disch := omega) only [go_sem]); and_intros; (all_goals first | (refine hK _ (by simp (maxSteps := 1000000) (disch := omega) only [go_sem]) ?_; clear hK K) | exact auto_cl | skip)) | refine un_a ?_ | ((first | refine st_a (fun K hK => ?_) | refine call_c (h1) ?_ | refine gcall_c (fun hg => h2) ?_ | refine call_c (h4) ?_ | refine call_c (h5) ?_ | refine gcall_c (fun hg => h6) ?_); and_intros; (all_goals first | (refine hK _ ?_; clear hK K) | exact auto_cl | skip)) | (refine if_a (fun hb => ?_) (fun hb => ?_); all_goals try exact bad_a) | (refine ret_a ?_; (try clear hB KB); (try clear hK K)))
 ·refine vb ?_
  rw [invM, opAt, hb]; rfl
 ·refine vb ?_
  rw [invM, opAt, ‹neutralM _ = true›]
  rcases hb with hb | hb
  ·rw [decide_eq_true hb]; rfl
  ·rw [hb, Bool.or_true]; rfl
 ·refine vb ?_
  obtain ⟨q1, q2⟩ := ‹_ ∧ voidM _ _ = false›
  rw [invM, opAt, ‹neutralM _ = true›, decide_eq_false q1, q2, if_pos hb]
  exact kbeq _ 0
 ·have := V.wf.kinds i hi
  unfold opAt at this
  exact (hm2 (by omega)).1
 ·have := V.wf.kinds i hi
  unfold opAt at this
  exact (hm2 (by omega)).2
 ·refine vb ?_
  obtain ⟨q1, q2⟩ := ‹_ ∧ voidM _ _ = false›
  rw [invM, opAt, ‹neutralM _ = true›, decide_eq_false q1, q2, if_neg hb]
  rfl
theorem dst_sp (s : Script) (V : VOps s) (i : Nat) (hi : i < s.ops.length) : Pure Sg 96 [vP s, I i] (fun x => x = .b (B (dstM s i))) := by
 have hn := V.cnt
 refine fn_a Tryz.func96 [.tmp 4] ?_
 repeat' (first | (refine st_a (fun K hK => ?_); and_intros; (all_goals first | (refine hK _ ?_; clear hK K) | exact auto_cl | skip)) | (refine ret_a ?_; (try clear hB KB); (try clear hK K)))
 rfl
theorem nothing_sp (s : Script) (V : VOps s) (i : Nat) (hi : i < s.ops.length) : Pure Sg 97 [vP s, I i] (fun x => x = .b (B (nthM s i))) := by
 have hn := V.cnt
 have h1 := plain_sp s V i hi
 refine fn_a Tryz.func97 [.tmp 4] ?_
 repeat' (first | refine un_a ?_ | ((first | refine st_a (fun K hK => ?_) | refine gcall_c (fun hg => h1) ?_); and_intros; (all_goals first | (refine hK _ ?_; clear hK K) | exact auto_cl | skip)) | ((first | apply cw_ite | apply cw_iteN); (case hf => rfl); (case hc => exact ev_a); (all_goals first | (intro hb; (try simp only [hbs] at hb)) | skip)) | exact atN_intro | (refine if_a (fun hb => ?_) (fun hb => ?_); all_goals try exact bad_a) | (refine ret_a ?_; (try clear hB KB); (try clear hK K)))
 ·refine vb ?_
  rw [nthM, opAt, decide_eq_true (by omega)]; rfl
 ·refine vb ?_
  rw [nthM, opAt, decide_eq_false (by omega)]; rfl
theorem covers_sp (s : Script) (V : VOps s) (hs : ScriptLen s) (i : Nat) (hi : i < s.ops.length) (h3 : (opAt s.ops i).kind = 1) : Pure Sg 144 [vP s, I i] (fun x => x = .b (B (cvM s i))) := by
 have hn := V.cnt
 have hm := V.imgs
 obtain ⟨ho, hm2⟩ := op_rng V hi
 have h1 := frame_sp s V i hi
 have h2 := unscaled_sp s (opAt s.ops i)
 have h4 := imageRect_spec s (opAt s.ops i) hs
 have h5 := covers_spec (imageRectM s (opAt s.ops i)) s.canvas
 have hm3 := hm2 h3
 unfold opAt at h2 h4 h5 hm3
 refine fn_a Tryz.func144 [.tmp 4] ?_
 repeat' (first | (((with_reducible refine cw_stepDK (id := 5) [(33, 3), (35, 1), (37, 3)] (by decide +kernel) (by decide +kernel) ?_ (fun K hK => ?_)); (first | (refine And.intro (fun iw hiw => ?_) ?_; (focus ((try simp (maxSteps := 1000000) (disch := omega) only [go_sem] at hiw ⊢); (repeat (refine Eq.trans (if_neg ?_) ?_; (focus omega))); exact hw iw (by omega))); (focus (first | exact Nat.zero_le _ | (simp (maxSteps := 1000000) (disch := omega) only [go_sem]; done) | (simp (maxSteps := 1000000) (disch := omega) only [go_sem]; omega)))) | exact wf_a)); (try simp (maxSteps := 1000000) (disch := omega) only [go_sem]); and_intros; (all_goals first | (refine hK _ (by simp (maxSteps := 1000000) (disch := omega) only [go_sem]) ?_; clear hK K) | exact auto_cl | skip)) | refine un_a ?_ | ((first | refine st_a (fun K hK => ?_) | refine call_c (h1) ?_ | refine call_c (h2) ?_ | refine gcall_c (fun hg => h4) ?_ | refine gcall_c (fun hg => h5) ?_); and_intros; (all_goals first | (refine hK _ ?_; clear hK K) | exact auto_cl | skip)) | (refine if_a (fun hb => ?_) (fun hb => ?_); all_goals try exact bad_a) | (refine ret_a ?_; (try clear hB KB); (try clear hK K)))
 ·refine vb ?_
  rw [cvM, opAt, decide_eq_true hb.1, hb.2]; rfl
 ·rename_i q1
  refine vb ?_
  have e1 : (decide ((s.ops.getD i default).operator = 1) && !koM s i) = false := by
   by_cases h : (s.ops.getD i default).operator = 1
   ·rw [q1 h]; simp
   ·rw [decide_eq_false h]; rfl
  rw [cvM, opAt, e1, Bool.false_or]
  have hb : (unscM s (s.ops.getD i default) = false ∨ (imgM s (s.ops.getD i default).image).solid = false) ∨ coversR (imageRectM s (s.ops.getD i default)) s.canvas = false := hb
  rcases hb with (hb | hb) | hb <;> rw [hb] <;> simp
 ·rename_i q2 q1
  refine vb ?_
  have e1 : (decide ((s.ops.getD i default).operator = 1) && !koM s i) = false := by rw [hb]; simp
  have q1 : (unscM s (s.ops.getD i default) = true ∧ (imgM s (s.ops.getD i default).image).solid = true) ∧ coversR (imageRectM s (s.ops.getD i default)) s.canvas = true := q1
  rw [cvM, opAt, e1, Bool.false_or, q1.1.1, q1.1.2, q1.2, if_pos hb]
  rfl
 ·rename_i q3 q2 q1
  refine vb ?_
  have e1 : (decide ((s.ops.getD i default).operator = 1) && !koM s i) = false := by
   by_cases h : (s.ops.getD i default).operator = 1
   ·rw [q3 h]; simp
   ·rw [decide_eq_false h]; rfl
  have q2 : (unscM s (s.ops.getD i default) = true ∧ (imgM s (s.ops.getD i default).image).solid = true) ∧ coversR (imageRectM s (s.ops.getD i default)) s.canvas = true := q2
  rw [cvM, opAt, e1, Bool.false_or, q2.1.1, q2.1.2, q2.2, if_neg (by rw [q1]; decide), decide_eq_false hb]
  rfl
 ·rename_i q3 q2 q1
  refine vb ?_
  have e1 : (decide ((s.ops.getD i default).operator = 1) && !koM s i) = false := by
   by_cases h : (s.ops.getD i default).operator = 1
   ·rw [q3 h]; simp
   ·rw [decide_eq_false h]; rfl
  have q2 : (unscM s (s.ops.getD i default) = true ∧ (imgM s (s.ops.getD i default).image).solid = true) ∧ coversR (imageRectM s (s.ops.getD i default)) s.canvas = true := q2
  rw [cvM, opAt, e1, Bool.false_or, q2.1.1, q2.1.2, q2.2, if_neg (by rw [q1]; decide), decide_eq_true hb]
  rfl
theorem mask_sp (s : Script) (V : VOps s) (hs : ScriptLen s) (i : Nat) (hi : i < s.ops.length) : Pure Sg 99 [vP s, I i] (fun x => x = .b (B (mskM s i))) := by
 have hn := V.cnt
 obtain ⟨ho, hm2⟩ := op_rng V hi
 have h1 := fullv_sp s V hs (opAt s.ops i) ho
 unfold opAt at h1
 refine fn_a Tryz.func99 [.tmp 4] ?_
 repeat' (first | ((first | refine st_a (fun K hK => ?_) | refine call_c (h1) ?_); and_intros; (all_goals first | (refine hK _ ?_; clear hK K) | exact auto_cl | skip)) | (refine ret_a ?_; (try clear hB KB); (try clear hK K)))
 rfl
theorem isolate_sp (s : Script) (V : VOps s) (i : Nat) (hi : i < s.ops.length) : Pure Sg 102 [vP s, I i] (fun x => x = .b (B (iseM s i))) := by
 have hn := V.cnt
 have h1 := frame_sp s V i hi
 refine fn_a Tryz.func102 [.tmp 4] ?_
 repeat' (first | ((first | refine st_a (fun K hK => ?_) | refine call_c (h1) ?_); and_intros; (all_goals first | (refine hK _ ?_; clear hK K) | exact auto_cl | skip)) | (refine ret_a ?_; (try clear hB KB); (try clear hK K)))
 rfl
theorem normal_sp (s : Script) (V : VOps s) (i : Nat) (hi : i < s.ops.length) : Pure Sg 104 [vP s, I i] (fun x => x = .b (B (nrmM s i))) := by
 have hn := V.cnt
 have h1 := frame_sp s V i hi
 have h2 := fresh_spec (opAt s.ops i).operator
 unfold opAt at h2
 refine fn_a Tryz.func104 [.tmp 4] ?_
 repeat' (first | refine un_a ?_ | ((first | refine st_a (fun K hK => ?_) | refine call_c (h1) ?_ | refine gcall_c (fun hg => h2) ?_); and_intros; (all_goals first | (refine hK _ ?_; clear hK K) | exact auto_cl | skip)) | (refine if_a (fun hb => ?_) (fun hb => ?_); all_goals try exact bad_a) | (refine ret_a ?_; (try clear hB KB); (try clear hK K)))
 ·rw [nrmM, hb]; rfl
 ·rw [nrmM, ‹isoM s i = true›, if_pos hb]; rfl
 ·rw [nrmM, ‹isoM s i = true›, if_neg (by rw [hb]; decide)]; rfl
theorem single_sp (s : Script) (V : VOps s) (i : Nat) (hi : i < s.ops.length) : Pure Sg 106 [vP s, I i] (fun x => x = .b (B (sngM s i))) := by
 have hn := V.cnt
 refine fn_a Tryz.func106 [.tmp 4] ?_
 repeat' (first | (refine st_a (fun K hK => ?_); and_intros; (all_goals first | (refine hK _ ?_; clear hK K) | exact auto_cl | skip)) | (refine ret_a ?_; (try clear hB KB); (try clear hK K)))
 rw [sngM]
 exact vb (congrArg (fun b => _ && _ && b) (kbeq _ 1))
theorem unwrap_sp (s : Script) (V : VOps s) (i : Nat) (hi : i < s.ops.length) : Pure Sg 108 [vP s, I i] (fun x => x = .b (B (unwM s i))) := by
 have hn := V.cnt
 have W := V.wf
 have h1 := unscaled_sp s (opAt s.ops i)
 have h2 := unscaled_sp s (opAt s.ops (i + 1))
 unfold opAt at h1 h2
 refine fn_a Tryz.func108 [.tmp 4] ?_
 repeat' (first | refine un_a ?_ | ((first | refine st_a (fun K hK => ?_) | refine gcall_c (fun hg => h2) ?_ | refine gcall_c (fun hg => h1) ?_); and_intros; (all_goals first | (refine hK _ ?_; clear hK K) | exact auto_cl | skip)) | (refine if_a (fun hb => ?_) (fun hb => ?_); all_goals try exact bad_a) | (refine ret_a ?_; (try clear hB KB); (try clear hK K)))
 ·refine vb ?_
  have e : (decide ((opAt s.ops i).kind = 2) && (opAt s.ops i).isolated && decide (kidsM s.ops i = 1)) = false := by
   unfold opAt
   rcases hb with (hb | hb) | hb
   ·rw [decide_eq_false hb]; rfl
   ·rw [hb, Bool.and_false]; rfl
   ·rw [decide_eq_false (show ¬ kidsM s.ops i = 1 by omega), Bool.and_false]
  rw [unwM, e]; rfl
 ·obtain ⟨⟨b1, b2⟩, b3⟩ := hb
  have := (kid_next W hi b1 (by omega)).1
  have := ends_lt W hi
  omega
 ·refine vb ?_
  obtain ⟨⟨b1, b2⟩, b3⟩ := hb
  rw [unwM, show (opAt s.ops i).isolated = true from b2, decide_eq_true (show (opAt s.ops i).kind = 2 from b1), decide_eq_true (show kidsM s.ops i = 1 by omega), show ((i : Int) + 1).toNat = i + 1 by omega]
  rfl
theorem covered_sp (s : Script) (V : VOps s) (hs : ScriptLen s) (i : Nat) (hi : i < s.ops.length) : Pure Sg 98 [vP s, I i] (fun x => x = .b (B (cdM s i))) := by
 have hn := V.cnt
 have W := V.wf
 have hel := ends_lt W hi
 have hge := ends_ge W hi
 refine fn_a Tryz.func98 [.tmp 4] ?_
 repeat' (first | refine un_a ?_ | (refine st_a (fun K hK => ?_); and_intros; (all_goals first | (refine hK _ ?_; clear hK K) | exact auto_cl | skip)))
 refine cw_loop (X := Nat × Nat) (fun x => mkSt [(0, .b (vP s)), (1, .b (I i)), (5, .b (I x.2))] [] 1)
  (fun x => s.ops.length ≤ x.1 + x.2 ∧ x.2 ≤ s.ops.length ∧ cdM s i = cdGo s x.1 x.2) (fun x => s.ops.length - x.2) (s.ops.length, endsM s.ops i + 1) ?_ ?_ ?_
 ·exact ⟨by dsimp only; omega, by dsimp only; omega, rfl⟩
 ·refine le_a [] ?_ ?_
  and_intros
  all_goals first | exact le_cl | skip
 ·rintro ⟨f, j⟩ ⟨hf, hj, hc⟩
  dsimp only at hf hj hc ⊢
  rcases Nat.lt_or_ge j s.ops.length with hlt | hge
  ·obtain ⟨f, rfl⟩ : ∃ f', f = f' + 1 := ⟨f - 1, by omega⟩
   rw [cdGo] at hc
   have hjl := ends_lt W hlt
   have hjg := ends_ge W hlt
   repeat' (first | refine un_a ?_ | ((first | refine st_a (fun K hK => ?_) | refine gcall_c (fun hg => covers_sp s V hs j hlt (by simpa [opAt] using hg)) ?_); and_intros; (all_goals first | (refine hK _ ?_; clear hK K) | exact auto_cl | skip)) | (refine if_a (fun hb => ?_) (fun hb => ?_); all_goals try exact bad_a) | (refine ret_a ?_; (try clear hB KB); (try clear hK K)))
   ·refine vb ?_
    rw [hc, opAt, decide_eq_true hlt, decide_eq_false (‹_ ∧ ¬ _ = (3 : Int)›).2, decide_eq_true hb.1, hb.2]; rfl
   ·rw [thenQ_normal]
    have hk3 := (‹_ ∧ ¬ _ = (3 : Int)›).2
    refine wk_loop (f, endsM s.ops j + 1) ?_ ⟨by dsimp only; omega, by dsimp only; omega, ?_⟩ (by dsimp only; omega)
    ·refine le_a [] ?_ ?_
     and_intros
     all_goals first | exact le_cl | skip
    ·dsimp only
     rw [hc, opAt, decide_eq_true hlt, decide_eq_false hk3]
     have e : (decide ((s.ops.getD j default).kind = 1) && cvM s j) = false := by
      by_cases h : (s.ops.getD j default).kind = 1
      ·rw [hb h, Bool.and_false]
      ·rw [decide_eq_false h]; rfl
     rw [e]; rfl
   ·refine vb ?_
    rw [hc, opAt, decide_eq_true (hb (by omega)), Bool.not_true, Bool.and_false]; rfl
  ·have he : j = s.ops.length := by omega
   subst he
   have hc2 : cdM s i = false := by
    rw [hc]
    cases f with
    | zero => rfl
    | succ f => rw [cdGo, decide_eq_false (Nat.lt_irrefl _)]; rfl
   repeat' (first | refine un_a ?_ | (refine st_a (fun K hK => ?_); and_intros; (all_goals first | (refine hK _ ?_; clear hK K) | exact auto_cl | skip)) | (refine if_a (fun hb => ?_) (fun hb => ?_); all_goals try exact bad_a) | (refine ret_a ?_; (try clear hB KB); (try clear hK K)))
   rw [hc2]
end Go.Proofs.YtlblgkelhibdoaaGreatDoor
set_option maxHeartbeats 2000000
set_option maxRecDepth 16000
namespace Go.Proofs.YtlblgkelhibdoaaGreatDoor
open Go Go.SL
open Go.RowKit (wrap64)
theorem appF0 {n : Nat} {f g : Nat → Nat → PV} {sz : Nat} : PV.le (.lst sz (0 + n) (appF 0 f g)) (.lst sz n g) := by
 rw [Nat.zero_add]
 exact lst_le fun i hi j hj => by unfold appF; rw [if_neg (Nat.not_lt_zero i), Nat.sub_zero]
theorem appF0v {f g : Nat → Nat → PV} (i j : Nat) : appF 0 f g i j = g i j := by unfold appF; rw [if_neg (Nat.not_lt_zero i), Nat.sub_zero]
theorem cloneU_spec (n : Nat) (g : Nat → Nat → PV) (hn : n ≤ 1000000000) : Pure Sg 112 [.c (.p (.lst 1 n g))] (fun x => x = .b (.c (.p (.lst 1 n g)))) := by
 rcases Nat.eq_zero_or_pos n with h0 | h0
 ·subst h0
  refine pure_lst0 fun a c => ?_
  cases a with
  | none =>
   refine pure_le ?_
   refine fn_a Tryz.func112 [.tmp 2] ?_
   repeat' (first | refine un_a ?_ | (refine st_a (fun K hK => ?_); and_intros; (all_goals first | (refine hK _ ?_; clear hK K) | exact auto_cl | skip)) | (refine if_a (fun hb => ?_) (fun hb => ?_); all_goals try exact bad_a) | (refine ret_a ?_; (try clear hB KB); (try clear hK K)))
   exact sle_b (ble_c nil_le)
  | some a =>
   refine pure_le ?_
   refine fn_a Tryz.func112 [.tmp 2] ?_
   repeat' (first | refine un_a ?_ | ((with_reducible refine cw_stepV (id := 1) (fun K hW => ?_)); (try simp (maxSteps := 1000000) (disch := omega) only [go_sem]); and_intros; (all_goals first | (refine hK _ ?_; clear hK K) | exact auto_cl | skip)) | (refine st_a (fun K hK => ?_); and_intros; (all_goals first | (refine hK _ ?_; clear hK K) | exact auto_cl | skip)))
   refine hW _ (mkSt [(0, .b (.c (.p (.lst 1 0 g)))), (4, .b (B false))] [] 1) ?_ ?_
   ·refine le_a [] ?_ ?_
    and_intros
    all_goals first | exact le_cl | skip
    exact le_lst0
   clear hW
   repeat' (first | refine un_a ?_ | (refine st_a (fun K hK => ?_); and_intros; (all_goals first | (refine hK _ ?_; clear hK K) | exact auto_cl | skip)) | (refine if_a (fun hb => ?_) (fun hb => ?_); all_goals try exact bad_a) | (refine ret_a ?_; (try clear hB KB); (try clear hK K)))
   ·exact absurd hb (by decide)
   ·first | exact sle_b (ble_c appF0) | exact sle_b (ble_c lst_le0)
 ·refine pure_le ?_
  refine fn_a Tryz.func112 [.tmp 2] ?_
  repeat' (first | refine un_a ?_ | (refine st_a (fun K hK => ?_); and_intros; (all_goals first | (refine hK _ ?_; clear hK K) | exact auto_cl | skip)) | (refine if_a (fun hb => ?_) (fun hb => ?_); all_goals try exact bad_a) | (refine ret_a ?_; (try clear hB KB); (try clear hK K)))
  ·exact absurd hb (by decide)
  ·exact sle_b (ble_c appF0)
theorem cloneI_spec (n : Nat) (g : Nat → Nat → PV) (hn : n ≤ 1000000000) : Pure Sg 110 [.c (.p (.lst 1 n g))] (fun x => x = .b (.c (.p (.lst 1 n g)))) := by
 rcases Nat.eq_zero_or_pos n with h0 | h0
 ·subst h0
  refine pure_lst0 fun a c => ?_
  cases a with
  | none =>
   refine pure_le ?_
   refine fn_a Tryz.func110 [.tmp 2] ?_
   repeat' (first | refine un_a ?_ | (refine st_a (fun K hK => ?_); and_intros; (all_goals first | (refine hK _ ?_; clear hK K) | exact auto_cl | skip)) | (refine if_a (fun hb => ?_) (fun hb => ?_); all_goals try exact bad_a) | (refine ret_a ?_; (try clear hB KB); (try clear hK K)))
   exact sle_b (ble_c nil_le)
  | some a =>
   refine pure_le ?_
   refine fn_a Tryz.func110 [.tmp 2] ?_
   repeat' (first | refine un_a ?_ | ((with_reducible refine cw_stepV (id := 1) (fun K hW => ?_)); (try simp (maxSteps := 1000000) (disch := omega) only [go_sem]); and_intros; (all_goals first | (refine hK _ ?_; clear hK K) | exact auto_cl | skip)) | (refine st_a (fun K hK => ?_); and_intros; (all_goals first | (refine hK _ ?_; clear hK K) | exact auto_cl | skip)))
   refine hW _ (mkSt [(0, .b (.c (.p (.lst 1 0 g)))), (4, .b (B false))] [] 1) ?_ ?_
   ·refine le_a [] ?_ ?_
    and_intros
    all_goals first | exact le_cl | skip
    exact le_lst0
   clear hW
   repeat' (first | refine un_a ?_ | (refine st_a (fun K hK => ?_); and_intros; (all_goals first | (refine hK _ ?_; clear hK K) | exact auto_cl | skip)) | (refine if_a (fun hb => ?_) (fun hb => ?_); all_goals try exact bad_a) | (refine ret_a ?_; (try clear hB KB); (try clear hK K)))
   ·exact absurd hb (by decide)
   ·first | exact sle_b (ble_c appF0) | exact sle_b (ble_c lst_le0)
 ·refine pure_le ?_
  refine fn_a Tryz.func110 [.tmp 2] ?_
  repeat' (first | refine un_a ?_ | (refine st_a (fun K hK => ?_); and_intros; (all_goals first | (refine hK _ ?_; clear hK K) | exact auto_cl | skip)) | (refine if_a (fun hb => ?_) (fun hb => ?_); all_goals try exact bad_a) | (refine ret_a ?_; (try clear hB KB); (try clear hK K)))
  ·exact absurd hb (by decide)
  ·exact sle_b (ble_c appF0)
theorem cloneOps_own (n : Nat) (g : Nat → Nat → PV) (hn : n ≤ 1000000000) (hv : ∀ i, i < n → ∀ j, j < 12 → ∃ u, g i j = .val u) :
  PureOwn Sg 116 [.c (.p (.lst 12 n g))] 89 12 n g := by
 rcases Nat.eq_zero_or_pos n with h0 | h0
 ·subst h0
  refine own_lst0 fun a c => ?_
  cases a with
  | none =>
   refine own_nil (by decide) ?_
   refine fn_a Tryz.func116 [.tmp 2] ?_
   repeat' (first | with_reducible exact tr_a | refine un_a ?_ | (refine st_a (fun K hK => ?_); and_intros; (all_goals first | (refine hK _ ?_; clear hK K) | exact auto_cl | skip)) | (refine if_a (fun hb => ?_) (fun hb => ?_); all_goals try exact bad_a) | (refine ret_a ?_; (try clear hB KB); (try clear hK K)))
   all_goals rfl
  | some a =>
   refine own_of Tryz.func116 rfl (rs := [.tmp 2]) rfl rfl mixed (by decide +kernel) (Nat.le_of_ble_eq_true rfl) (argsLt_mem (by simp (maxSteps := 1000000) (disch := omega) only [go_sem])) ?_
   repeat' (first | refine un_a ?_ | ((with_reducible refine cw_stepV (id := 1) (fun K hW => ?_)); (try simp (maxSteps := 1000000) (disch := omega) only [go_sem]); and_intros; (all_goals first | (refine hK _ ?_; clear hK K) | exact auto_cl | skip)) | (refine st_a (fun K hK => ?_); and_intros; (all_goals first | (refine hK _ ?_; clear hK K) | exact auto_cl | skip)))
   refine hW _ (mkSt [(0, .b (.c (.p (.lst 12 0 g)))), (4, .b (B false))] [] 1) ?_ ?_
   ·refine le_a [] ?_ ?_
    and_intros
    all_goals first | exact le_cl | skip
    exact le_lst0
   clear hW
   repeat' (first | refine un_a ?_ | (refine st_a (fun K hK => ?_); and_intros; (all_goals first | (refine hK _ ?_; clear hK K) | exact auto_cl | skip)) | (refine if_a (fun hb => ?_) (fun hb => ?_); all_goals try exact bad_a) | (refine ret_a ?_; (try clear hB KB); (try clear hK K)))
   ·exact absurd hb (by decide)
   ·exact ⟨_, rfl, fun i hi => absurd hi (Nat.not_lt_zero i)⟩
 ·refine own_of Tryz.func116 rfl (rs := [.tmp 2]) rfl rfl mixed (by decide +kernel) (Nat.le_of_ble_eq_true rfl) (argsLt_mem (by simp (maxSteps := 1000000) (disch := omega) only [go_sem])) ?_
  repeat' (first | refine un_a ?_ | (refine st_a (fun K hK => ?_); and_intros; (all_goals first | (refine hK _ ?_; clear hK K) | exact auto_cl | skip)) | (refine if_a (fun hb => ?_) (fun hb => ?_); all_goals try exact bad_a) | (refine ret_a ?_; (try clear hB KB); (try clear hK K)))
  ·exact absurd hb (by decide)
  ·simp only [Nat.zero_add]
   exact ⟨_, rfl, trivial, fun i hi j hj => by
    obtain ⟨u, hu⟩ := hv i hi j hj
    exact ⟨u, by rw [appF0v]; exact hu, hu⟩⟩
theorem cloneImg_inl (bx : Nat → Option Bx) (nx n : Nat) (g : Nat → Nat → PV) (h0 : 0 < n) (hn : n ≤ 1000000000) (hw : ∀ i, nx ≤ i → bx i = none) :
  ∃ F, (∀ i j, F i j = g i j) ∧ ∃ G, InlP Sg bx nx 111 [.c (.p (.lst 28 n g))] (.b (.c (.own (nx + 1) n)))
   (bxIns (nx + 1) (.arr 71 28 n F) (bxDel nx (bxIns nx (.arr 71 28 0 G) bx))) (nx + 2) := by
 refine ⟨?F, ?hF, ?G, ?hI⟩
 case hI =>
  refine inl_of Tryz.func111 rfl (rs := [.tmp 2]) rfl rfl mixed (by decide +kernel) (Nat.le_of_ble_eq_true rfl) ?_ (fun kf => ?_)
  ·intro v hv
   simp only [List.mem_cons, List.not_mem_nil, or_false] at hv
   rcases hv with rfl
   trivial
  repeat' (first | refine un_a ?_ | (refine st_a (fun K hK => ?_); and_intros; (all_goals first | (refine hK _ ?_; clear hK K) | exact auto_cl | skip)) | (refine if_a (fun hb => ?_) (fun hb => ?_); all_goals try exact bad_a) | (refine ret_a ?_; (try clear hB KB); (try clear hK K)))
  ·exact absurd hb (by decide)
  ·refine ⟨by rw [Nat.zero_add], ?_, ?_⟩
   ·simp only [Nat.zero_add, bxf_set, bxf_setBox, bxf_newBox, bxf_delBox, nx_set, nx_newBox, nx_setBox, nx_delBox, bx_stI, nx_stI]
    rfl
   ·omega
 exact fun i j => appF0v i j
end Go.Proofs.YtlblgkelhibdoaaGreatDoor
set_option maxRecDepth 8000
set_option maxHeartbeats 2000000
namespace Go.Proofs.YtlblgkelhibdoaaGreatDoor
open Go Go.SL
section
variable {a b : List Op} (hk : ∀ j, (opAt a j).kind = (opAt b j).kind)
include hk
end
theorem opAt_set (l : List Op) (i : Nat) (o : Op) (j : Nat) : opAt (l.set i o) j = if i = j ∧ j < l.length then o else opAt l j := by
 unfold opAt
 rw [List.getD_eq_getElem?_getD, List.getD_eq_getElem?_getD, List.getElem?_set]
 by_cases h : i = j
 ·subst h
  by_cases h2 : i < l.length
  ·rw [if_pos rfl, if_pos h2, if_pos ⟨rfl, h2⟩]; rfl
  ·rw [if_pos rfl, if_neg h2, if_neg (fun q => h2 q.2), List.getElem?_eq_none (by omega)]
 ·rw [if_neg h, if_neg (fun q => h q.1)]
structure Chg (s t : Script) (n i : Nat) : Prop where
 rule : n = 5 ∨ n = 6 ∨ n = 7 ∨ n = 8
 lt : i < s.ops.length
 eq : t = withOps s (s.ops.set i (chgOp n (opAt s.ops i)))
 kids : n = 8 → kidsM s.ops i = 1
 push : n = 6 → (opAt s.ops i).kind = 2
theorem chg_at {s t : Script} {n i : Nat} (C : Chg s t n i) (j : Nat) : opAt t.ops j = if j = i then chgOp n (opAt s.ops i) else opAt s.ops j := by
 rw [C.eq]
 show opAt (s.ops.set i _) j = _
 rw [opAt_set]
 have := C.lt
 by_cases h : j = i
 ·subst h; rw [if_pos ⟨rfl, this⟩, if_pos rfl]
 ·rw [if_neg (fun q => h q.1.symm), if_neg h]
theorem chg_k {s t : Script} {n i : Nat} (C : Chg s t n i) (j : Nat) : (opAt s.ops j).kind = (opAt t.ops j).kind := by
 rw [chg_at C]
 split
 ·rename_i h; rw [chg_kind, h]
 ·rfl
theorem chg_len {s t : Script} {n i : Nat} (C : Chg s t n i) : t.ops.length = s.ops.length := by rw [C.eq]; exact List.length_set
theorem chg_iso (n : Nat) (o : Op) (h : o.isolated = true) : (chgOp n o).isolated = true := by
 unfold chgOp
 split
 ·exact h
 split
 ·rfl
 split
 ·exact h
 ·exact h
theorem chg_ko (n : Nat) (o : Op) (h : o.knockout = false) : (chgOp n o).knockout = false := by
 unfold chgOp
 split
 ·exact h
 split
 ·exact h
 split
 ·exact h
 ·rfl
theorem chg_fields {n : Nat} {o : Op} (hn : n = 5 ∨ n = 6 ∨ n = 7 ∨ n = 8) (hk : o.kind ≠ 3) (h6 : n = 6 → o.kind = 2) (h : fieldsM o = true) : fieldsM (chgOp n o) = true := by
 have kk := chg_kind n o
 have h2 := h
 rw [fieldsM, if_neg hk] at h2
 rw [fieldsM, if_neg (by rw [kk]; exact hk)]
 split at h2
 ·cases h2
 rename_i a1
 split at h2
 ·cases h2
 rename_i a2
 rw [decide_eq_true_eq] at h2
 rcases hn with rfl | rfl | rfl | rfl
 ·show (if o.kind = 1 ∧ (o.isolated = true ∨ o.knockout = true) then false else if o.kind = 2 ∧ (o.image ≠ 0 ∨ o.x ≠ 0 ∨ o.y ≠ 0) then false else decide ((0 : Int) ≠ 0 ∨ (0 : Int) = 0 ∧ (0 : Int) = 0)) = true
  rw [if_neg a1, if_neg a2]; rfl
 ·show (if o.kind = 1 ∧ (true = true ∨ o.knockout = true) then false else if o.kind = 2 ∧ (o.image ≠ 0 ∨ o.x ≠ 0 ∨ o.y ≠ 0) then false else decide (o.mask ≠ 0 ∨ o.maskX = 0 ∧ o.maskY = 0)) = true
  rw [if_neg (fun q => by rw [h6 rfl] at q; exact absurd q.1 (by decide)), if_neg a2]; exact decide_eq_true h2
 ·show (if o.kind = 1 ∧ (o.isolated = true ∨ o.knockout = true) then false else if o.kind = 2 ∧ (o.image ≠ 0 ∨ o.x ≠ 0 ∨ o.y ≠ 0) then false else decide (o.mask ≠ 0 ∨ o.maskX = 0 ∧ o.maskY = 0)) = true
  rw [if_neg a1, if_neg a2]; exact decide_eq_true h2
 ·show (if o.kind = 1 ∧ (o.isolated = true ∨ false = true) then false else if o.kind = 2 ∧ (o.image ≠ 0 ∨ o.x ≠ 0 ∨ o.y ≠ 0) then false else decide (o.mask ≠ 0 ∨ o.maskX = 0 ∧ o.maskY = 0)) = true
  rw [if_neg (by rintro ⟨p, q⟩; exact a1 ⟨p, by simp at q; exact .inl q⟩), if_neg a2]; exact decide_eq_true h2
theorem ops_ok {s : Script} (V : VOps s) : (opsM s).1 = 0 := by
 rw [opsM, if_pos V.frame]
 have key : ∀ (d i : Nat), i + d = s.ops.length → (opsGo s.bits s.images.length i (s.ops.drop i) ((stk s.ops i).reverse.map (opAt s.ops))).1 = 0 := by
  intro d
  induction d with
  | zero =>
   intro i hi
   rw [List.drop_eq_nil_of_le (by omega), show i = s.ops.length by omega, V.wf.fin]
   rfl
  | succ d ih =>
   intro i hi
   rw [opsGo_step (by omega)]
   have h0 : opErr s.bits s.images.length (s.ops.getD i default) ((stk s.ops i).reverse.map (opAt s.ops)) = 0 := V.ok i (by omega)
   rw [if_pos h0]
   have e : nextOpen ((stk s.ops i).reverse.map (opAt s.ops)) (s.ops.getD i default) = (stk s.ops (i + 1)).reverse.map (opAt s.ops) := by
    rw [nextOpen, stk]
    show (if (opAt s.ops i).kind = 2 then _ ++ [opAt s.ops i] else if (opAt s.ops i).kind = 3 then _ else _) = _
    split
    ·rw [List.reverse_cons, List.map_append]; rfl
    split
    ·rw [← List.map_dropLast, List.dropLast_reverse]
    ·rfl
   rw [e]
   exact ih (i + 1) (by omega)
 exact key s.ops.length 0 (by omega)
theorem withinT {k a b c d : Int} : withinM k [a, b, c, d] = true ↔ (-k ≤ a ∧ a ≤ k) ∧ (-k ≤ b ∧ b ≤ k) ∧ (-k ≤ c ∧ c ≤ k) ∧ (-k ≤ d ∧ d ≤ k) := by
 simp only [withinM, List.all_cons, List.all_nil, Bool.and_true, Bool.and_eq_true, decide_eq_true_eq]
theorem lastD_map (l : List Nat) (f : Nat → Op) : ((l.reverse.map f).getD ((l.reverse.map f).length - 1) default) = match l with | [] => default | p :: _ => f p := by
 cases l with
 | nil => rfl
 | cons p t =>
  rw [List.reverse_cons, List.map_append, List.length_append]
  simp only [List.map_cons, List.map_nil, List.length_cons, List.length_nil]
  rw [show (List.map f t.reverse).length + (0 + 1) - 1 = (List.map f t.reverse).length by omega, List.getD_eq_getElem?_getD, List.getElem?_append_right (Nat.le_refl _), Nat.sub_self]
  rfl
theorem chg_vops {s t : Script} {n i : Nat} (C : Chg s t n i) (V : VOps s) (h3 : (opAt s.ops i).kind ≠ 3) : VOps t := by
 have hl := chg_len C
 have hst : ∀ j, stk t.ops j = stk s.ops j := fun j => (stk_kinds (chg_k C) j).symm
 have hb : t.bits = s.bits := by rw [C.eq]; rfl
 have him : t.images = s.images := by rw [C.eq]; rfl
 refine ⟨⟨fun j hj => ?_, fun j hj hk => ?_, ?_⟩, fun j hj => ?_, by rw [him]; exact V.imgs, by rw [hl]; exact V.cnt, ?_⟩
 ·rw [← chg_k C]; exact V.wf.kinds j (by omega)
 ·rw [hst]; exact V.wf.pops j (by omega) (by rw [chg_k C]; exact hk)
 ·rw [hl, hst]; exact V.wf.fin
 ·have h := opErr_zero.1 (V.ok j (by omega))
  rw [hb, him]
  refine opErr_zero.2 ?_
  have hlen : ((stk t.ops j).reverse.map (opAt t.ops)).length = ((stk s.ops j).reverse.map (opAt s.ops)).length := by rw [hst]; simp
  have hctx : ctxOk ((stk s.ops j).reverse.map (opAt s.ops)) = true → ctxOk ((stk t.ops j).reverse.map (opAt t.ops)) = true := by
   intro hc
   rw [hst]
   simp only [ctxOk, Bool.or_eq_true, Bool.and_eq_true, Bool.not_eq_true'] at hc ⊢
   rw [lastD_map] at hc ⊢
   cases hsj : stk s.ops j with
   | nil => left; rfl
   | cons p r =>
    right
    rw [hsj] at hc
    rcases hc with hc | hc
    ·simp at hc
    dsimp only at hc ⊢
    rw [chg_at C]
    split
    ·rename_i hp
     subst hp
     exact ⟨chg_iso n _ hc.1, chg_ko n _ hc.2⟩
    ·exact hc
  rw [hlen]
  by_cases hji : j = i
  ·subst hji
   rw [chg_at C, if_pos rfl]
   have hk := chg_kind n (opAt s.ops j)
   refine ⟨by rw [hk]; exact h.1, chg_fields C.rule h3 C.push h.2.1, fun q => absurd (by rw [← hk]; exact q) h3, fun _ => ?_⟩
   obtain ⟨g1, g2, g3, g4, g5, g6, g7⟩ := h.2.2.2 h3
   have hw := withinT.1 g2
   rcases C.rule with rfl | rfl | rfl | rfl
   ·refine ⟨?_, ?_, g3, g4, g5, fun q => hctx (g6 q), g7⟩
    ·show ¬ ((opAt s.ops j).kind = 1 ∧ ((opAt s.ops j).image < 0 ∨ (s.images.length : Int) ≤ (opAt s.ops j).image) ∨ (0 : Int) < 0 ∨ (s.images.length : Int) < 0)
     omega
    ·exact withinT.2 ⟨hw.1, hw.2.1, show (-1048576 : Int) ≤ 0 ∧ (0 : Int) ≤ 1048576 by decide, show (-1048576 : Int) ≤ 0 ∧ (0 : Int) ≤ 1048576 by decide⟩
   ·exact ⟨g1, g2, g3, g4, g5, fun q => hctx (g6 q), g7⟩
   ·exact ⟨g1, g2, g3, show isOp 4 = true by decide, show isOp 1 = true by decide, fun q => absurd rfl q, g7⟩
   ·exact ⟨g1, g2, g3, g4, g5, fun q => hctx (g6 q), g7⟩
  ·rw [chg_at C, if_neg hji]
   exact ⟨h.1, h.2.1, h.2.2.1, fun q => by
    obtain ⟨g1, g2, g3, g4, g5, g6, g7⟩ := h.2.2.2 q
    exact ⟨g1, g2, g3, g4, g5, fun q => hctx (g6 q), g7⟩⟩
 ·have : frameM t = frameM s := by
   rw [C.eq]
   unfold frameM withOps
   dsimp only
   rw [List.length_set]
  rw [this]; exact V.frame
end Go.Proofs.YtlblgkelhibdoaaGreatDoor
