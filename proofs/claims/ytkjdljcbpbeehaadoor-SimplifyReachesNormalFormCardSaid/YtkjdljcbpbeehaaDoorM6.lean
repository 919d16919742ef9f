/- Part 6 of the proof: EB, F24, BrS, EC. -/
import Derived.Test.YtkjdljcbpbeehaaDoorM0
import Derived.Test.YtkjdljcbpbeehaaDoorM1
import Derived.Test.YtkjdljcbpbeehaaDoorM2
import Derived.Test.YtkjdljcbpbeehaaDoorM3
import Derived.Test.YtkjdljcbpbeehaaDoorM4
import Derived.Test.YtkjdljcbpbeehaaDoorM5
/- Bias: the walk. -/
set_option linter.unusedSimpArgs false
set_option linter.unusedVariables false
set_option maxRecDepth 8000
set_option maxHeartbeats 2000000
namespace Go.Proofs.YtkjdljcbpbeehaaDoor
open Go Go.SL
open Go.RowKit (wrap64)
attribute [local go_sem] Int.toNat_natCast zerosB

def bMost (b : Int) : Int := if b = 16 then 65535 else 255
def bMid (b : Int) : Int := IntKind.u16.wrap ((bMost b).tdiv 2)
def bW (s : Script) : Int := IntKind.i64.wrap (IntKind.i64.wrap (s.canvas.x1 - s.canvas.x0) + 2)
def bH (s : Script) : Int := IntKind.i64.wrap (IntKind.i64.wrap (s.canvas.y1 - s.canvas.y0) + 1)
def bCover (s : Script) : Image := solidOf (bW s) (bH s) ⟨bMid s.bits, 0, bMost s.bits, bMost s.bits, bMost s.bits⟩
def bDot (s : Script) : Image := solidOf 1 1 ⟨0, 0, 0, 0, bMost s.bits⟩
def bImgs (s : Script) : List Image := s.images ++ [bCover s, bDot s]
def bX (s : Script) (v : Int) : Int := IntKind.i64.wrap (s.canvas.x0 - gMod (IntKind.i64.wrap (v.tdiv 16)) 3)
def bOp (s : Script) (v : Int) (o : Op) : Op :=
  if o.kind = 3 then o
  else if gMod v 16 = 0 ∨ gMod v 16 = 1 then { o with mask := (bImgs s).length - 1, maskX := bX s v, maskY := s.canvas.y0 }
  else if gMod v 16 = 2 then { o with mask := (bImgs s).length, maskX := s.canvas.x0, maskY := s.canvas.y0 }
  else if gMod v 16 = 3 ∨ gMod v 16 = 4 then (if o.kind = 1 then { o with image := (bImgs s).length - 2, x := bX s v, y := s.canvas.y0, opacity := bMost s.bits, mask := 0, maskX := 0, maskY := 0, mode := 1 } else o)
  else if gMod v 16 = 5 ∨ gMod v 16 = 6 ∨ gMod v 16 = 7 then
    (if gMod (IntKind.i64.wrap (v.tdiv 16)) 2 = 0 then { o with opacity := bMost s.bits, mask := 0, maskX := 0, maskY := 0, mode := 1, operator := 4 } else { o with opacity := bMost s.bits, mask := 0, maskX := 0, maskY := 0 })
  else if gMod v 16 = 8 then { o with opacity := 0 }
  else o
def bAt (s : Script) (l : List Int) (i : Nat) : List Op := (List.range s.ops.length).map fun a => if a < i then bOp s (l.getD a 0) (opAt s.ops a) else opAt s.ops a
def biasM (s : Script) (l : List Int) : Script := { s with images := bImgs s, ops := bAt s l l.length }
theorem img_app {l : List Image} {c d : Image} {g : Nat → Nat → PV} (h0 : ∀ j, j < 28 → PV.le (g 0 j) ((imageE c).getD j .any)) (h1 : ∀ j, j < 28 → PV.le (g 1 j) ((imageE d).getD j .any)) : ∀ a, a < l.length + 2 → ∀ j, j < 28 → PV.le (appF l.length (fnOf imageE l) g a j) (fnOf imageE (l ++ [c, d]) a j) := fun a ha j hj => by
  unfold appF
  by_cases h : a < l.length
  · rw [if_pos h]
    have e : fnOf imageE l a j = fnOf imageE (l ++ [c, d]) a j := congrArg (fun o => (imageE o).getD j .any) (show l.getD a default = (l ++ [c, d]).getD a default by rw [List.getD_eq_getElem?_getD, List.getD_eq_getElem?_getD, List.getElem?_append_left h])
    rw [e]; exact fun _ _ _ h => h
  · rw [if_neg h]
    have hv : a = l.length ∨ a = l.length + 1 := by omega
    rcases hv with rfl | rfl
    · have e : fnOf imageE (l ++ [c, d]) l.length j = (imageE c).getD j .any := congrArg (fun o => (imageE o).getD j .any) (show (l ++ [c, d]).getD l.length default = c by rw [List.getD_eq_getElem?_getD, List.getElem?_append_right (Nat.le_refl _), Nat.sub_self]; rfl)
      rw [e, Nat.sub_self]; exact h0 j hj
    · have e : fnOf imageE (l ++ [c, d]) (l.length + 1) j = (imageE d).getD j .any := congrArg (fun o => (imageE o).getD j .any) (show (l ++ [c, d]).getD (l.length + 1) default = d by rw [List.getD_eq_getElem?_getD, List.getElem?_append_right (by omega), Nat.add_sub_cancel_left]; rfl)
      rw [e, Nat.add_sub_cancel_left]; exact h1 j hj
theorem bAt_len (s : Script) (l : List Int) (i : Nat) : (bAt s l i).length = s.ops.length := by rw [bAt, List.length_map, List.length_range]
theorem bAt_at (s : Script) (l : List Int) (i : Nat) {a : Nat} (h : a < s.ops.length) : (bAt s l i).getD a default = if a < i then bOp s (l.getD a 0) (opAt s.ops a) else opAt s.ops a := by
  rw [bAt, List.getD_eq_getElem?_getD, List.getElem?_map, List.getElem?_range h]; rfl
theorem fn_bAt (s : Script) (l : List Int) (i j : Nat) {a : Nat} (h : a < s.ops.length) : fnOf opE (bAt s l i) a j = (opE (if a < i then bOp s (l.getD a 0) (opAt s.ops a) else opAt s.ops a)).getD j .any := congrArg (fun o => (opE o).getD j .any) (bAt_at s l i h)
theorem bstep (s : Script) (l : List Int) (i j : Nat) {a : Nat} (h : a < s.ops.length) : fnOf opE (bAt s l (i + 1)) a j = if a = i then (opE (bOp s (l.getD i 0) (opAt s.ops i))).getD j .any else fnOf opE (bAt s l i) a j := by
  rw [fn_bAt s l (i + 1) j h, fn_bAt s l i j h]
  by_cases e : a = i
  · rw [if_pos e, if_pos (by omega), e]
  · rw [if_neg e]
    by_cases h2 : a < i
    · rw [if_pos h2, if_pos (by omega)]
    · rw [if_neg h2, if_neg (by omega)]
theorem bAt_end (s : Script) (l : List Int) {i : Nat} (h : i = s.ops.length ∨ i = l.length) (h2 : i ≤ l.length) : bAt s l i = bAt s l l.length := by
  rcases h with h | h
  · refine List.map_congr_left fun a ha => ?_
    rw [List.mem_range] at ha
    rw [if_pos (by omega), if_pos (by omega)]
  · rw [h]
theorem bias_sp (s : Script) (l : List Int) (hs : ScriptLen s) (hl : l.length ≤ 4611686018427387904) (ho : s.ops.length ≤ 4096) (hi : s.images.length ≤ 4096) :
    Pure Sg 13 [ag (scriptE s), .c (.p (ints l))] (fun x => x = .b (ag (scriptE (biasM s l)))) := by
  have hsol := solid_spec (bW s) (bH s) ⟨bMid s.bits, 0, bMost s.bits, bMost s.bits, bMost s.bits⟩
  have hdot := solid_spec 1 1 ⟨0, 0, 0, 0, bMost s.bits⟩
  refine pure_le ?_
  refine pure_of Tryd.func13 rfl (rs := [.cell 4 32]) rfl rfl mixed (by decide +kernel) (Nat.le_of_ble_eq_true rfl) (argsLt_mem (by simp (maxSteps := 1000000) (disch := omega) only [go_sem])) ?_
  repeat' (first | refine cw_assoc ?_ | refine cw_skips ?_ | refine cw_labels ?_ | ((first | (with_reducible refine cw_stepV (id := 3) (fun K hW => ?_)) | refine cw_step (fun K hK => ?_) | refine cw_last (fun K hK => ?_) | refine cw_stepD (by decide +kernel) (by decide +kernel) (fun K hK => ?_) | refine cw_lastD (by decide +kernel) (by decide +kernel) (fun K hK => ?_) | refine rgB_some ?_); (try simp (maxSteps := 1000000) (disch := omega) only [go_sem]); (repeat' (refine And.intro ?_ ?_)); (all_goals first | (refine hK _ ?_; clear hK K) | exact auto_cl | skip)) | ((first | apply cw_ite | apply cw_iteN); (case hf => rfl); (case hc => simp (maxSteps := 1000000) (disch := omega) only [go_sem]; rfl); (all_goals first | (intro hb; (try simp only [hbs] at hb)) | skip)) | exact atN_intro | ((first | apply cw_if | apply cw_cond); (case hc => simp (maxSteps := 1000000) (disch := omega) only [go_sem]; rfl); (all_goals (intro hb; (try simp only [hbs] at hb); try (exfalso; omega)))) | (refine cw_blocks (fun KB hB => ?_)) | (refine cw_block ?_) | ((first | refine cw_exits ?_ | refine cw_exit ?_ | refine cw_skip ?_); simp (maxSteps := 1000000) (disch := omega) only [go_sem]) | (refine hB _ ?_; clear hB KB) | (refine exit_by (S := Sg) (by assumption) ?_) | ((first | refine cw_rets ?_ | refine cw_ret ?_); simp (maxSteps := 1000000) (disch := omega) only [go_sem]; (try clear hB KB); (try clear hK K)))
  refine hW _ (mkSt [(1, .b (.c (.p (ints l)))), (2, .b (.c (.ptr 0 0))), (4, .b (.c (.ptr 1 0))), (5, .b (U 255))] [(0, .fix [.p (PI s.bits), .p (PI s.canvas.x0), .p (PI s.canvas.y0), .p (PI s.canvas.x1), .p (PI s.canvas.y1), .p (PI s.tileW), .p (PI s.tileH), .p (ints s.order), .own 3 s.images.length, .own 2 s.ops.length]), (1, zerosB), (2, .arr 62 12 s.ops.length (fnOf opE s.ops)), (3, .arr 45 28 s.images.length (fnOf imageE s.images))] 4) ?_ ?_
  · refine le_of [(1, some 1), (2, some 2), (3, some 3)] rfl (by decide) rfl ?_ ?_
    all_goals simp (maxSteps := 1000000) (disch := omega) only [go_sem]
    repeat' (refine And.intro ?_ ?_)
    all_goals first | rfl | omega | exact .inl rfl | trivial | skip
  clear hW
  refine cw_assoc ?_
  refine cw_step fun K hK => ?_
  simp (maxSteps := 1000000) (disch := omega) only [go_sem]
  repeat' (refine And.intro ?_ ?_)
  all_goals first | (refine hK _ ?_; clear hK K) | exact auto_cl | skip
  refine cw_ifM (t := (s.bits == 16)) (mkSt [(1, .b (.c (.p (ints l)))), (2, .b (.c (.ptr 0 0))), (4, .b (.c (.ptr 1 0))), (5, .b (U (bMost s.bits)))] [(0, .fix [.p (PI s.bits), .p (PI s.canvas.x0), .p (PI s.canvas.y0), .p (PI s.canvas.x1), .p (PI s.canvas.y1), .p (PI s.tileW), .p (PI s.tileH), .p (ints s.order), .own 3 s.images.length, .own 2 s.ops.length]), (1, zerosB), (2, .arr 62 12 s.ops.length (fnOf opE s.ops)), (3, .arr 45 28 s.images.length (fnOf imageE s.images))] 4) ?_ ?_ ?_ ?_
  · simp (maxSteps := 1000000) (disch := omega) only [go_sem]
  · intro hb
    rw [beq_iff_eq] at hb
    rw [show bMost s.bits = 65535 from if_pos hb]
    repeat' (first | refine cw_assoc ?_ | refine cw_skips ?_ | refine cw_labels ?_ | ((first | refine cw_step (fun K hK => ?_) | refine cw_last (fun K hK => ?_) | refine cw_stepD (by decide +kernel) (by decide +kernel) (fun K hK => ?_) | refine cw_lastD (by decide +kernel) (by decide +kernel) (fun K hK => ?_) | refine rgB_some ?_); (try simp (maxSteps := 1000000) (disch := omega) only [go_sem]); (repeat' (refine And.intro ?_ ?_)); (all_goals first | (refine hK _ ?_; clear hK K) | exact auto_cl | skip)) | ((first | apply cw_ite | apply cw_iteN); (case hf => rfl); (case hc => simp (maxSteps := 1000000) (disch := omega) only [go_sem]; rfl); (all_goals first | (intro hb; (try simp only [hbs] at hb)) | skip)) | exact atN_intro | ((first | apply cw_if | apply cw_cond); (case hc => simp (maxSteps := 1000000) (disch := omega) only [go_sem]; rfl); (all_goals (intro hb; (try simp only [hbs] at hb); try (exfalso; omega)))) | (refine cw_blocks (fun KB hB => ?_)) | (refine cw_block ?_) | ((first | refine cw_exits ?_ | refine cw_exit ?_ | refine cw_skip ?_); simp (maxSteps := 1000000) (disch := omega) only [go_sem]) | (refine hB _ ?_; clear hB KB) | (refine exit_by (S := Sg) (by assumption) ?_) | ((first | refine cw_rets ?_ | refine cw_ret ?_); simp (maxSteps := 1000000) (disch := omega) only [go_sem]; (try clear hB KB); (try clear hK K)))
    rw [thenQ_normal]
    refine ⟨_, ?_, rfl⟩
    refine le_of [(1, some 1), (2, some 2), (3, some 3)] rfl (by decide) rfl ?_ ?_
    all_goals simp (maxSteps := 1000000) (disch := omega) only [go_sem]
    repeat' (refine And.intro ?_ ?_)
    all_goals first | rfl | omega | exact .inl rfl | trivial | skip
  · intro hb
    rw [beq_eq_false_iff_ne] at hb
    rw [show bMost s.bits = 255 from if_neg hb]
    repeat' (first | refine cw_assoc ?_ | refine cw_skips ?_ | refine cw_labels ?_ | ((first | refine cw_step (fun K hK => ?_) | refine cw_last (fun K hK => ?_) | refine cw_stepD (by decide +kernel) (by decide +kernel) (fun K hK => ?_) | refine cw_lastD (by decide +kernel) (by decide +kernel) (fun K hK => ?_) | refine rgB_some ?_); (try simp (maxSteps := 1000000) (disch := omega) only [go_sem]); (repeat' (refine And.intro ?_ ?_)); (all_goals first | (refine hK _ ?_; clear hK K) | exact auto_cl | skip)) | ((first | apply cw_ite | apply cw_iteN); (case hf => rfl); (case hc => simp (maxSteps := 1000000) (disch := omega) only [go_sem]; rfl); (all_goals first | (intro hb; (try simp only [hbs] at hb)) | skip)) | exact atN_intro | ((first | apply cw_if | apply cw_cond); (case hc => simp (maxSteps := 1000000) (disch := omega) only [go_sem]; rfl); (all_goals (intro hb; (try simp only [hbs] at hb); try (exfalso; omega)))) | (refine cw_blocks (fun KB hB => ?_)) | (refine cw_block ?_) | ((first | refine cw_exits ?_ | refine cw_exit ?_ | refine cw_skip ?_); simp (maxSteps := 1000000) (disch := omega) only [go_sem]) | (refine hB _ ?_; clear hB KB) | (refine exit_by (S := Sg) (by assumption) ?_) | ((first | refine cw_rets ?_ | refine cw_ret ?_); simp (maxSteps := 1000000) (disch := omega) only [go_sem]; (try clear hB KB); (try clear hK K)))
    refine ⟨_, ?_, rfl⟩
    refine le_of [(1, some 1), (2, some 2), (3, some 3)] rfl (by decide) rfl ?_ ?_
    all_goals simp (maxSteps := 1000000) (disch := omega) only [go_sem]
    repeat' (refine And.intro ?_ ?_)
    all_goals first | rfl | omega | exact .inl rfl | trivial | skip
  repeat' (first | refine cw_assoc ?_ | refine cw_skips ?_ | refine cw_labels ?_ | ((first | (with_reducible refine cw_stepV (id := 7) (fun K hW => ?_)) | refine cw_step (fun K hK => ?_) | refine cw_last (fun K hK => ?_) | refine cw_stepD (by decide +kernel) (by decide +kernel) (fun K hK => ?_) | refine cw_lastD (by decide +kernel) (by decide +kernel) (fun K hK => ?_) | refine rgB_some ?_ | refine call_a (hsol) ?_ | refine gcall_a (fun hg => hsol) ?_); (try simp (maxSteps := 1000000) (disch := omega) only [go_sem]); (repeat' (refine And.intro ?_ ?_)); (all_goals first | (refine hK _ ?_; clear hK K) | exact auto_cl | skip)) | ((first | apply cw_ite | apply cw_iteN); (case hf => rfl); (case hc => simp (maxSteps := 1000000) (disch := omega) only [go_sem]; rfl); (all_goals first | (intro hb; (try simp only [hbs] at hb)) | skip)) | exact atN_intro | ((first | apply cw_if | apply cw_cond); (case hc => simp (maxSteps := 1000000) (disch := omega) only [go_sem]; rfl); (all_goals (intro hb; (try simp only [hbs] at hb); try (exfalso; omega)))) | (refine cw_blocks (fun KB hB => ?_)) | (refine cw_block ?_) | ((first | refine cw_exits ?_ | refine cw_exit ?_ | refine cw_skip ?_); simp (maxSteps := 1000000) (disch := omega) only [go_sem]) | (refine hB _ ?_; clear hB KB) | (refine exit_by (S := Sg) (by assumption) ?_) | ((first | refine cw_rets ?_ | refine cw_ret ?_); simp (maxSteps := 1000000) (disch := omega) only [go_sem]; (try clear hB KB); (try clear hK K)))
  refine hW _ (mkSt [(1, .b (.c (.p (ints l)))), (2, .b (.c (.ptr 0 0))), (4, .b (.c (.ptr 1 0))), (5, .b (U (bMost s.bits))), (8, .b (.c (.ptr 4 0)))] [(0, .fix [.p (PI s.bits), .p (PI s.canvas.x0), .p (PI s.canvas.y0), .p (PI s.canvas.x1), .p (PI s.canvas.y1), .p (PI s.tileW), .p (PI s.tileH), .p (ints s.order), .own 3 s.images.length, .own 2 s.ops.length]), (1, zerosB), (2, .arr 62 12 s.ops.length (fnOf opE s.ops)), (3, .arr 45 28 s.images.length (fnOf imageE s.images)), (4, .fix ((imageE (bCover s)).map CV.p))] 5) ?_ ?_
  · refine le_of [(1, some 1), (2, some 2), (3, some 3), (4, some 4)] rfl (by decide) rfl ?_ ?_
    all_goals simp (maxSteps := 1000000) (disch := omega) only [go_sem]
    repeat' (refine And.intro ?_ ?_)
    all_goals first | rfl | omega | exact .inl rfl | trivial | skip
  clear hW
  refine cw_stepR (id := 8) (.br 0 (.br 3 (.br 4 (.br 1 (.br 2 (.br 5 (.br 6 (.br 7 (.br 8 (.br 9 .leaf .nil) .nil) .nil) .nil) .nil) (.br 5 (.br 2 (.br 6 (.br 7 (.br 8 (.br 9 .leaf .nil) .nil) .nil) .nil) .nil) .nil)) (.br 2 (.br 1 (.br 5 (.br 6 (.br 7 (.br 8 (.br 9 .leaf .nil) .nil) .nil) .nil) .nil) (.br 5 (.br 1 (.br 6 (.br 7 (.br 8 (.br 9 .leaf .nil) .nil) .nil) .nil) .nil) .nil)) (.br 5 (.br 1 (.br 2 (.br 6 (.br 7 (.br 8 (.br 9 .leaf .nil) .nil) .nil) .nil) .nil) .nil) .nil))) .nil) .nil) .nil) (by decide +kernel) (by (focus (refine And.intro (fun iw hiw => by ((try simp (maxSteps := 1000000) (disch := omega) only [go_sem] at hiw ⊢); (repeat (first | rfl | exact if_neg (by omega) | rw [if_neg (by omega)])); done)) (by first | exact Nat.zero_le _ | (simp (maxSteps := 1000000) (disch := omega) only [go_sem]; done) | (simp (maxSteps := 1000000) (disch := omega) only [go_sem]; omega) | decide)))) (fun K0 hW => ?_)
  refine (fun (tl : ∀ st, Le st (mkSt [(1, .b (.c (.p (ints l)))), (2, .b (.c (.ptr 0 0))), (4, .b (.c (.ptr 1 0))), (5, .b (U (bMost s.bits)))] [(0, .fix [.p (PI s.bits), .p (PI s.canvas.x0), .p (PI s.canvas.y0), .p (PI s.canvas.x1), .p (PI s.canvas.y1), .p (PI s.tileW), .p (PI s.tileH), .p (ints s.order), .own 3 (s.images.length + 2), .own 2 s.ops.length]), (1, zerosB), (2, .arr 62 12 s.ops.length (fnOf opE s.ops)), (3, .arr 45 28 (s.images.length + 2) (fnOf imageE (bImgs s)))] 4) → K0 st) => ?_) (fun st hl => hW st _ hl ?_)
  · clear hW
    repeat' (first | exact tree_nil | (refine tree_br (fun K' hK' => ?_) ?_) | (refine tree_leaf (tl _ ?_); clear tl) | ((first | refine call_a (hdot) ?_ | refine gcall_a (fun hg => hdot) ?_); (try simp (maxSteps := 1000000) (disch := omega) only [go_sem]); (repeat' (refine And.intro ?_ ?_)); (all_goals first | (refine hK' _ ?_; clear hK' K') | trivial | omega | exact Nat.le_of_ble_eq_true rfl | exact auto_cl | skip)) | (simp (maxSteps := 1000000) (disch := omega) only [go_sem]; (repeat' (refine And.intro ?_ ?_)); (all_goals first | (refine hK' _ ?_; clear hK' K') | trivial | omega | exact Nat.le_of_ble_eq_true rfl | exact auto_cl | skip)))
    all_goals
      refine le_of [(1, some 1), (2, some 2), (3, some 6)] rfl (by decide) rfl ?_ ?_
      all_goals simp (maxSteps := 1000000) (disch := omega) only [go_sem]
      repeat' (refine And.intro ?_ ?_)
      all_goals first | rfl | omega | exact .inl rfl | trivial | skip
    all_goals
      refine .inr (img_app (fun j hj => ?_) (fun j hj => ?_))
      · skip
        have hivl : j = 0 ∨ j = 1 ∨ j = 2 ∨ j = 3 ∨ j = 4 ∨ j = 5 ∨ j = 6 ∨ j = 7 ∨ j = 8 ∨ j = 9 ∨ j = 10 ∨ j = 11 ∨ j = 12 ∨ j = 13 ∨ j = 14 ∨ j = 15 ∨ j = 16 ∨ j = 17 ∨ j = 18 ∨ j = 19 ∨ j = 20 ∨ j = 21 ∨ j = 22 ∨ j = 23 ∨ j = 24 ∨ j = 25 ∨ j = 26 ∨ j = 27 := by omega
        rcases hivl with rfl | rfl | rfl | rfl | rfl | rfl | rfl | rfl | rfl | rfl | rfl | rfl | rfl | rfl | rfl | rfl | rfl | rfl | rfl | rfl | rfl | rfl | rfl | rfl | rfl | rfl | rfl | rfl <;> (first | exact fun _ _ _ h => h | exact nil_le)
      · skip
        have hivl : j = 0 ∨ j = 1 ∨ j = 2 ∨ j = 3 ∨ j = 4 ∨ j = 5 ∨ j = 6 ∨ j = 7 ∨ j = 8 ∨ j = 9 ∨ j = 10 ∨ j = 11 ∨ j = 12 ∨ j = 13 ∨ j = 14 ∨ j = 15 ∨ j = 16 ∨ j = 17 ∨ j = 18 ∨ j = 19 ∨ j = 20 ∨ j = 21 ∨ j = 22 ∨ j = 23 ∨ j = 24 ∨ j = 25 ∨ j = 26 ∨ j = 27 := by omega
        rcases hivl with rfl | rfl | rfl | rfl | rfl | rfl | rfl | rfl | rfl | rfl | rfl | rfl | rfl | rfl | rfl | rfl | rfl | rfl | rfl | rfl | rfl | rfl | rfl | rfl | rfl | rfl | rfl | rfl <;> (first | exact fun _ _ _ h => h | exact nil_le)
  clear hW
  repeat' (first | refine cw_assoc ?_ | refine cw_skips ?_ | refine cw_labels ?_ | ((first | refine cw_step (fun K hK => ?_) | refine cw_last (fun K hK => ?_) | refine cw_stepD (by decide +kernel) (by decide +kernel) (fun K hK => ?_) | refine cw_lastD (by decide +kernel) (by decide +kernel) (fun K hK => ?_) | refine rgB_some ?_); (try simp (maxSteps := 1000000) (disch := omega) only [go_sem]); (repeat' (refine And.intro ?_ ?_)); (all_goals first | (refine hK _ ?_; clear hK K) | exact auto_cl | skip)) | ((first | apply cw_ite | apply cw_iteN); (case hf => rfl); (case hc => simp (maxSteps := 1000000) (disch := omega) only [go_sem]; rfl); (all_goals first | (intro hb; (try simp only [hbs] at hb)) | skip)) | exact atN_intro | ((first | apply cw_if | apply cw_cond); (case hc => simp (maxSteps := 1000000) (disch := omega) only [go_sem]; rfl); (all_goals (intro hb; (try simp only [hbs] at hb); try (exfalso; omega)))) | (refine cw_blocks (fun KB hB => ?_)) | (refine cw_block ?_) | ((first | refine cw_exits ?_ | refine cw_exit ?_ | refine cw_skip ?_); simp (maxSteps := 1000000) (disch := omega) only [go_sem]) | (refine hB _ ?_; clear hB KB) | (refine exit_by (S := Sg) (by assumption) ?_) | ((first | refine cw_rets ?_ | refine cw_ret ?_); simp (maxSteps := 1000000) (disch := omega) only [go_sem]; (try clear hB KB); (try clear hK K)))
  refine cw_loop (X := Nat) (fun i => mkSt [(1, .b (.c (.p (ints l)))), (2, .b (.c (.ptr 0 0))), (4, .b (.c (.ptr 1 0))), (5, .b (U (bMost s.bits))), (9, .b (I (s.images.length + 2))), (10, .b (I i))] [(0, .fix [.p (PI s.bits), .p (PI s.canvas.x0), .p (PI s.canvas.y0), .p (PI s.canvas.x1), .p (PI s.canvas.y1), .p (PI s.tileW), .p (PI s.tileH), .p (ints s.order), .own 3 (s.images.length + 2), .own 2 s.ops.length]), (1, zerosB), (2, .arr 62 12 s.ops.length (fnOf opE (bAt s l i))), (3, .arr 45 28 (s.images.length + 2) (fnOf imageE (bImgs s)))] 4)
    (fun i => i ≤ s.ops.length ∧ i ≤ l.length) (fun i => s.ops.length - i) 0 ?_ ?_ ?_
  · exact ⟨Nat.zero_le _, Nat.zero_le _⟩
  · refine le_of [(1, some 1), (2, some 2), (3, some 3)] rfl (by decide) rfl ?_ ?_
    all_goals simp (maxSteps := 1000000) (disch := omega) only [go_sem]
    repeat' (refine And.intro ?_ ?_)
    all_goals first | rfl | omega | exact .inl rfl | trivial | skip
    refine .inr fun a ha j hj => ?_
    show PV.le (fnOf opE s.ops a j) (fnOf opE (bAt s l 0) a j)
    rw [fn_bAt s l 0 j ha, if_neg (Nat.not_lt_zero a)]
    exact fun _ _ _ h => h
  · rintro i ⟨hi1, hi2⟩
    have hend : ∀ i, (i = s.ops.length ∨ i = l.length) → i ≤ l.length → bAt s l i = bAt s l l.length := fun i h h2 => bAt_end s l h h2
    rcases Nat.lt_or_ge i s.ops.length with hlt | hge
    · rcases Nat.lt_or_ge i l.length with hll | hgl
      · have hoi : (bAt s l i).getD i default = opAt s.ops i := by rw [bAt_at s l i hlt, if_neg (Nat.lt_irrefl i)]
        have hbl : (bImgs s).length = s.images.length + 2 := by rw [bImgs, List.length_append]; rfl
        by_cases hk3 : (opAt s.ops i).kind = 3
        · have hq : (((bAt s l i).getD i default).kind == 3) = true := by rw [hoi]; exact beq_iff_eq.2 hk3
          have hop : bOp s (l.getD i 0) (opAt s.ops i) = opAt s.ops i := if_pos hk3
          repeat' (first | ((first | apply cw_ifT | apply cw_condT); (case hc => simp (maxSteps := 1000000) (disch := omega) only [go_sem]; rfl); (case ht => (simp only [Int.toNat_natCast, Int.reduceBEq, Int.reduceBNe, Int.reduceLT, Int.reduceLE, decide_true, decide_false, Bool.not_true, Bool.not_false, Bool.and_true, Bool.true_and, Bool.and_false, Bool.false_and, Bool.or_true, Bool.true_or, Bool.or_false, Bool.false_or, hq]; done))) | ((first | apply cw_ifF | apply cw_condF); (case hc => simp (maxSteps := 1000000) (disch := omega) only [go_sem]; rfl); (case ht => (simp only [Int.toNat_natCast, Int.reduceBEq, Int.reduceBNe, Int.reduceLT, Int.reduceLE, decide_true, decide_false, Bool.not_true, Bool.not_false, Bool.and_true, Bool.true_and, Bool.and_false, Bool.false_and, Bool.or_true, Bool.true_or, Bool.or_false, Bool.false_or, hq]; done))) | refine cw_assoc ?_ | refine cw_skips ?_ | refine cw_labels ?_ | ((first | refine cw_step (fun K hK => ?_) | refine cw_last (fun K hK => ?_) | refine cw_stepD (by decide +kernel) (by decide +kernel) (fun K hK => ?_) | refine cw_lastD (by decide +kernel) (by decide +kernel) (fun K hK => ?_) | refine rgB_some ?_ | refine call_a (mod_spec (l.getD i 0) 16 (by omega)) ?_ | refine gcall_a (fun hg => mod_spec (l.getD i 0) 16 (by omega)) ?_ | refine call_a (mod_spec (IntKind.i64.wrap ((l.getD i 0).tdiv 16)) 3 (by omega)) ?_ | refine gcall_a (fun hg => mod_spec (IntKind.i64.wrap ((l.getD i 0).tdiv 16)) 3 (by omega)) ?_ | refine call_a (mod_spec (IntKind.i64.wrap ((l.getD i 0).tdiv 16)) 2 (by omega)) ?_ | refine gcall_a (fun hg => mod_spec (IntKind.i64.wrap ((l.getD i 0).tdiv 16)) 2 (by omega)) ?_); (try simp (maxSteps := 1000000) (disch := omega) only [go_sem]); (repeat' (refine And.intro ?_ ?_)); (all_goals first | (refine hK _ ?_; clear hK K) | exact auto_cl | skip)) | ((first | apply cw_ite | apply cw_iteN); (case hf => rfl); (case hc => simp (maxSteps := 1000000) (disch := omega) only [go_sem]; rfl); (all_goals first | (intro hb; (try simp only [hbs] at hb)) | skip)) | exact atN_intro | ((first | apply cw_if | apply cw_cond); (case hc => simp (maxSteps := 1000000) (disch := omega) only [go_sem]; rfl); (all_goals (intro hb; (try simp only [hbs] at hb); try (exfalso; omega)))) | (refine cw_blocks (fun KB hB => ?_)) | (refine cw_block ?_) | ((first | refine cw_exits ?_ | refine cw_exit ?_ | refine cw_skip ?_); simp (maxSteps := 1000000) (disch := omega) only [go_sem]) | (refine hB _ ?_; clear hB KB) | (refine exit_by (S := Sg) (by assumption) ?_) | ((first | refine cw_rets ?_ | refine cw_ret ?_); simp (maxSteps := 1000000) (disch := omega) only [go_sem]; (try clear hB KB); (try clear hK K)))
          rw [thenQ_normal]
          refine wk_loop (i + 1) ?_ ⟨by omega, by omega⟩ (by omega)
          refine le_of [(1, some 1), (2, some 2), (3, some 3)] rfl (by decide) rfl ?_ ?_
          all_goals simp (maxSteps := 1000000) (disch := omega) only [go_sem]
          repeat' (refine And.intro ?_ ?_)
          all_goals first | rfl | omega | exact .inl rfl | trivial | skip
          refine .inr fun a ha j hj => ?_
          show PV.le _ (fnOf opE (bAt s l (i + 1)) a j)
          rw [bstep s l i j ha]
          by_cases e : a = i
          · rw [if_pos e, hop]
            simp only [e, hoi]
            have hivl : j = 0 ∨ j = 1 ∨ j = 2 ∨ j = 3 ∨ j = 4 ∨ j = 5 ∨ j = 6 ∨ j = 7 ∨ j = 8 ∨ j = 9 ∨ j = 10 ∨ j = 11 := by omega
            rcases hivl with rfl | rfl | rfl | rfl | rfl | rfl | rfl | rfl | rfl | rfl | rfl | rfl <;> exact fun _ _ _ h => h
          · rw [if_neg e]; exact fun _ _ _ h => h
        have hq : (((bAt s l i).getD i default).kind == 3) = false := by rw [hoi]; exact beq_eq_false_iff_ne.2 hk3
        have hbi : ((bImgs s).length : Int) = (s.images.length : Int) + 2 := by rw [hbl]; rfl
        have hv : gMod (l.getD i 0) 16 = 0 ∨ gMod (l.getD i 0) 16 = 1 ∨ gMod (l.getD i 0) 16 = 2 ∨ gMod (l.getD i 0) 16 = 3 ∨ gMod (l.getD i 0) 16 = 4 ∨ gMod (l.getD i 0) 16 = 5 ∨ gMod (l.getD i 0) 16 = 6 ∨ gMod (l.getD i 0) 16 = 7 ∨ gMod (l.getD i 0) 16 = 8 ∨
            (gMod (l.getD i 0) 16 ≠ 0 ∧ gMod (l.getD i 0) 16 ≠ 1 ∧ gMod (l.getD i 0) 16 ≠ 2 ∧ gMod (l.getD i 0) 16 ≠ 3 ∧ gMod (l.getD i 0) 16 ≠ 4 ∧ gMod (l.getD i 0) 16 ≠ 5 ∧ gMod (l.getD i 0) 16 ≠ 6 ∧ gMod (l.getD i 0) 16 ≠ 7 ∧ gMod (l.getD i 0) 16 ≠ 8) := by omega
        rcases hv with hm | hm | hm | hm | hm | hm | hm | hm | hm | ⟨n0, n1, n2, n3, n4, n5, n6, n7, n8⟩
        · have hop := show bOp s (l.getD i 0) (opAt s.ops i) = _ from (if_neg hk3).trans (if_pos (by omega))
          rw [hbi] at hop
          repeat' (first | ((first | apply cw_ifT | apply cw_condT); (case hc => simp (maxSteps := 1000000) (disch := omega) only [go_sem]; rfl); (case ht => (simp only [Int.toNat_natCast, Int.reduceBEq, Int.reduceBNe, Int.reduceLT, Int.reduceLE, decide_true, decide_false, Bool.not_true, Bool.not_false, Bool.and_true, Bool.true_and, Bool.and_false, Bool.false_and, Bool.or_true, Bool.true_or, Bool.or_false, Bool.false_or, hq, hm]; done))) | ((first | apply cw_ifF | apply cw_condF); (case hc => simp (maxSteps := 1000000) (disch := omega) only [go_sem]; rfl); (case ht => (simp only [Int.toNat_natCast, Int.reduceBEq, Int.reduceBNe, Int.reduceLT, Int.reduceLE, decide_true, decide_false, Bool.not_true, Bool.not_false, Bool.and_true, Bool.true_and, Bool.and_false, Bool.false_and, Bool.or_true, Bool.true_or, Bool.or_false, Bool.false_or, hq, hm]; done))) | ((first | ((with_reducible refine cw_stepDK (id := 18) [(93, 4), (97, 3), (103, 4), (105, 8), (106, 8), (107, 8)] (by decide +kernel) (by decide +kernel) ?_ (fun K hK => ?_)); (focus (refine And.intro (fun iw hiw => by ((try simp (maxSteps := 1000000) (disch := omega) only [go_sem] at hiw ⊢); (repeat (first | rfl | exact if_neg (by omega) | rw [if_neg (by omega)])); done)) (by first | exact Nat.zero_le _ | (simp (maxSteps := 1000000) (disch := omega) only [go_sem]; done) | (simp (maxSteps := 1000000) (disch := omega) only [go_sem]; omega) | decide)))) | ((with_reducible refine cw_lastDK (id := 18) [(93, 4), (97, 3), (103, 4), (105, 8), (106, 8), (107, 8)] (by decide +kernel) (by decide +kernel) ?_ (fun K hK => ?_)); (focus (refine And.intro (fun iw hiw => by ((try simp (maxSteps := 1000000) (disch := omega) only [go_sem] at hiw ⊢); (repeat (first | rfl | exact if_neg (by omega) | rw [if_neg (by omega)])); done)) (by first | exact Nat.zero_le _ | (simp (maxSteps := 1000000) (disch := omega) only [go_sem]; done) | (simp (maxSteps := 1000000) (disch := omega) only [go_sem]; omega) | decide))))); (try simp (maxSteps := 1000000) (disch := omega) only [go_sem]); (repeat' (refine And.intro ?_ ?_)); (all_goals first | (refine hK _ (by simp (maxSteps := 1000000) (disch := omega) only [go_sem]) ?_; clear hK K) | exact auto_cl | skip)) | refine cw_assoc ?_ | refine cw_skips ?_ | refine cw_labels ?_ | ((first | refine cw_step (fun K hK => ?_) | refine cw_last (fun K hK => ?_) | refine cw_stepD (by decide +kernel) (by decide +kernel) (fun K hK => ?_) | refine cw_lastD (by decide +kernel) (by decide +kernel) (fun K hK => ?_) | refine rgB_some ?_ | refine call_a (mod_spec (l.getD i 0) 16 (by omega)) ?_ | refine gcall_a (fun hg => mod_spec (l.getD i 0) 16 (by omega)) ?_ | refine call_a (mod_spec (IntKind.i64.wrap ((l.getD i 0).tdiv 16)) 3 (by omega)) ?_ | refine gcall_a (fun hg => mod_spec (IntKind.i64.wrap ((l.getD i 0).tdiv 16)) 3 (by omega)) ?_ | refine call_a (mod_spec (IntKind.i64.wrap ((l.getD i 0).tdiv 16)) 2 (by omega)) ?_ | refine gcall_a (fun hg => mod_spec (IntKind.i64.wrap ((l.getD i 0).tdiv 16)) 2 (by omega)) ?_); (try simp (maxSteps := 1000000) (disch := omega) only [go_sem]); (repeat' (refine And.intro ?_ ?_)); (all_goals first | (refine hK _ ?_; clear hK K) | exact auto_cl | skip)) | ((first | apply cw_ite | apply cw_iteN); (case hf => rfl); (case hc => simp (maxSteps := 1000000) (disch := omega) only [go_sem]; rfl); (all_goals first | (intro hb; (try simp only [hbs] at hb)) | skip)) | exact atN_intro | ((first | apply cw_if | apply cw_cond); (case hc => simp (maxSteps := 1000000) (disch := omega) only [go_sem]; rfl); (all_goals (intro hb; (try simp only [hbs] at hb); try (exfalso; omega)))) | (refine cw_blocks (fun KB hB => ?_)) | (refine cw_block ?_) | ((first | refine cw_exits ?_ | refine cw_exit ?_ | refine cw_skip ?_); simp (maxSteps := 1000000) (disch := omega) only [go_sem]) | (refine hB _ ?_; clear hB KB) | (refine exit_by (S := Sg) (by assumption) ?_) | ((first | refine cw_rets ?_ | refine cw_ret ?_); simp (maxSteps := 1000000) (disch := omega) only [go_sem]; (try clear hB KB); (try clear hK K)))
          refine hK _ (by simp (maxSteps := 1000000) (disch := omega) only [go_sem]) ?_
          clear hK
          repeat' (first | ((first | apply cw_ifT | apply cw_condT); (case hc => simp (maxSteps := 1000000) (disch := omega) only [go_sem]; rfl); (case ht => (simp only [Int.toNat_natCast, Int.reduceBEq, Int.reduceBNe, Int.reduceLT, Int.reduceLE, decide_true, decide_false, Bool.not_true, Bool.not_false, Bool.and_true, Bool.true_and, Bool.and_false, Bool.false_and, Bool.or_true, Bool.true_or, Bool.or_false, Bool.false_or, hq, hm]; done))) | ((first | apply cw_ifF | apply cw_condF); (case hc => simp (maxSteps := 1000000) (disch := omega) only [go_sem]; rfl); (case ht => (simp only [Int.toNat_natCast, Int.reduceBEq, Int.reduceBNe, Int.reduceLT, Int.reduceLE, decide_true, decide_false, Bool.not_true, Bool.not_false, Bool.and_true, Bool.true_and, Bool.and_false, Bool.false_and, Bool.or_true, Bool.true_or, Bool.or_false, Bool.false_or, hq, hm]; done))) | refine cw_assoc ?_ | refine cw_skips ?_ | refine cw_labels ?_ | ((first | refine cw_step (fun K hK => ?_) | refine cw_last (fun K hK => ?_) | refine cw_stepD (by decide +kernel) (by decide +kernel) (fun K hK => ?_) | refine cw_lastD (by decide +kernel) (by decide +kernel) (fun K hK => ?_) | refine rgB_some ?_ | refine call_a (mod_spec (l.getD i 0) 16 (by omega)) ?_ | refine gcall_a (fun hg => mod_spec (l.getD i 0) 16 (by omega)) ?_ | refine call_a (mod_spec (IntKind.i64.wrap ((l.getD i 0).tdiv 16)) 3 (by omega)) ?_ | refine gcall_a (fun hg => mod_spec (IntKind.i64.wrap ((l.getD i 0).tdiv 16)) 3 (by omega)) ?_ | refine call_a (mod_spec (IntKind.i64.wrap ((l.getD i 0).tdiv 16)) 2 (by omega)) ?_ | refine gcall_a (fun hg => mod_spec (IntKind.i64.wrap ((l.getD i 0).tdiv 16)) 2 (by omega)) ?_); (try simp (maxSteps := 1000000) (disch := omega) only [go_sem]); (repeat' (refine And.intro ?_ ?_)); (all_goals first | (refine hK _ ?_; clear hK K) | exact auto_cl | skip)) | ((first | apply cw_ite | apply cw_iteN); (case hf => rfl); (case hc => simp (maxSteps := 1000000) (disch := omega) only [go_sem]; rfl); (all_goals first | (intro hb; (try simp only [hbs] at hb)) | skip)) | exact atN_intro | ((first | apply cw_if | apply cw_cond); (case hc => simp (maxSteps := 1000000) (disch := omega) only [go_sem]; rfl); (all_goals (intro hb; (try simp only [hbs] at hb); try (exfalso; omega)))) | (refine cw_blocks (fun KB hB => ?_)) | (refine cw_block ?_) | ((first | refine cw_exits ?_ | refine cw_exit ?_ | refine cw_skip ?_); simp (maxSteps := 1000000) (disch := omega) only [go_sem]) | (refine hB _ ?_; clear hB KB) | (refine exit_by (S := Sg) (by assumption) ?_) | ((first | refine cw_rets ?_ | refine cw_ret ?_); simp (maxSteps := 1000000) (disch := omega) only [go_sem]; (try clear hB KB); (try clear hK K)))
          rw [thenQ_normal]
          refine wk_loop (i + 1) ?_ ⟨by omega, by omega⟩ (by omega)
          refine le_of [(1, some 1), (2, some 2), (3, some 3)] rfl (by decide) rfl ?_ ?_
          all_goals simp (maxSteps := 1000000) (disch := omega) only [go_sem]
          repeat' (refine And.intro ?_ ?_)
          all_goals first | rfl | omega | exact .inl rfl | trivial | skip
          refine .inr fun a ha j hj => ?_
          show PV.le _ (fnOf opE (bAt s l (i + 1)) a j)
          rw [bstep s l i j ha]
          by_cases e : a = i
          · rw [if_pos e, if_pos e, hop]
            simp only [hoi]
            have hivl : j = 0 ∨ j = 1 ∨ j = 2 ∨ j = 3 ∨ j = 4 ∨ j = 5 ∨ j = 6 ∨ j = 7 ∨ j = 8 ∨ j = 9 ∨ j = 10 ∨ j = 11 := by omega
            rcases hivl with rfl | rfl | rfl | rfl | rfl | rfl | rfl | rfl | rfl | rfl | rfl | rfl <;> exact fun _ _ _ h => h
          · rw [if_neg e, if_neg e]; exact fun _ _ _ h => h
        · have hop := show bOp s (l.getD i 0) (opAt s.ops i) = _ from (if_neg hk3).trans (if_pos (by omega))
          rw [hbi] at hop
          repeat' (first | ((first | apply cw_ifT | apply cw_condT); (case hc => simp (maxSteps := 1000000) (disch := omega) only [go_sem]; rfl); (case ht => (simp only [Int.toNat_natCast, Int.reduceBEq, Int.reduceBNe, Int.reduceLT, Int.reduceLE, decide_true, decide_false, Bool.not_true, Bool.not_false, Bool.and_true, Bool.true_and, Bool.and_false, Bool.false_and, Bool.or_true, Bool.true_or, Bool.or_false, Bool.false_or, hq, hm]; done))) | ((first | apply cw_ifF | apply cw_condF); (case hc => simp (maxSteps := 1000000) (disch := omega) only [go_sem]; rfl); (case ht => (simp only [Int.toNat_natCast, Int.reduceBEq, Int.reduceBNe, Int.reduceLT, Int.reduceLE, decide_true, decide_false, Bool.not_true, Bool.not_false, Bool.and_true, Bool.true_and, Bool.and_false, Bool.false_and, Bool.or_true, Bool.true_or, Bool.or_false, Bool.false_or, hq, hm]; done))) | ((first | ((with_reducible refine cw_stepDK (id := 18) [(93, 4), (97, 3), (103, 4), (105, 8), (106, 8), (107, 8)] (by decide +kernel) (by decide +kernel) ?_ (fun K hK => ?_)); (focus (refine And.intro (fun iw hiw => by ((try simp (maxSteps := 1000000) (disch := omega) only [go_sem] at hiw ⊢); (repeat (first | rfl | exact if_neg (by omega) | rw [if_neg (by omega)])); done)) (by first | exact Nat.zero_le _ | (simp (maxSteps := 1000000) (disch := omega) only [go_sem]; done) | (simp (maxSteps := 1000000) (disch := omega) only [go_sem]; omega) | decide)))) | ((with_reducible refine cw_lastDK (id := 18) [(93, 4), (97, 3), (103, 4), (105, 8), (106, 8), (107, 8)] (by decide +kernel) (by decide +kernel) ?_ (fun K hK => ?_)); (focus (refine And.intro (fun iw hiw => by ((try simp (maxSteps := 1000000) (disch := omega) only [go_sem] at hiw ⊢); (repeat (first | rfl | exact if_neg (by omega) | rw [if_neg (by omega)])); done)) (by first | exact Nat.zero_le _ | (simp (maxSteps := 1000000) (disch := omega) only [go_sem]; done) | (simp (maxSteps := 1000000) (disch := omega) only [go_sem]; omega) | decide))))); (try simp (maxSteps := 1000000) (disch := omega) only [go_sem]); (repeat' (refine And.intro ?_ ?_)); (all_goals first | (refine hK _ (by simp (maxSteps := 1000000) (disch := omega) only [go_sem]) ?_; clear hK K) | exact auto_cl | skip)) | refine cw_assoc ?_ | refine cw_skips ?_ | refine cw_labels ?_ | ((first | refine cw_step (fun K hK => ?_) | refine cw_last (fun K hK => ?_) | refine cw_stepD (by decide +kernel) (by decide +kernel) (fun K hK => ?_) | refine cw_lastD (by decide +kernel) (by decide +kernel) (fun K hK => ?_) | refine rgB_some ?_ | refine call_a (mod_spec (l.getD i 0) 16 (by omega)) ?_ | refine gcall_a (fun hg => mod_spec (l.getD i 0) 16 (by omega)) ?_ | refine call_a (mod_spec (IntKind.i64.wrap ((l.getD i 0).tdiv 16)) 3 (by omega)) ?_ | refine gcall_a (fun hg => mod_spec (IntKind.i64.wrap ((l.getD i 0).tdiv 16)) 3 (by omega)) ?_ | refine call_a (mod_spec (IntKind.i64.wrap ((l.getD i 0).tdiv 16)) 2 (by omega)) ?_ | refine gcall_a (fun hg => mod_spec (IntKind.i64.wrap ((l.getD i 0).tdiv 16)) 2 (by omega)) ?_); (try simp (maxSteps := 1000000) (disch := omega) only [go_sem]); (repeat' (refine And.intro ?_ ?_)); (all_goals first | (refine hK _ ?_; clear hK K) | exact auto_cl | skip)) | ((first | apply cw_ite | apply cw_iteN); (case hf => rfl); (case hc => simp (maxSteps := 1000000) (disch := omega) only [go_sem]; rfl); (all_goals first | (intro hb; (try simp only [hbs] at hb)) | skip)) | exact atN_intro | ((first | apply cw_if | apply cw_cond); (case hc => simp (maxSteps := 1000000) (disch := omega) only [go_sem]; rfl); (all_goals (intro hb; (try simp only [hbs] at hb); try (exfalso; omega)))) | (refine cw_blocks (fun KB hB => ?_)) | (refine cw_block ?_) | ((first | refine cw_exits ?_ | refine cw_exit ?_ | refine cw_skip ?_); simp (maxSteps := 1000000) (disch := omega) only [go_sem]) | (refine hB _ ?_; clear hB KB) | (refine exit_by (S := Sg) (by assumption) ?_) | ((first | refine cw_rets ?_ | refine cw_ret ?_); simp (maxSteps := 1000000) (disch := omega) only [go_sem]; (try clear hB KB); (try clear hK K)))
          refine hK _ (by simp (maxSteps := 1000000) (disch := omega) only [go_sem]) ?_
          clear hK
          repeat' (first | ((first | apply cw_ifT | apply cw_condT); (case hc => simp (maxSteps := 1000000) (disch := omega) only [go_sem]; rfl); (case ht => (simp only [Int.toNat_natCast, Int.reduceBEq, Int.reduceBNe, Int.reduceLT, Int.reduceLE, decide_true, decide_false, Bool.not_true, Bool.not_false, Bool.and_true, Bool.true_and, Bool.and_false, Bool.false_and, Bool.or_true, Bool.true_or, Bool.or_false, Bool.false_or, hq, hm]; done))) | ((first | apply cw_ifF | apply cw_condF); (case hc => simp (maxSteps := 1000000) (disch := omega) only [go_sem]; rfl); (case ht => (simp only [Int.toNat_natCast, Int.reduceBEq, Int.reduceBNe, Int.reduceLT, Int.reduceLE, decide_true, decide_false, Bool.not_true, Bool.not_false, Bool.and_true, Bool.true_and, Bool.and_false, Bool.false_and, Bool.or_true, Bool.true_or, Bool.or_false, Bool.false_or, hq, hm]; done))) | refine cw_assoc ?_ | refine cw_skips ?_ | refine cw_labels ?_ | ((first | refine cw_step (fun K hK => ?_) | refine cw_last (fun K hK => ?_) | refine cw_stepD (by decide +kernel) (by decide +kernel) (fun K hK => ?_) | refine cw_lastD (by decide +kernel) (by decide +kernel) (fun K hK => ?_) | refine rgB_some ?_ | refine call_a (mod_spec (l.getD i 0) 16 (by omega)) ?_ | refine gcall_a (fun hg => mod_spec (l.getD i 0) 16 (by omega)) ?_ | refine call_a (mod_spec (IntKind.i64.wrap ((l.getD i 0).tdiv 16)) 3 (by omega)) ?_ | refine gcall_a (fun hg => mod_spec (IntKind.i64.wrap ((l.getD i 0).tdiv 16)) 3 (by omega)) ?_ | refine call_a (mod_spec (IntKind.i64.wrap ((l.getD i 0).tdiv 16)) 2 (by omega)) ?_ | refine gcall_a (fun hg => mod_spec (IntKind.i64.wrap ((l.getD i 0).tdiv 16)) 2 (by omega)) ?_); (try simp (maxSteps := 1000000) (disch := omega) only [go_sem]); (repeat' (refine And.intro ?_ ?_)); (all_goals first | (refine hK _ ?_; clear hK K) | exact auto_cl | skip)) | ((first | apply cw_ite | apply cw_iteN); (case hf => rfl); (case hc => simp (maxSteps := 1000000) (disch := omega) only [go_sem]; rfl); (all_goals first | (intro hb; (try simp only [hbs] at hb)) | skip)) | exact atN_intro | ((first | apply cw_if | apply cw_cond); (case hc => simp (maxSteps := 1000000) (disch := omega) only [go_sem]; rfl); (all_goals (intro hb; (try simp only [hbs] at hb); try (exfalso; omega)))) | (refine cw_blocks (fun KB hB => ?_)) | (refine cw_block ?_) | ((first | refine cw_exits ?_ | refine cw_exit ?_ | refine cw_skip ?_); simp (maxSteps := 1000000) (disch := omega) only [go_sem]) | (refine hB _ ?_; clear hB KB) | (refine exit_by (S := Sg) (by assumption) ?_) | ((first | refine cw_rets ?_ | refine cw_ret ?_); simp (maxSteps := 1000000) (disch := omega) only [go_sem]; (try clear hB KB); (try clear hK K)))
          rw [thenQ_normal]
          refine wk_loop (i + 1) ?_ ⟨by omega, by omega⟩ (by omega)
          refine le_of [(1, some 1), (2, some 2), (3, some 3)] rfl (by decide) rfl ?_ ?_
          all_goals simp (maxSteps := 1000000) (disch := omega) only [go_sem]
          repeat' (refine And.intro ?_ ?_)
          all_goals first | rfl | omega | exact .inl rfl | trivial | skip
          refine .inr fun a ha j hj => ?_
          show PV.le _ (fnOf opE (bAt s l (i + 1)) a j)
          rw [bstep s l i j ha]
          by_cases e : a = i
          · rw [if_pos e, if_pos e, hop]
            simp only [hoi]
            have hivl : j = 0 ∨ j = 1 ∨ j = 2 ∨ j = 3 ∨ j = 4 ∨ j = 5 ∨ j = 6 ∨ j = 7 ∨ j = 8 ∨ j = 9 ∨ j = 10 ∨ j = 11 := by omega
            rcases hivl with rfl | rfl | rfl | rfl | rfl | rfl | rfl | rfl | rfl | rfl | rfl | rfl <;> exact fun _ _ _ h => h
          · rw [if_neg e, if_neg e]; exact fun _ _ _ h => h
        · have hop := show bOp s (l.getD i 0) (opAt s.ops i) = _ from (if_neg hk3).trans ((if_neg (by omega)).trans (if_pos hm))
          rw [hbi] at hop
          repeat' (first | ((first | apply cw_ifT | apply cw_condT); (case hc => simp (maxSteps := 1000000) (disch := omega) only [go_sem]; rfl); (case ht => (simp only [Int.toNat_natCast, Int.reduceBEq, Int.reduceBNe, Int.reduceLT, Int.reduceLE, decide_true, decide_false, Bool.not_true, Bool.not_false, Bool.and_true, Bool.true_and, Bool.and_false, Bool.false_and, Bool.or_true, Bool.true_or, Bool.or_false, Bool.false_or, hq, hm]; done))) | ((first | apply cw_ifF | apply cw_condF); (case hc => simp (maxSteps := 1000000) (disch := omega) only [go_sem]; rfl); (case ht => (simp only [Int.toNat_natCast, Int.reduceBEq, Int.reduceBNe, Int.reduceLT, Int.reduceLE, decide_true, decide_false, Bool.not_true, Bool.not_false, Bool.and_true, Bool.true_and, Bool.and_false, Bool.false_and, Bool.or_true, Bool.true_or, Bool.or_false, Bool.false_or, hq, hm]; done))) | ((first | ((with_reducible refine cw_stepDK (id := 20) [(112, 4), (115, 4), (117, 8), (118, 8), (119, 8)] (by decide +kernel) (by decide +kernel) ?_ (fun K hK => ?_)); (focus (refine And.intro (fun iw hiw => by ((try simp (maxSteps := 1000000) (disch := omega) only [go_sem] at hiw ⊢); (repeat (first | rfl | exact if_neg (by omega) | rw [if_neg (by omega)])); done)) (by first | exact Nat.zero_le _ | (simp (maxSteps := 1000000) (disch := omega) only [go_sem]; done) | (simp (maxSteps := 1000000) (disch := omega) only [go_sem]; omega) | decide)))) | ((with_reducible refine cw_lastDK (id := 20) [(112, 4), (115, 4), (117, 8), (118, 8), (119, 8)] (by decide +kernel) (by decide +kernel) ?_ (fun K hK => ?_)); (focus (refine And.intro (fun iw hiw => by ((try simp (maxSteps := 1000000) (disch := omega) only [go_sem] at hiw ⊢); (repeat (first | rfl | exact if_neg (by omega) | rw [if_neg (by omega)])); done)) (by first | exact Nat.zero_le _ | (simp (maxSteps := 1000000) (disch := omega) only [go_sem]; done) | (simp (maxSteps := 1000000) (disch := omega) only [go_sem]; omega) | decide))))); (try simp (maxSteps := 1000000) (disch := omega) only [go_sem]); (repeat' (refine And.intro ?_ ?_)); (all_goals first | (refine hK _ (by simp (maxSteps := 1000000) (disch := omega) only [go_sem]) ?_; clear hK K) | exact auto_cl | skip)) | refine cw_assoc ?_ | refine cw_skips ?_ | refine cw_labels ?_ | ((first | refine cw_step (fun K hK => ?_) | refine cw_last (fun K hK => ?_) | refine cw_stepD (by decide +kernel) (by decide +kernel) (fun K hK => ?_) | refine cw_lastD (by decide +kernel) (by decide +kernel) (fun K hK => ?_) | refine rgB_some ?_ | refine call_a (mod_spec (l.getD i 0) 16 (by omega)) ?_ | refine gcall_a (fun hg => mod_spec (l.getD i 0) 16 (by omega)) ?_ | refine call_a (mod_spec (IntKind.i64.wrap ((l.getD i 0).tdiv 16)) 3 (by omega)) ?_ | refine gcall_a (fun hg => mod_spec (IntKind.i64.wrap ((l.getD i 0).tdiv 16)) 3 (by omega)) ?_ | refine call_a (mod_spec (IntKind.i64.wrap ((l.getD i 0).tdiv 16)) 2 (by omega)) ?_ | refine gcall_a (fun hg => mod_spec (IntKind.i64.wrap ((l.getD i 0).tdiv 16)) 2 (by omega)) ?_); (try simp (maxSteps := 1000000) (disch := omega) only [go_sem]); (repeat' (refine And.intro ?_ ?_)); (all_goals first | (refine hK _ ?_; clear hK K) | exact auto_cl | skip)) | ((first | apply cw_ite | apply cw_iteN); (case hf => rfl); (case hc => simp (maxSteps := 1000000) (disch := omega) only [go_sem]; rfl); (all_goals first | (intro hb; (try simp only [hbs] at hb)) | skip)) | exact atN_intro | ((first | apply cw_if | apply cw_cond); (case hc => simp (maxSteps := 1000000) (disch := omega) only [go_sem]; rfl); (all_goals (intro hb; (try simp only [hbs] at hb); try (exfalso; omega)))) | (refine cw_blocks (fun KB hB => ?_)) | (refine cw_block ?_) | ((first | refine cw_exits ?_ | refine cw_exit ?_ | refine cw_skip ?_); simp (maxSteps := 1000000) (disch := omega) only [go_sem]) | (refine hB _ ?_; clear hB KB) | (refine exit_by (S := Sg) (by assumption) ?_) | ((first | refine cw_rets ?_ | refine cw_ret ?_); simp (maxSteps := 1000000) (disch := omega) only [go_sem]; (try clear hB KB); (try clear hK K)))
          rw [thenQ_normal]
          refine wk_loop (i + 1) ?_ ⟨by omega, by omega⟩ (by omega)
          refine le_of [(1, some 1), (2, some 2), (3, some 3)] rfl (by decide) rfl ?_ ?_
          all_goals simp (maxSteps := 1000000) (disch := omega) only [go_sem]
          repeat' (refine And.intro ?_ ?_)
          all_goals first | rfl | omega | exact .inl rfl | trivial | skip
          refine .inr fun a ha j hj => ?_
          show PV.le _ (fnOf opE (bAt s l (i + 1)) a j)
          rw [bstep s l i j ha]
          by_cases e : a = i
          · rw [if_pos e, if_pos e, hop]
            simp only [hoi]
            have hivl : j = 0 ∨ j = 1 ∨ j = 2 ∨ j = 3 ∨ j = 4 ∨ j = 5 ∨ j = 6 ∨ j = 7 ∨ j = 8 ∨ j = 9 ∨ j = 10 ∨ j = 11 := by omega
            rcases hivl with rfl | rfl | rfl | rfl | rfl | rfl | rfl | rfl | rfl | rfl | rfl | rfl <;> exact fun _ _ _ h => h
          · rw [if_neg e, if_neg e]; exact fun _ _ _ h => h
        · by_cases hk1 : (opAt s.ops i).kind = 1
          · have hop := show bOp s (l.getD i 0) (opAt s.ops i) = _ from (if_neg hk3).trans ((if_neg (by omega)).trans ((if_neg (by omega)).trans ((if_pos (by omega)).trans (if_pos hk1))))
            rw [hbi] at hop
            have hq1 : (((bAt s l i).getD i default).kind == 1) = true := by rw [hoi]; exact beq_iff_eq.2 hk1
            repeat' (first | ((first | apply cw_ifT | apply cw_condT); (case hc => simp (maxSteps := 1000000) (disch := omega) only [go_sem]; rfl); (case ht => (simp only [Int.toNat_natCast, Int.reduceBEq, Int.reduceBNe, Int.reduceLT, Int.reduceLE, decide_true, decide_false, Bool.not_true, Bool.not_false, Bool.and_true, Bool.true_and, Bool.and_false, Bool.false_and, Bool.or_true, Bool.true_or, Bool.or_false, Bool.false_or, hq, hm, hq1]; done))) | ((first | apply cw_ifF | apply cw_condF); (case hc => simp (maxSteps := 1000000) (disch := omega) only [go_sem]; rfl); (case ht => (simp only [Int.toNat_natCast, Int.reduceBEq, Int.reduceBNe, Int.reduceLT, Int.reduceLE, decide_true, decide_false, Bool.not_true, Bool.not_false, Bool.and_true, Bool.true_and, Bool.and_false, Bool.false_and, Bool.or_true, Bool.true_or, Bool.or_false, Bool.false_or, hq, hm, hq1]; done))) | ((first | ((with_reducible refine cw_stepDK (id := 24) [(129, 4), (133, 3), (139, 4), (141, 8), (142, 8), (143, 8)] (by decide +kernel) (by decide +kernel) ?_ (fun K hK => ?_)); (focus (refine And.intro (fun iw hiw => by ((try simp (maxSteps := 1000000) (disch := omega) only [go_sem] at hiw ⊢); (repeat (first | rfl | exact if_neg (by omega) | rw [if_neg (by omega)])); done)) (by first | exact Nat.zero_le _ | (simp (maxSteps := 1000000) (disch := omega) only [go_sem]; done) | (simp (maxSteps := 1000000) (disch := omega) only [go_sem]; omega) | decide)))) | ((with_reducible refine cw_lastDK (id := 24) [(129, 4), (133, 3), (139, 4), (141, 8), (142, 8), (143, 8)] (by decide +kernel) (by decide +kernel) ?_ (fun K hK => ?_)); (focus (refine And.intro (fun iw hiw => by ((try simp (maxSteps := 1000000) (disch := omega) only [go_sem] at hiw ⊢); (repeat (first | rfl | exact if_neg (by omega) | rw [if_neg (by omega)])); done)) (by first | exact Nat.zero_le _ | (simp (maxSteps := 1000000) (disch := omega) only [go_sem]; done) | (simp (maxSteps := 1000000) (disch := omega) only [go_sem]; omega) | decide))))); (try simp (maxSteps := 1000000) (disch := omega) only [go_sem]); (repeat' (refine And.intro ?_ ?_)); (all_goals first | (refine hK _ (by simp (maxSteps := 1000000) (disch := omega) only [go_sem]) ?_; clear hK K) | exact auto_cl | skip)) | refine cw_assoc ?_ | refine cw_skips ?_ | refine cw_labels ?_ | ((first | refine cw_step (fun K hK => ?_) | refine cw_last (fun K hK => ?_) | refine cw_stepD (by decide +kernel) (by decide +kernel) (fun K hK => ?_) | refine cw_lastD (by decide +kernel) (by decide +kernel) (fun K hK => ?_) | refine rgB_some ?_ | refine call_a (mod_spec (l.getD i 0) 16 (by omega)) ?_ | refine gcall_a (fun hg => mod_spec (l.getD i 0) 16 (by omega)) ?_ | refine call_a (mod_spec (IntKind.i64.wrap ((l.getD i 0).tdiv 16)) 3 (by omega)) ?_ | refine gcall_a (fun hg => mod_spec (IntKind.i64.wrap ((l.getD i 0).tdiv 16)) 3 (by omega)) ?_ | refine call_a (mod_spec (IntKind.i64.wrap ((l.getD i 0).tdiv 16)) 2 (by omega)) ?_ | refine gcall_a (fun hg => mod_spec (IntKind.i64.wrap ((l.getD i 0).tdiv 16)) 2 (by omega)) ?_); (try simp (maxSteps := 1000000) (disch := omega) only [go_sem]); (repeat' (refine And.intro ?_ ?_)); (all_goals first | (refine hK _ ?_; clear hK K) | exact auto_cl | skip)) | ((first | apply cw_ite | apply cw_iteN); (case hf => rfl); (case hc => simp (maxSteps := 1000000) (disch := omega) only [go_sem]; rfl); (all_goals first | (intro hb; (try simp only [hbs] at hb)) | skip)) | exact atN_intro | ((first | apply cw_if | apply cw_cond); (case hc => simp (maxSteps := 1000000) (disch := omega) only [go_sem]; rfl); (all_goals (intro hb; (try simp only [hbs] at hb); try (exfalso; omega)))) | (refine cw_blocks (fun KB hB => ?_)) | (refine cw_block ?_) | ((first | refine cw_exits ?_ | refine cw_exit ?_ | refine cw_skip ?_); simp (maxSteps := 1000000) (disch := omega) only [go_sem]) | (refine hB _ ?_; clear hB KB) | (refine exit_by (S := Sg) (by assumption) ?_) | ((first | refine cw_rets ?_ | refine cw_ret ?_); simp (maxSteps := 1000000) (disch := omega) only [go_sem]; (try clear hB KB); (try clear hK K)))
            refine hK _ (by simp (maxSteps := 1000000) (disch := omega) only [go_sem]) ?_
            clear hK
            repeat' (first | ((first | apply cw_ifT | apply cw_condT); (case hc => simp (maxSteps := 1000000) (disch := omega) only [go_sem]; rfl); (case ht => (simp only [Int.toNat_natCast, Int.reduceBEq, Int.reduceBNe, Int.reduceLT, Int.reduceLE, decide_true, decide_false, Bool.not_true, Bool.not_false, Bool.and_true, Bool.true_and, Bool.and_false, Bool.false_and, Bool.or_true, Bool.true_or, Bool.or_false, Bool.false_or, hq, hm, hq1]; done))) | ((first | apply cw_ifF | apply cw_condF); (case hc => simp (maxSteps := 1000000) (disch := omega) only [go_sem]; rfl); (case ht => (simp only [Int.toNat_natCast, Int.reduceBEq, Int.reduceBNe, Int.reduceLT, Int.reduceLE, decide_true, decide_false, Bool.not_true, Bool.not_false, Bool.and_true, Bool.true_and, Bool.and_false, Bool.false_and, Bool.or_true, Bool.true_or, Bool.or_false, Bool.false_or, hq, hm, hq1]; done))) | refine cw_assoc ?_ | refine cw_skips ?_ | refine cw_labels ?_ | ((first | refine cw_step (fun K hK => ?_) | refine cw_last (fun K hK => ?_) | refine cw_stepD (by decide +kernel) (by decide +kernel) (fun K hK => ?_) | refine cw_lastD (by decide +kernel) (by decide +kernel) (fun K hK => ?_) | refine rgB_some ?_ | refine call_a (mod_spec (l.getD i 0) 16 (by omega)) ?_ | refine gcall_a (fun hg => mod_spec (l.getD i 0) 16 (by omega)) ?_ | refine call_a (mod_spec (IntKind.i64.wrap ((l.getD i 0).tdiv 16)) 3 (by omega)) ?_ | refine gcall_a (fun hg => mod_spec (IntKind.i64.wrap ((l.getD i 0).tdiv 16)) 3 (by omega)) ?_ | refine call_a (mod_spec (IntKind.i64.wrap ((l.getD i 0).tdiv 16)) 2 (by omega)) ?_ | refine gcall_a (fun hg => mod_spec (IntKind.i64.wrap ((l.getD i 0).tdiv 16)) 2 (by omega)) ?_); (try simp (maxSteps := 1000000) (disch := omega) only [go_sem]); (repeat' (refine And.intro ?_ ?_)); (all_goals first | (refine hK _ ?_; clear hK K) | exact auto_cl | skip)) | ((first | apply cw_ite | apply cw_iteN); (case hf => rfl); (case hc => simp (maxSteps := 1000000) (disch := omega) only [go_sem]; rfl); (all_goals first | (intro hb; (try simp only [hbs] at hb)) | skip)) | exact atN_intro | ((first | apply cw_if | apply cw_cond); (case hc => simp (maxSteps := 1000000) (disch := omega) only [go_sem]; rfl); (all_goals (intro hb; (try simp only [hbs] at hb); try (exfalso; omega)))) | (refine cw_blocks (fun KB hB => ?_)) | (refine cw_block ?_) | ((first | refine cw_exits ?_ | refine cw_exit ?_ | refine cw_skip ?_); simp (maxSteps := 1000000) (disch := omega) only [go_sem]) | (refine hB _ ?_; clear hB KB) | (refine exit_by (S := Sg) (by assumption) ?_) | ((first | refine cw_rets ?_ | refine cw_ret ?_); simp (maxSteps := 1000000) (disch := omega) only [go_sem]; (try clear hB KB); (try clear hK K)))
            rw [thenQ_normal]
            refine wk_loop (i + 1) ?_ ⟨by omega, by omega⟩ (by omega)
            refine le_of [(1, some 1), (2, some 2), (3, some 3)] rfl (by decide) rfl ?_ ?_
            all_goals simp (maxSteps := 1000000) (disch := omega) only [go_sem]
            repeat' (refine And.intro ?_ ?_)
            all_goals first | rfl | omega | exact .inl rfl | trivial | skip
            refine .inr fun a ha j hj => ?_
            show PV.le _ (fnOf opE (bAt s l (i + 1)) a j)
            rw [bstep s l i j ha]
            by_cases e : a = i
            · rw [if_pos e, if_pos e, hop]
              simp only [hoi]
              have hivl : j = 0 ∨ j = 1 ∨ j = 2 ∨ j = 3 ∨ j = 4 ∨ j = 5 ∨ j = 6 ∨ j = 7 ∨ j = 8 ∨ j = 9 ∨ j = 10 ∨ j = 11 := by omega
              rcases hivl with rfl | rfl | rfl | rfl | rfl | rfl | rfl | rfl | rfl | rfl | rfl | rfl <;> exact fun _ _ _ h => h
            · rw [if_neg e, if_neg e]; exact fun _ _ _ h => h
          · have hop := show bOp s (l.getD i 0) (opAt s.ops i) = _ from (if_neg hk3).trans ((if_neg (by omega)).trans ((if_neg (by omega)).trans ((if_pos (by omega)).trans (if_neg hk1))))
            have hq1 : (((bAt s l i).getD i default).kind == 1) = false := by rw [hoi]; exact beq_eq_false_iff_ne.2 hk1
            repeat' (first | ((first | apply cw_ifT | apply cw_condT); (case hc => simp (maxSteps := 1000000) (disch := omega) only [go_sem]; rfl); (case ht => (simp only [Int.toNat_natCast, Int.reduceBEq, Int.reduceBNe, Int.reduceLT, Int.reduceLE, decide_true, decide_false, Bool.not_true, Bool.not_false, Bool.and_true, Bool.true_and, Bool.and_false, Bool.false_and, Bool.or_true, Bool.true_or, Bool.or_false, Bool.false_or, hq, hm, hq1]; done))) | ((first | apply cw_ifF | apply cw_condF); (case hc => simp (maxSteps := 1000000) (disch := omega) only [go_sem]; rfl); (case ht => (simp only [Int.toNat_natCast, Int.reduceBEq, Int.reduceBNe, Int.reduceLT, Int.reduceLE, decide_true, decide_false, Bool.not_true, Bool.not_false, Bool.and_true, Bool.true_and, Bool.and_false, Bool.false_and, Bool.or_true, Bool.true_or, Bool.or_false, Bool.false_or, hq, hm, hq1]; done))) | refine cw_assoc ?_ | refine cw_skips ?_ | refine cw_labels ?_ | ((first | refine cw_step (fun K hK => ?_) | refine cw_last (fun K hK => ?_) | refine cw_stepD (by decide +kernel) (by decide +kernel) (fun K hK => ?_) | refine cw_lastD (by decide +kernel) (by decide +kernel) (fun K hK => ?_) | refine rgB_some ?_ | refine call_a (mod_spec (l.getD i 0) 16 (by omega)) ?_ | refine gcall_a (fun hg => mod_spec (l.getD i 0) 16 (by omega)) ?_ | refine call_a (mod_spec (IntKind.i64.wrap ((l.getD i 0).tdiv 16)) 3 (by omega)) ?_ | refine gcall_a (fun hg => mod_spec (IntKind.i64.wrap ((l.getD i 0).tdiv 16)) 3 (by omega)) ?_ | refine call_a (mod_spec (IntKind.i64.wrap ((l.getD i 0).tdiv 16)) 2 (by omega)) ?_ | refine gcall_a (fun hg => mod_spec (IntKind.i64.wrap ((l.getD i 0).tdiv 16)) 2 (by omega)) ?_); (try simp (maxSteps := 1000000) (disch := omega) only [go_sem]); (repeat' (refine And.intro ?_ ?_)); (all_goals first | (refine hK _ ?_; clear hK K) | exact auto_cl | skip)) | ((first | apply cw_ite | apply cw_iteN); (case hf => rfl); (case hc => simp (maxSteps := 1000000) (disch := omega) only [go_sem]; rfl); (all_goals first | (intro hb; (try simp only [hbs] at hb)) | skip)) | exact atN_intro | ((first | apply cw_if | apply cw_cond); (case hc => simp (maxSteps := 1000000) (disch := omega) only [go_sem]; rfl); (all_goals (intro hb; (try simp only [hbs] at hb); try (exfalso; omega)))) | (refine cw_blocks (fun KB hB => ?_)) | (refine cw_block ?_) | ((first | refine cw_exits ?_ | refine cw_exit ?_ | refine cw_skip ?_); simp (maxSteps := 1000000) (disch := omega) only [go_sem]) | (refine hB _ ?_; clear hB KB) | (refine exit_by (S := Sg) (by assumption) ?_) | ((first | refine cw_rets ?_ | refine cw_ret ?_); simp (maxSteps := 1000000) (disch := omega) only [go_sem]; (try clear hB KB); (try clear hK K)))
            rw [thenQ_normal]
            refine wk_loop (i + 1) ?_ ⟨by omega, by omega⟩ (by omega)
            refine le_of [(1, some 1), (2, some 2), (3, some 3)] rfl (by decide) rfl ?_ ?_
            all_goals simp (maxSteps := 1000000) (disch := omega) only [go_sem]
            repeat' (refine And.intro ?_ ?_)
            all_goals first | rfl | omega | exact .inl rfl | trivial | skip
            refine .inr fun a ha j hj => ?_
            show PV.le _ (fnOf opE (bAt s l (i + 1)) a j)
            rw [bstep s l i j ha]
            by_cases e : a = i
            · rw [if_pos e, if_pos e, hop]
              simp only [hoi]
              have hivl : j = 0 ∨ j = 1 ∨ j = 2 ∨ j = 3 ∨ j = 4 ∨ j = 5 ∨ j = 6 ∨ j = 7 ∨ j = 8 ∨ j = 9 ∨ j = 10 ∨ j = 11 := by omega
              rcases hivl with rfl | rfl | rfl | rfl | rfl | rfl | rfl | rfl | rfl | rfl | rfl | rfl <;> exact fun _ _ _ h => h
            · rw [if_neg e, if_neg e]; exact fun _ _ _ h => h
        · by_cases hk1 : (opAt s.ops i).kind = 1
          · have hop := show bOp s (l.getD i 0) (opAt s.ops i) = _ from (if_neg hk3).trans ((if_neg (by omega)).trans ((if_neg (by omega)).trans ((if_pos (by omega)).trans (if_pos hk1))))
            rw [hbi] at hop
            have hq1 : (((bAt s l i).getD i default).kind == 1) = true := by rw [hoi]; exact beq_iff_eq.2 hk1
            repeat' (first | ((first | apply cw_ifT | apply cw_condT); (case hc => simp (maxSteps := 1000000) (disch := omega) only [go_sem]; rfl); (case ht => (simp only [Int.toNat_natCast, Int.reduceBEq, Int.reduceBNe, Int.reduceLT, Int.reduceLE, decide_true, decide_false, Bool.not_true, Bool.not_false, Bool.and_true, Bool.true_and, Bool.and_false, Bool.false_and, Bool.or_true, Bool.true_or, Bool.or_false, Bool.false_or, hq, hm, hq1]; done))) | ((first | apply cw_ifF | apply cw_condF); (case hc => simp (maxSteps := 1000000) (disch := omega) only [go_sem]; rfl); (case ht => (simp only [Int.toNat_natCast, Int.reduceBEq, Int.reduceBNe, Int.reduceLT, Int.reduceLE, decide_true, decide_false, Bool.not_true, Bool.not_false, Bool.and_true, Bool.true_and, Bool.and_false, Bool.false_and, Bool.or_true, Bool.true_or, Bool.or_false, Bool.false_or, hq, hm, hq1]; done))) | ((first | ((with_reducible refine cw_stepDK (id := 24) [(129, 4), (133, 3), (139, 4), (141, 8), (142, 8), (143, 8)] (by decide +kernel) (by decide +kernel) ?_ (fun K hK => ?_)); (focus (refine And.intro (fun iw hiw => by ((try simp (maxSteps := 1000000) (disch := omega) only [go_sem] at hiw ⊢); (repeat (first | rfl | exact if_neg (by omega) | rw [if_neg (by omega)])); done)) (by first | exact Nat.zero_le _ | (simp (maxSteps := 1000000) (disch := omega) only [go_sem]; done) | (simp (maxSteps := 1000000) (disch := omega) only [go_sem]; omega) | decide)))) | ((with_reducible refine cw_lastDK (id := 24) [(129, 4), (133, 3), (139, 4), (141, 8), (142, 8), (143, 8)] (by decide +kernel) (by decide +kernel) ?_ (fun K hK => ?_)); (focus (refine And.intro (fun iw hiw => by ((try simp (maxSteps := 1000000) (disch := omega) only [go_sem] at hiw ⊢); (repeat (first | rfl | exact if_neg (by omega) | rw [if_neg (by omega)])); done)) (by first | exact Nat.zero_le _ | (simp (maxSteps := 1000000) (disch := omega) only [go_sem]; done) | (simp (maxSteps := 1000000) (disch := omega) only [go_sem]; omega) | decide))))); (try simp (maxSteps := 1000000) (disch := omega) only [go_sem]); (repeat' (refine And.intro ?_ ?_)); (all_goals first | (refine hK _ (by simp (maxSteps := 1000000) (disch := omega) only [go_sem]) ?_; clear hK K) | exact auto_cl | skip)) | refine cw_assoc ?_ | refine cw_skips ?_ | refine cw_labels ?_ | ((first | refine cw_step (fun K hK => ?_) | refine cw_last (fun K hK => ?_) | refine cw_stepD (by decide +kernel) (by decide +kernel) (fun K hK => ?_) | refine cw_lastD (by decide +kernel) (by decide +kernel) (fun K hK => ?_) | refine rgB_some ?_ | refine call_a (mod_spec (l.getD i 0) 16 (by omega)) ?_ | refine gcall_a (fun hg => mod_spec (l.getD i 0) 16 (by omega)) ?_ | refine call_a (mod_spec (IntKind.i64.wrap ((l.getD i 0).tdiv 16)) 3 (by omega)) ?_ | refine gcall_a (fun hg => mod_spec (IntKind.i64.wrap ((l.getD i 0).tdiv 16)) 3 (by omega)) ?_ | refine call_a (mod_spec (IntKind.i64.wrap ((l.getD i 0).tdiv 16)) 2 (by omega)) ?_ | refine gcall_a (fun hg => mod_spec (IntKind.i64.wrap ((l.getD i 0).tdiv 16)) 2 (by omega)) ?_); (try simp (maxSteps := 1000000) (disch := omega) only [go_sem]); (repeat' (refine And.intro ?_ ?_)); (all_goals first | (refine hK _ ?_; clear hK K) | exact auto_cl | skip)) | ((first | apply cw_ite | apply cw_iteN); (case hf => rfl); (case hc => simp (maxSteps := 1000000) (disch := omega) only [go_sem]; rfl); (all_goals first | (intro hb; (try simp only [hbs] at hb)) | skip)) | exact atN_intro | ((first | apply cw_if | apply cw_cond); (case hc => simp (maxSteps := 1000000) (disch := omega) only [go_sem]; rfl); (all_goals (intro hb; (try simp only [hbs] at hb); try (exfalso; omega)))) | (refine cw_blocks (fun KB hB => ?_)) | (refine cw_block ?_) | ((first | refine cw_exits ?_ | refine cw_exit ?_ | refine cw_skip ?_); simp (maxSteps := 1000000) (disch := omega) only [go_sem]) | (refine hB _ ?_; clear hB KB) | (refine exit_by (S := Sg) (by assumption) ?_) | ((first | refine cw_rets ?_ | refine cw_ret ?_); simp (maxSteps := 1000000) (disch := omega) only [go_sem]; (try clear hB KB); (try clear hK K)))
            refine hK _ (by simp (maxSteps := 1000000) (disch := omega) only [go_sem]) ?_
            clear hK
            repeat' (first | ((first | apply cw_ifT | apply cw_condT); (case hc => simp (maxSteps := 1000000) (disch := omega) only [go_sem]; rfl); (case ht => (simp only [Int.toNat_natCast, Int.reduceBEq, Int.reduceBNe, Int.reduceLT, Int.reduceLE, decide_true, decide_false, Bool.not_true, Bool.not_false, Bool.and_true, Bool.true_and, Bool.and_false, Bool.false_and, Bool.or_true, Bool.true_or, Bool.or_false, Bool.false_or, hq, hm, hq1]; done))) | ((first | apply cw_ifF | apply cw_condF); (case hc => simp (maxSteps := 1000000) (disch := omega) only [go_sem]; rfl); (case ht => (simp only [Int.toNat_natCast, Int.reduceBEq, Int.reduceBNe, Int.reduceLT, Int.reduceLE, decide_true, decide_false, Bool.not_true, Bool.not_false, Bool.and_true, Bool.true_and, Bool.and_false, Bool.false_and, Bool.or_true, Bool.true_or, Bool.or_false, Bool.false_or, hq, hm, hq1]; done))) | refine cw_assoc ?_ | refine cw_skips ?_ | refine cw_labels ?_ | ((first | refine cw_step (fun K hK => ?_) | refine cw_last (fun K hK => ?_) | refine cw_stepD (by decide +kernel) (by decide +kernel) (fun K hK => ?_) | refine cw_lastD (by decide +kernel) (by decide +kernel) (fun K hK => ?_) | refine rgB_some ?_ | refine call_a (mod_spec (l.getD i 0) 16 (by omega)) ?_ | refine gcall_a (fun hg => mod_spec (l.getD i 0) 16 (by omega)) ?_ | refine call_a (mod_spec (IntKind.i64.wrap ((l.getD i 0).tdiv 16)) 3 (by omega)) ?_ | refine gcall_a (fun hg => mod_spec (IntKind.i64.wrap ((l.getD i 0).tdiv 16)) 3 (by omega)) ?_ | refine call_a (mod_spec (IntKind.i64.wrap ((l.getD i 0).tdiv 16)) 2 (by omega)) ?_ | refine gcall_a (fun hg => mod_spec (IntKind.i64.wrap ((l.getD i 0).tdiv 16)) 2 (by omega)) ?_); (try simp (maxSteps := 1000000) (disch := omega) only [go_sem]); (repeat' (refine And.intro ?_ ?_)); (all_goals first | (refine hK _ ?_; clear hK K) | exact auto_cl | skip)) | ((first | apply cw_ite | apply cw_iteN); (case hf => rfl); (case hc => simp (maxSteps := 1000000) (disch := omega) only [go_sem]; rfl); (all_goals first | (intro hb; (try simp only [hbs] at hb)) | skip)) | exact atN_intro | ((first | apply cw_if | apply cw_cond); (case hc => simp (maxSteps := 1000000) (disch := omega) only [go_sem]; rfl); (all_goals (intro hb; (try simp only [hbs] at hb); try (exfalso; omega)))) | (refine cw_blocks (fun KB hB => ?_)) | (refine cw_block ?_) | ((first | refine cw_exits ?_ | refine cw_exit ?_ | refine cw_skip ?_); simp (maxSteps := 1000000) (disch := omega) only [go_sem]) | (refine hB _ ?_; clear hB KB) | (refine exit_by (S := Sg) (by assumption) ?_) | ((first | refine cw_rets ?_ | refine cw_ret ?_); simp (maxSteps := 1000000) (disch := omega) only [go_sem]; (try clear hB KB); (try clear hK K)))
            rw [thenQ_normal]
            refine wk_loop (i + 1) ?_ ⟨by omega, by omega⟩ (by omega)
            refine le_of [(1, some 1), (2, some 2), (3, some 3)] rfl (by decide) rfl ?_ ?_
            all_goals simp (maxSteps := 1000000) (disch := omega) only [go_sem]
            repeat' (refine And.intro ?_ ?_)
            all_goals first | rfl | omega | exact .inl rfl | trivial | skip
            refine .inr fun a ha j hj => ?_
            show PV.le _ (fnOf opE (bAt s l (i + 1)) a j)
            rw [bstep s l i j ha]
            by_cases e : a = i
            · rw [if_pos e, if_pos e, hop]
              simp only [hoi]
              have hivl : j = 0 ∨ j = 1 ∨ j = 2 ∨ j = 3 ∨ j = 4 ∨ j = 5 ∨ j = 6 ∨ j = 7 ∨ j = 8 ∨ j = 9 ∨ j = 10 ∨ j = 11 := by omega
              rcases hivl with rfl | rfl | rfl | rfl | rfl | rfl | rfl | rfl | rfl | rfl | rfl | rfl <;> exact fun _ _ _ h => h
            · rw [if_neg e, if_neg e]; exact fun _ _ _ h => h
          · have hop := show bOp s (l.getD i 0) (opAt s.ops i) = _ from (if_neg hk3).trans ((if_neg (by omega)).trans ((if_neg (by omega)).trans ((if_pos (by omega)).trans (if_neg hk1))))
            have hq1 : (((bAt s l i).getD i default).kind == 1) = false := by rw [hoi]; exact beq_eq_false_iff_ne.2 hk1
            repeat' (first | ((first | apply cw_ifT | apply cw_condT); (case hc => simp (maxSteps := 1000000) (disch := omega) only [go_sem]; rfl); (case ht => (simp only [Int.toNat_natCast, Int.reduceBEq, Int.reduceBNe, Int.reduceLT, Int.reduceLE, decide_true, decide_false, Bool.not_true, Bool.not_false, Bool.and_true, Bool.true_and, Bool.and_false, Bool.false_and, Bool.or_true, Bool.true_or, Bool.or_false, Bool.false_or, hq, hm, hq1]; done))) | ((first | apply cw_ifF | apply cw_condF); (case hc => simp (maxSteps := 1000000) (disch := omega) only [go_sem]; rfl); (case ht => (simp only [Int.toNat_natCast, Int.reduceBEq, Int.reduceBNe, Int.reduceLT, Int.reduceLE, decide_true, decide_false, Bool.not_true, Bool.not_false, Bool.and_true, Bool.true_and, Bool.and_false, Bool.false_and, Bool.or_true, Bool.true_or, Bool.or_false, Bool.false_or, hq, hm, hq1]; done))) | refine cw_assoc ?_ | refine cw_skips ?_ | refine cw_labels ?_ | ((first | refine cw_step (fun K hK => ?_) | refine cw_last (fun K hK => ?_) | refine cw_stepD (by decide +kernel) (by decide +kernel) (fun K hK => ?_) | refine cw_lastD (by decide +kernel) (by decide +kernel) (fun K hK => ?_) | refine rgB_some ?_ | refine call_a (mod_spec (l.getD i 0) 16 (by omega)) ?_ | refine gcall_a (fun hg => mod_spec (l.getD i 0) 16 (by omega)) ?_ | refine call_a (mod_spec (IntKind.i64.wrap ((l.getD i 0).tdiv 16)) 3 (by omega)) ?_ | refine gcall_a (fun hg => mod_spec (IntKind.i64.wrap ((l.getD i 0).tdiv 16)) 3 (by omega)) ?_ | refine call_a (mod_spec (IntKind.i64.wrap ((l.getD i 0).tdiv 16)) 2 (by omega)) ?_ | refine gcall_a (fun hg => mod_spec (IntKind.i64.wrap ((l.getD i 0).tdiv 16)) 2 (by omega)) ?_); (try simp (maxSteps := 1000000) (disch := omega) only [go_sem]); (repeat' (refine And.intro ?_ ?_)); (all_goals first | (refine hK _ ?_; clear hK K) | exact auto_cl | skip)) | ((first | apply cw_ite | apply cw_iteN); (case hf => rfl); (case hc => simp (maxSteps := 1000000) (disch := omega) only [go_sem]; rfl); (all_goals first | (intro hb; (try simp only [hbs] at hb)) | skip)) | exact atN_intro | ((first | apply cw_if | apply cw_cond); (case hc => simp (maxSteps := 1000000) (disch := omega) only [go_sem]; rfl); (all_goals (intro hb; (try simp only [hbs] at hb); try (exfalso; omega)))) | (refine cw_blocks (fun KB hB => ?_)) | (refine cw_block ?_) | ((first | refine cw_exits ?_ | refine cw_exit ?_ | refine cw_skip ?_); simp (maxSteps := 1000000) (disch := omega) only [go_sem]) | (refine hB _ ?_; clear hB KB) | (refine exit_by (S := Sg) (by assumption) ?_) | ((first | refine cw_rets ?_ | refine cw_ret ?_); simp (maxSteps := 1000000) (disch := omega) only [go_sem]; (try clear hB KB); (try clear hK K)))
            rw [thenQ_normal]
            refine wk_loop (i + 1) ?_ ⟨by omega, by omega⟩ (by omega)
            refine le_of [(1, some 1), (2, some 2), (3, some 3)] rfl (by decide) rfl ?_ ?_
            all_goals simp (maxSteps := 1000000) (disch := omega) only [go_sem]
            repeat' (refine And.intro ?_ ?_)
            all_goals first | rfl | omega | exact .inl rfl | trivial | skip
            refine .inr fun a ha j hj => ?_
            show PV.le _ (fnOf opE (bAt s l (i + 1)) a j)
            rw [bstep s l i j ha]
            by_cases e : a = i
            · rw [if_pos e, if_pos e, hop]
              simp only [hoi]
              have hivl : j = 0 ∨ j = 1 ∨ j = 2 ∨ j = 3 ∨ j = 4 ∨ j = 5 ∨ j = 6 ∨ j = 7 ∨ j = 8 ∨ j = 9 ∨ j = 10 ∨ j = 11 := by omega
              rcases hivl with rfl | rfl | rfl | rfl | rfl | rfl | rfl | rfl | rfl | rfl | rfl | rfl <;> exact fun _ _ _ h => h
            · rw [if_neg e, if_neg e]; exact fun _ _ _ h => h
        · by_cases hz : gMod (IntKind.i64.wrap ((l.getD i 0).tdiv 16)) 2 = 0
          · have hop := show bOp s (l.getD i 0) (opAt s.ops i) = _ from (if_neg hk3).trans ((if_neg (by omega)).trans ((if_neg (by omega)).trans ((if_neg (by omega)).trans ((if_pos (by omega)).trans (if_pos hz)))))
            have hq1 : (gMod (IntKind.i64.wrap ((l.getD i 0).tdiv 16)) 2 == 0) = true := beq_iff_eq.2 hz
            repeat' (first | ((first | apply cw_ifT | apply cw_condT); (case hc => simp (maxSteps := 1000000) (disch := omega) only [go_sem]; rfl); (case ht => (simp only [Int.toNat_natCast, Int.reduceBEq, Int.reduceBNe, Int.reduceLT, Int.reduceLE, decide_true, decide_false, Bool.not_true, Bool.not_false, Bool.and_true, Bool.true_and, Bool.and_false, Bool.false_and, Bool.or_true, Bool.true_or, Bool.or_false, Bool.false_or, hq, hm, hq1]; done))) | ((first | apply cw_ifF | apply cw_condF); (case hc => simp (maxSteps := 1000000) (disch := omega) only [go_sem]; rfl); (case ht => (simp only [Int.toNat_natCast, Int.reduceBEq, Int.reduceBNe, Int.reduceLT, Int.reduceLE, decide_true, decide_false, Bool.not_true, Bool.not_false, Bool.and_true, Bool.true_and, Bool.and_false, Bool.false_and, Bool.or_true, Bool.true_or, Bool.or_false, Bool.false_or, hq, hm, hq1]; done))) | refine cw_assoc ?_ | refine cw_skips ?_ | refine cw_labels ?_ | ((first | refine cw_step (fun K hK => ?_) | refine cw_last (fun K hK => ?_) | refine cw_stepD (by decide +kernel) (by decide +kernel) (fun K hK => ?_) | refine cw_lastD (by decide +kernel) (by decide +kernel) (fun K hK => ?_) | refine rgB_some ?_ | refine call_a (mod_spec (l.getD i 0) 16 (by omega)) ?_ | refine gcall_a (fun hg => mod_spec (l.getD i 0) 16 (by omega)) ?_ | refine call_a (mod_spec (IntKind.i64.wrap ((l.getD i 0).tdiv 16)) 3 (by omega)) ?_ | refine gcall_a (fun hg => mod_spec (IntKind.i64.wrap ((l.getD i 0).tdiv 16)) 3 (by omega)) ?_ | refine call_a (mod_spec (IntKind.i64.wrap ((l.getD i 0).tdiv 16)) 2 (by omega)) ?_ | refine gcall_a (fun hg => mod_spec (IntKind.i64.wrap ((l.getD i 0).tdiv 16)) 2 (by omega)) ?_); (try simp (maxSteps := 1000000) (disch := omega) only [go_sem]); (repeat' (refine And.intro ?_ ?_)); (all_goals first | (refine hK _ ?_; clear hK K) | exact auto_cl | skip)) | ((first | apply cw_ite | apply cw_iteN); (case hf => rfl); (case hc => simp (maxSteps := 1000000) (disch := omega) only [go_sem]; rfl); (all_goals first | (intro hb; (try simp only [hbs] at hb)) | skip)) | exact atN_intro | ((first | apply cw_if | apply cw_cond); (case hc => simp (maxSteps := 1000000) (disch := omega) only [go_sem]; rfl); (all_goals (intro hb; (try simp only [hbs] at hb); try (exfalso; omega)))) | (refine cw_blocks (fun KB hB => ?_)) | (refine cw_block ?_) | ((first | refine cw_exits ?_ | refine cw_exit ?_ | refine cw_skip ?_); simp (maxSteps := 1000000) (disch := omega) only [go_sem]) | (refine hB _ ?_; clear hB KB) | (refine exit_by (S := Sg) (by assumption) ?_) | ((first | refine cw_rets ?_ | refine cw_ret ?_); simp (maxSteps := 1000000) (disch := omega) only [go_sem]; (try clear hB KB); (try clear hK K)))
            rw [thenQ_normal]
            refine wk_loop (i + 1) ?_ ⟨by omega, by omega⟩ (by omega)
            refine le_of [(1, some 1), (2, some 2), (3, some 3)] rfl (by decide) rfl ?_ ?_
            all_goals simp (maxSteps := 1000000) (disch := omega) only [go_sem]
            repeat' (refine And.intro ?_ ?_)
            all_goals first | rfl | omega | exact .inl rfl | trivial | skip
            refine .inr fun a ha j hj => ?_
            show PV.le _ (fnOf opE (bAt s l (i + 1)) a j)
            rw [bstep s l i j ha]
            by_cases e : a = i
            · rw [if_pos e, if_pos e, hop]
              simp only [hoi]
              have hivl : j = 0 ∨ j = 1 ∨ j = 2 ∨ j = 3 ∨ j = 4 ∨ j = 5 ∨ j = 6 ∨ j = 7 ∨ j = 8 ∨ j = 9 ∨ j = 10 ∨ j = 11 := by omega
              rcases hivl with rfl | rfl | rfl | rfl | rfl | rfl | rfl | rfl | rfl | rfl | rfl | rfl <;> exact fun _ _ _ h => h
            · rw [if_neg e, if_neg e]; exact fun _ _ _ h => h
          · have hop := show bOp s (l.getD i 0) (opAt s.ops i) = _ from (if_neg hk3).trans ((if_neg (by omega)).trans ((if_neg (by omega)).trans ((if_neg (by omega)).trans ((if_pos (by omega)).trans (if_neg hz)))))
            have hq1 : (gMod (IntKind.i64.wrap ((l.getD i 0).tdiv 16)) 2 == 0) = false := beq_eq_false_iff_ne.2 hz
            repeat' (first | ((first | apply cw_ifT | apply cw_condT); (case hc => simp (maxSteps := 1000000) (disch := omega) only [go_sem]; rfl); (case ht => (simp only [Int.toNat_natCast, Int.reduceBEq, Int.reduceBNe, Int.reduceLT, Int.reduceLE, decide_true, decide_false, Bool.not_true, Bool.not_false, Bool.and_true, Bool.true_and, Bool.and_false, Bool.false_and, Bool.or_true, Bool.true_or, Bool.or_false, Bool.false_or, hq, hm, hq1]; done))) | ((first | apply cw_ifF | apply cw_condF); (case hc => simp (maxSteps := 1000000) (disch := omega) only [go_sem]; rfl); (case ht => (simp only [Int.toNat_natCast, Int.reduceBEq, Int.reduceBNe, Int.reduceLT, Int.reduceLE, decide_true, decide_false, Bool.not_true, Bool.not_false, Bool.and_true, Bool.true_and, Bool.and_false, Bool.false_and, Bool.or_true, Bool.true_or, Bool.or_false, Bool.false_or, hq, hm, hq1]; done))) | refine cw_assoc ?_ | refine cw_skips ?_ | refine cw_labels ?_ | ((first | refine cw_step (fun K hK => ?_) | refine cw_last (fun K hK => ?_) | refine cw_stepD (by decide +kernel) (by decide +kernel) (fun K hK => ?_) | refine cw_lastD (by decide +kernel) (by decide +kernel) (fun K hK => ?_) | refine rgB_some ?_ | refine call_a (mod_spec (l.getD i 0) 16 (by omega)) ?_ | refine gcall_a (fun hg => mod_spec (l.getD i 0) 16 (by omega)) ?_ | refine call_a (mod_spec (IntKind.i64.wrap ((l.getD i 0).tdiv 16)) 3 (by omega)) ?_ | refine gcall_a (fun hg => mod_spec (IntKind.i64.wrap ((l.getD i 0).tdiv 16)) 3 (by omega)) ?_ | refine call_a (mod_spec (IntKind.i64.wrap ((l.getD i 0).tdiv 16)) 2 (by omega)) ?_ | refine gcall_a (fun hg => mod_spec (IntKind.i64.wrap ((l.getD i 0).tdiv 16)) 2 (by omega)) ?_); (try simp (maxSteps := 1000000) (disch := omega) only [go_sem]); (repeat' (refine And.intro ?_ ?_)); (all_goals first | (refine hK _ ?_; clear hK K) | exact auto_cl | skip)) | ((first | apply cw_ite | apply cw_iteN); (case hf => rfl); (case hc => simp (maxSteps := 1000000) (disch := omega) only [go_sem]; rfl); (all_goals first | (intro hb; (try simp only [hbs] at hb)) | skip)) | exact atN_intro | ((first | apply cw_if | apply cw_cond); (case hc => simp (maxSteps := 1000000) (disch := omega) only [go_sem]; rfl); (all_goals (intro hb; (try simp only [hbs] at hb); try (exfalso; omega)))) | (refine cw_blocks (fun KB hB => ?_)) | (refine cw_block ?_) | ((first | refine cw_exits ?_ | refine cw_exit ?_ | refine cw_skip ?_); simp (maxSteps := 1000000) (disch := omega) only [go_sem]) | (refine hB _ ?_; clear hB KB) | (refine exit_by (S := Sg) (by assumption) ?_) | ((first | refine cw_rets ?_ | refine cw_ret ?_); simp (maxSteps := 1000000) (disch := omega) only [go_sem]; (try clear hB KB); (try clear hK K)))
            rw [thenQ_normal]
            refine wk_loop (i + 1) ?_ ⟨by omega, by omega⟩ (by omega)
            refine le_of [(1, some 1), (2, some 2), (3, some 3)] rfl (by decide) rfl ?_ ?_
            all_goals simp (maxSteps := 1000000) (disch := omega) only [go_sem]
            repeat' (refine And.intro ?_ ?_)
            all_goals first | rfl | omega | exact .inl rfl | trivial | skip
            refine .inr fun a ha j hj => ?_
            show PV.le _ (fnOf opE (bAt s l (i + 1)) a j)
            rw [bstep s l i j ha]
            by_cases e : a = i
            · rw [if_pos e, if_pos e, hop]
              simp only [hoi]
              have hivl : j = 0 ∨ j = 1 ∨ j = 2 ∨ j = 3 ∨ j = 4 ∨ j = 5 ∨ j = 6 ∨ j = 7 ∨ j = 8 ∨ j = 9 ∨ j = 10 ∨ j = 11 := by omega
              rcases hivl with rfl | rfl | rfl | rfl | rfl | rfl | rfl | rfl | rfl | rfl | rfl | rfl <;> exact fun _ _ _ h => h
            · rw [if_neg e, if_neg e]; exact fun _ _ _ h => h
        · by_cases hz : gMod (IntKind.i64.wrap ((l.getD i 0).tdiv 16)) 2 = 0
          · have hop := show bOp s (l.getD i 0) (opAt s.ops i) = _ from (if_neg hk3).trans ((if_neg (by omega)).trans ((if_neg (by omega)).trans ((if_neg (by omega)).trans ((if_pos (by omega)).trans (if_pos hz)))))
            have hq1 : (gMod (IntKind.i64.wrap ((l.getD i 0).tdiv 16)) 2 == 0) = true := beq_iff_eq.2 hz
            repeat' (first | ((first | apply cw_ifT | apply cw_condT); (case hc => simp (maxSteps := 1000000) (disch := omega) only [go_sem]; rfl); (case ht => (simp only [Int.toNat_natCast, Int.reduceBEq, Int.reduceBNe, Int.reduceLT, Int.reduceLE, decide_true, decide_false, Bool.not_true, Bool.not_false, Bool.and_true, Bool.true_and, Bool.and_false, Bool.false_and, Bool.or_true, Bool.true_or, Bool.or_false, Bool.false_or, hq, hm, hq1]; done))) | ((first | apply cw_ifF | apply cw_condF); (case hc => simp (maxSteps := 1000000) (disch := omega) only [go_sem]; rfl); (case ht => (simp only [Int.toNat_natCast, Int.reduceBEq, Int.reduceBNe, Int.reduceLT, Int.reduceLE, decide_true, decide_false, Bool.not_true, Bool.not_false, Bool.and_true, Bool.true_and, Bool.and_false, Bool.false_and, Bool.or_true, Bool.true_or, Bool.or_false, Bool.false_or, hq, hm, hq1]; done))) | refine cw_assoc ?_ | refine cw_skips ?_ | refine cw_labels ?_ | ((first | refine cw_step (fun K hK => ?_) | refine cw_last (fun K hK => ?_) | refine cw_stepD (by decide +kernel) (by decide +kernel) (fun K hK => ?_) | refine cw_lastD (by decide +kernel) (by decide +kernel) (fun K hK => ?_) | refine rgB_some ?_ | refine call_a (mod_spec (l.getD i 0) 16 (by omega)) ?_ | refine gcall_a (fun hg => mod_spec (l.getD i 0) 16 (by omega)) ?_ | refine call_a (mod_spec (IntKind.i64.wrap ((l.getD i 0).tdiv 16)) 3 (by omega)) ?_ | refine gcall_a (fun hg => mod_spec (IntKind.i64.wrap ((l.getD i 0).tdiv 16)) 3 (by omega)) ?_ | refine call_a (mod_spec (IntKind.i64.wrap ((l.getD i 0).tdiv 16)) 2 (by omega)) ?_ | refine gcall_a (fun hg => mod_spec (IntKind.i64.wrap ((l.getD i 0).tdiv 16)) 2 (by omega)) ?_); (try simp (maxSteps := 1000000) (disch := omega) only [go_sem]); (repeat' (refine And.intro ?_ ?_)); (all_goals first | (refine hK _ ?_; clear hK K) | exact auto_cl | skip)) | ((first | apply cw_ite | apply cw_iteN); (case hf => rfl); (case hc => simp (maxSteps := 1000000) (disch := omega) only [go_sem]; rfl); (all_goals first | (intro hb; (try simp only [hbs] at hb)) | skip)) | exact atN_intro | ((first | apply cw_if | apply cw_cond); (case hc => simp (maxSteps := 1000000) (disch := omega) only [go_sem]; rfl); (all_goals (intro hb; (try simp only [hbs] at hb); try (exfalso; omega)))) | (refine cw_blocks (fun KB hB => ?_)) | (refine cw_block ?_) | ((first | refine cw_exits ?_ | refine cw_exit ?_ | refine cw_skip ?_); simp (maxSteps := 1000000) (disch := omega) only [go_sem]) | (refine hB _ ?_; clear hB KB) | (refine exit_by (S := Sg) (by assumption) ?_) | ((first | refine cw_rets ?_ | refine cw_ret ?_); simp (maxSteps := 1000000) (disch := omega) only [go_sem]; (try clear hB KB); (try clear hK K)))
            rw [thenQ_normal]
            refine wk_loop (i + 1) ?_ ⟨by omega, by omega⟩ (by omega)
            refine le_of [(1, some 1), (2, some 2), (3, some 3)] rfl (by decide) rfl ?_ ?_
            all_goals simp (maxSteps := 1000000) (disch := omega) only [go_sem]
            repeat' (refine And.intro ?_ ?_)
            all_goals first | rfl | omega | exact .inl rfl | trivial | skip
            refine .inr fun a ha j hj => ?_
            show PV.le _ (fnOf opE (bAt s l (i + 1)) a j)
            rw [bstep s l i j ha]
            by_cases e : a = i
            · rw [if_pos e, if_pos e, hop]
              simp only [hoi]
              have hivl : j = 0 ∨ j = 1 ∨ j = 2 ∨ j = 3 ∨ j = 4 ∨ j = 5 ∨ j = 6 ∨ j = 7 ∨ j = 8 ∨ j = 9 ∨ j = 10 ∨ j = 11 := by omega
              rcases hivl with rfl | rfl | rfl | rfl | rfl | rfl | rfl | rfl | rfl | rfl | rfl | rfl <;> exact fun _ _ _ h => h
            · rw [if_neg e, if_neg e]; exact fun _ _ _ h => h
          · have hop := show bOp s (l.getD i 0) (opAt s.ops i) = _ from (if_neg hk3).trans ((if_neg (by omega)).trans ((if_neg (by omega)).trans ((if_neg (by omega)).trans ((if_pos (by omega)).trans (if_neg hz)))))
            have hq1 : (gMod (IntKind.i64.wrap ((l.getD i 0).tdiv 16)) 2 == 0) = false := beq_eq_false_iff_ne.2 hz
            repeat' (first | ((first | apply cw_ifT | apply cw_condT); (case hc => simp (maxSteps := 1000000) (disch := omega) only [go_sem]; rfl); (case ht => (simp only [Int.toNat_natCast, Int.reduceBEq, Int.reduceBNe, Int.reduceLT, Int.reduceLE, decide_true, decide_false, Bool.not_true, Bool.not_false, Bool.and_true, Bool.true_and, Bool.and_false, Bool.false_and, Bool.or_true, Bool.true_or, Bool.or_false, Bool.false_or, hq, hm, hq1]; done))) | ((first | apply cw_ifF | apply cw_condF); (case hc => simp (maxSteps := 1000000) (disch := omega) only [go_sem]; rfl); (case ht => (simp only [Int.toNat_natCast, Int.reduceBEq, Int.reduceBNe, Int.reduceLT, Int.reduceLE, decide_true, decide_false, Bool.not_true, Bool.not_false, Bool.and_true, Bool.true_and, Bool.and_false, Bool.false_and, Bool.or_true, Bool.true_or, Bool.or_false, Bool.false_or, hq, hm, hq1]; done))) | refine cw_assoc ?_ | refine cw_skips ?_ | refine cw_labels ?_ | ((first | refine cw_step (fun K hK => ?_) | refine cw_last (fun K hK => ?_) | refine cw_stepD (by decide +kernel) (by decide +kernel) (fun K hK => ?_) | refine cw_lastD (by decide +kernel) (by decide +kernel) (fun K hK => ?_) | refine rgB_some ?_ | refine call_a (mod_spec (l.getD i 0) 16 (by omega)) ?_ | refine gcall_a (fun hg => mod_spec (l.getD i 0) 16 (by omega)) ?_ | refine call_a (mod_spec (IntKind.i64.wrap ((l.getD i 0).tdiv 16)) 3 (by omega)) ?_ | refine gcall_a (fun hg => mod_spec (IntKind.i64.wrap ((l.getD i 0).tdiv 16)) 3 (by omega)) ?_ | refine call_a (mod_spec (IntKind.i64.wrap ((l.getD i 0).tdiv 16)) 2 (by omega)) ?_ | refine gcall_a (fun hg => mod_spec (IntKind.i64.wrap ((l.getD i 0).tdiv 16)) 2 (by omega)) ?_); (try simp (maxSteps := 1000000) (disch := omega) only [go_sem]); (repeat' (refine And.intro ?_ ?_)); (all_goals first | (refine hK _ ?_; clear hK K) | exact auto_cl | skip)) | ((first | apply cw_ite | apply cw_iteN); (case hf => rfl); (case hc => simp (maxSteps := 1000000) (disch := omega) only [go_sem]; rfl); (all_goals first | (intro hb; (try simp only [hbs] at hb)) | skip)) | exact atN_intro | ((first | apply cw_if | apply cw_cond); (case hc => simp (maxSteps := 1000000) (disch := omega) only [go_sem]; rfl); (all_goals (intro hb; (try simp only [hbs] at hb); try (exfalso; omega)))) | (refine cw_blocks (fun KB hB => ?_)) | (refine cw_block ?_) | ((first | refine cw_exits ?_ | refine cw_exit ?_ | refine cw_skip ?_); simp (maxSteps := 1000000) (disch := omega) only [go_sem]) | (refine hB _ ?_; clear hB KB) | (refine exit_by (S := Sg) (by assumption) ?_) | ((first | refine cw_rets ?_ | refine cw_ret ?_); simp (maxSteps := 1000000) (disch := omega) only [go_sem]; (try clear hB KB); (try clear hK K)))
            rw [thenQ_normal]
            refine wk_loop (i + 1) ?_ ⟨by omega, by omega⟩ (by omega)
            refine le_of [(1, some 1), (2, some 2), (3, some 3)] rfl (by decide) rfl ?_ ?_
            all_goals simp (maxSteps := 1000000) (disch := omega) only [go_sem]
            repeat' (refine And.intro ?_ ?_)
            all_goals first | rfl | omega | exact .inl rfl | trivial | skip
            refine .inr fun a ha j hj => ?_
            show PV.le _ (fnOf opE (bAt s l (i + 1)) a j)
            rw [bstep s l i j ha]
            by_cases e : a = i
            · rw [if_pos e, if_pos e, hop]
              simp only [hoi]
              have hivl : j = 0 ∨ j = 1 ∨ j = 2 ∨ j = 3 ∨ j = 4 ∨ j = 5 ∨ j = 6 ∨ j = 7 ∨ j = 8 ∨ j = 9 ∨ j = 10 ∨ j = 11 := by omega
              rcases hivl with rfl | rfl | rfl | rfl | rfl | rfl | rfl | rfl | rfl | rfl | rfl | rfl <;> exact fun _ _ _ h => h
            · rw [if_neg e, if_neg e]; exact fun _ _ _ h => h
        · by_cases hz : gMod (IntKind.i64.wrap ((l.getD i 0).tdiv 16)) 2 = 0
          · have hop := show bOp s (l.getD i 0) (opAt s.ops i) = _ from (if_neg hk3).trans ((if_neg (by omega)).trans ((if_neg (by omega)).trans ((if_neg (by omega)).trans ((if_pos (by omega)).trans (if_pos hz)))))
            have hq1 : (gMod (IntKind.i64.wrap ((l.getD i 0).tdiv 16)) 2 == 0) = true := beq_iff_eq.2 hz
            repeat' (first | ((first | apply cw_ifT | apply cw_condT); (case hc => simp (maxSteps := 1000000) (disch := omega) only [go_sem]; rfl); (case ht => (simp only [Int.toNat_natCast, Int.reduceBEq, Int.reduceBNe, Int.reduceLT, Int.reduceLE, decide_true, decide_false, Bool.not_true, Bool.not_false, Bool.and_true, Bool.true_and, Bool.and_false, Bool.false_and, Bool.or_true, Bool.true_or, Bool.or_false, Bool.false_or, hq, hm, hq1]; done))) | ((first | apply cw_ifF | apply cw_condF); (case hc => simp (maxSteps := 1000000) (disch := omega) only [go_sem]; rfl); (case ht => (simp only [Int.toNat_natCast, Int.reduceBEq, Int.reduceBNe, Int.reduceLT, Int.reduceLE, decide_true, decide_false, Bool.not_true, Bool.not_false, Bool.and_true, Bool.true_and, Bool.and_false, Bool.false_and, Bool.or_true, Bool.true_or, Bool.or_false, Bool.false_or, hq, hm, hq1]; done))) | refine cw_assoc ?_ | refine cw_skips ?_ | refine cw_labels ?_ | ((first | refine cw_step (fun K hK => ?_) | refine cw_last (fun K hK => ?_) | refine cw_stepD (by decide +kernel) (by decide +kernel) (fun K hK => ?_) | refine cw_lastD (by decide +kernel) (by decide +kernel) (fun K hK => ?_) | refine rgB_some ?_ | refine call_a (mod_spec (l.getD i 0) 16 (by omega)) ?_ | refine gcall_a (fun hg => mod_spec (l.getD i 0) 16 (by omega)) ?_ | refine call_a (mod_spec (IntKind.i64.wrap ((l.getD i 0).tdiv 16)) 3 (by omega)) ?_ | refine gcall_a (fun hg => mod_spec (IntKind.i64.wrap ((l.getD i 0).tdiv 16)) 3 (by omega)) ?_ | refine call_a (mod_spec (IntKind.i64.wrap ((l.getD i 0).tdiv 16)) 2 (by omega)) ?_ | refine gcall_a (fun hg => mod_spec (IntKind.i64.wrap ((l.getD i 0).tdiv 16)) 2 (by omega)) ?_); (try simp (maxSteps := 1000000) (disch := omega) only [go_sem]); (repeat' (refine And.intro ?_ ?_)); (all_goals first | (refine hK _ ?_; clear hK K) | exact auto_cl | skip)) | ((first | apply cw_ite | apply cw_iteN); (case hf => rfl); (case hc => simp (maxSteps := 1000000) (disch := omega) only [go_sem]; rfl); (all_goals first | (intro hb; (try simp only [hbs] at hb)) | skip)) | exact atN_intro | ((first | apply cw_if | apply cw_cond); (case hc => simp (maxSteps := 1000000) (disch := omega) only [go_sem]; rfl); (all_goals (intro hb; (try simp only [hbs] at hb); try (exfalso; omega)))) | (refine cw_blocks (fun KB hB => ?_)) | (refine cw_block ?_) | ((first | refine cw_exits ?_ | refine cw_exit ?_ | refine cw_skip ?_); simp (maxSteps := 1000000) (disch := omega) only [go_sem]) | (refine hB _ ?_; clear hB KB) | (refine exit_by (S := Sg) (by assumption) ?_) | ((first | refine cw_rets ?_ | refine cw_ret ?_); simp (maxSteps := 1000000) (disch := omega) only [go_sem]; (try clear hB KB); (try clear hK K)))
            rw [thenQ_normal]
            refine wk_loop (i + 1) ?_ ⟨by omega, by omega⟩ (by omega)
            refine le_of [(1, some 1), (2, some 2), (3, some 3)] rfl (by decide) rfl ?_ ?_
            all_goals simp (maxSteps := 1000000) (disch := omega) only [go_sem]
            repeat' (refine And.intro ?_ ?_)
            all_goals first | rfl | omega | exact .inl rfl | trivial | skip
            refine .inr fun a ha j hj => ?_
            show PV.le _ (fnOf opE (bAt s l (i + 1)) a j)
            rw [bstep s l i j ha]
            by_cases e : a = i
            · rw [if_pos e, if_pos e, hop]
              simp only [hoi]
              have hivl : j = 0 ∨ j = 1 ∨ j = 2 ∨ j = 3 ∨ j = 4 ∨ j = 5 ∨ j = 6 ∨ j = 7 ∨ j = 8 ∨ j = 9 ∨ j = 10 ∨ j = 11 := by omega
              rcases hivl with rfl | rfl | rfl | rfl | rfl | rfl | rfl | rfl | rfl | rfl | rfl | rfl <;> exact fun _ _ _ h => h
            · rw [if_neg e, if_neg e]; exact fun _ _ _ h => h
          · have hop := show bOp s (l.getD i 0) (opAt s.ops i) = _ from (if_neg hk3).trans ((if_neg (by omega)).trans ((if_neg (by omega)).trans ((if_neg (by omega)).trans ((if_pos (by omega)).trans (if_neg hz)))))
            have hq1 : (gMod (IntKind.i64.wrap ((l.getD i 0).tdiv 16)) 2 == 0) = false := beq_eq_false_iff_ne.2 hz
            repeat' (first | ((first | apply cw_ifT | apply cw_condT); (case hc => simp (maxSteps := 1000000) (disch := omega) only [go_sem]; rfl); (case ht => (simp only [Int.toNat_natCast, Int.reduceBEq, Int.reduceBNe, Int.reduceLT, Int.reduceLE, decide_true, decide_false, Bool.not_true, Bool.not_false, Bool.and_true, Bool.true_and, Bool.and_false, Bool.false_and, Bool.or_true, Bool.true_or, Bool.or_false, Bool.false_or, hq, hm, hq1]; done))) | ((first | apply cw_ifF | apply cw_condF); (case hc => simp (maxSteps := 1000000) (disch := omega) only [go_sem]; rfl); (case ht => (simp only [Int.toNat_natCast, Int.reduceBEq, Int.reduceBNe, Int.reduceLT, Int.reduceLE, decide_true, decide_false, Bool.not_true, Bool.not_false, Bool.and_true, Bool.true_and, Bool.and_false, Bool.false_and, Bool.or_true, Bool.true_or, Bool.or_false, Bool.false_or, hq, hm, hq1]; done))) | refine cw_assoc ?_ | refine cw_skips ?_ | refine cw_labels ?_ | ((first | refine cw_step (fun K hK => ?_) | refine cw_last (fun K hK => ?_) | refine cw_stepD (by decide +kernel) (by decide +kernel) (fun K hK => ?_) | refine cw_lastD (by decide +kernel) (by decide +kernel) (fun K hK => ?_) | refine rgB_some ?_ | refine call_a (mod_spec (l.getD i 0) 16 (by omega)) ?_ | refine gcall_a (fun hg => mod_spec (l.getD i 0) 16 (by omega)) ?_ | refine call_a (mod_spec (IntKind.i64.wrap ((l.getD i 0).tdiv 16)) 3 (by omega)) ?_ | refine gcall_a (fun hg => mod_spec (IntKind.i64.wrap ((l.getD i 0).tdiv 16)) 3 (by omega)) ?_ | refine call_a (mod_spec (IntKind.i64.wrap ((l.getD i 0).tdiv 16)) 2 (by omega)) ?_ | refine gcall_a (fun hg => mod_spec (IntKind.i64.wrap ((l.getD i 0).tdiv 16)) 2 (by omega)) ?_); (try simp (maxSteps := 1000000) (disch := omega) only [go_sem]); (repeat' (refine And.intro ?_ ?_)); (all_goals first | (refine hK _ ?_; clear hK K) | exact auto_cl | skip)) | ((first | apply cw_ite | apply cw_iteN); (case hf => rfl); (case hc => simp (maxSteps := 1000000) (disch := omega) only [go_sem]; rfl); (all_goals first | (intro hb; (try simp only [hbs] at hb)) | skip)) | exact atN_intro | ((first | apply cw_if | apply cw_cond); (case hc => simp (maxSteps := 1000000) (disch := omega) only [go_sem]; rfl); (all_goals (intro hb; (try simp only [hbs] at hb); try (exfalso; omega)))) | (refine cw_blocks (fun KB hB => ?_)) | (refine cw_block ?_) | ((first | refine cw_exits ?_ | refine cw_exit ?_ | refine cw_skip ?_); simp (maxSteps := 1000000) (disch := omega) only [go_sem]) | (refine hB _ ?_; clear hB KB) | (refine exit_by (S := Sg) (by assumption) ?_) | ((first | refine cw_rets ?_ | refine cw_ret ?_); simp (maxSteps := 1000000) (disch := omega) only [go_sem]; (try clear hB KB); (try clear hK K)))
            rw [thenQ_normal]
            refine wk_loop (i + 1) ?_ ⟨by omega, by omega⟩ (by omega)
            refine le_of [(1, some 1), (2, some 2), (3, some 3)] rfl (by decide) rfl ?_ ?_
            all_goals simp (maxSteps := 1000000) (disch := omega) only [go_sem]
            repeat' (refine And.intro ?_ ?_)
            all_goals first | rfl | omega | exact .inl rfl | trivial | skip
            refine .inr fun a ha j hj => ?_
            show PV.le _ (fnOf opE (bAt s l (i + 1)) a j)
            rw [bstep s l i j ha]
            by_cases e : a = i
            · rw [if_pos e, if_pos e, hop]
              simp only [hoi]
              have hivl : j = 0 ∨ j = 1 ∨ j = 2 ∨ j = 3 ∨ j = 4 ∨ j = 5 ∨ j = 6 ∨ j = 7 ∨ j = 8 ∨ j = 9 ∨ j = 10 ∨ j = 11 := by omega
              rcases hivl with rfl | rfl | rfl | rfl | rfl | rfl | rfl | rfl | rfl | rfl | rfl | rfl <;> exact fun _ _ _ h => h
            · rw [if_neg e, if_neg e]; exact fun _ _ _ h => h
        · have hop := show bOp s (l.getD i 0) (opAt s.ops i) = _ from (if_neg hk3).trans ((if_neg (by omega)).trans ((if_neg (by omega)).trans ((if_neg (by omega)).trans ((if_neg (by omega)).trans (if_pos hm)))))
          repeat' (first | ((first | apply cw_ifT | apply cw_condT); (case hc => simp (maxSteps := 1000000) (disch := omega) only [go_sem]; rfl); (case ht => (simp only [Int.toNat_natCast, Int.reduceBEq, Int.reduceBNe, Int.reduceLT, Int.reduceLE, decide_true, decide_false, Bool.not_true, Bool.not_false, Bool.and_true, Bool.true_and, Bool.and_false, Bool.false_and, Bool.or_true, Bool.true_or, Bool.or_false, Bool.false_or, hq, hm]; done))) | ((first | apply cw_ifF | apply cw_condF); (case hc => simp (maxSteps := 1000000) (disch := omega) only [go_sem]; rfl); (case ht => (simp only [Int.toNat_natCast, Int.reduceBEq, Int.reduceBNe, Int.reduceLT, Int.reduceLE, decide_true, decide_false, Bool.not_true, Bool.not_false, Bool.and_true, Bool.true_and, Bool.and_false, Bool.false_and, Bool.or_true, Bool.true_or, Bool.or_false, Bool.false_or, hq, hm]; done))) | refine cw_assoc ?_ | refine cw_skips ?_ | refine cw_labels ?_ | ((first | refine cw_step (fun K hK => ?_) | refine cw_last (fun K hK => ?_) | refine cw_stepD (by decide +kernel) (by decide +kernel) (fun K hK => ?_) | refine cw_lastD (by decide +kernel) (by decide +kernel) (fun K hK => ?_) | refine rgB_some ?_ | refine call_a (mod_spec (l.getD i 0) 16 (by omega)) ?_ | refine gcall_a (fun hg => mod_spec (l.getD i 0) 16 (by omega)) ?_ | refine call_a (mod_spec (IntKind.i64.wrap ((l.getD i 0).tdiv 16)) 3 (by omega)) ?_ | refine gcall_a (fun hg => mod_spec (IntKind.i64.wrap ((l.getD i 0).tdiv 16)) 3 (by omega)) ?_ | refine call_a (mod_spec (IntKind.i64.wrap ((l.getD i 0).tdiv 16)) 2 (by omega)) ?_ | refine gcall_a (fun hg => mod_spec (IntKind.i64.wrap ((l.getD i 0).tdiv 16)) 2 (by omega)) ?_); (try simp (maxSteps := 1000000) (disch := omega) only [go_sem]); (repeat' (refine And.intro ?_ ?_)); (all_goals first | (refine hK _ ?_; clear hK K) | exact auto_cl | skip)) | ((first | apply cw_ite | apply cw_iteN); (case hf => rfl); (case hc => simp (maxSteps := 1000000) (disch := omega) only [go_sem]; rfl); (all_goals first | (intro hb; (try simp only [hbs] at hb)) | skip)) | exact atN_intro | ((first | apply cw_if | apply cw_cond); (case hc => simp (maxSteps := 1000000) (disch := omega) only [go_sem]; rfl); (all_goals (intro hb; (try simp only [hbs] at hb); try (exfalso; omega)))) | (refine cw_blocks (fun KB hB => ?_)) | (refine cw_block ?_) | ((first | refine cw_exits ?_ | refine cw_exit ?_ | refine cw_skip ?_); simp (maxSteps := 1000000) (disch := omega) only [go_sem]) | (refine hB _ ?_; clear hB KB) | (refine exit_by (S := Sg) (by assumption) ?_) | ((first | refine cw_rets ?_ | refine cw_ret ?_); simp (maxSteps := 1000000) (disch := omega) only [go_sem]; (try clear hB KB); (try clear hK K)))
          rw [thenQ_normal]
          refine wk_loop (i + 1) ?_ ⟨by omega, by omega⟩ (by omega)
          refine le_of [(1, some 1), (2, some 2), (3, some 3)] rfl (by decide) rfl ?_ ?_
          all_goals simp (maxSteps := 1000000) (disch := omega) only [go_sem]
          repeat' (refine And.intro ?_ ?_)
          all_goals first | rfl | omega | exact .inl rfl | trivial | skip
          refine .inr fun a ha j hj => ?_
          show PV.le _ (fnOf opE (bAt s l (i + 1)) a j)
          rw [bstep s l i j ha]
          by_cases e : a = i
          · rw [if_pos e, if_pos e, hop]
            simp only [hoi]
            have hivl : j = 0 ∨ j = 1 ∨ j = 2 ∨ j = 3 ∨ j = 4 ∨ j = 5 ∨ j = 6 ∨ j = 7 ∨ j = 8 ∨ j = 9 ∨ j = 10 ∨ j = 11 := by omega
            rcases hivl with rfl | rfl | rfl | rfl | rfl | rfl | rfl | rfl | rfl | rfl | rfl | rfl <;> exact fun _ _ _ h => h
          · rw [if_neg e, if_neg e]; exact fun _ _ _ h => h
        · have hop := show bOp s (l.getD i 0) (opAt s.ops i) = _ from (if_neg hk3).trans ((if_neg (by omega)).trans ((if_neg (by omega)).trans ((if_neg (by omega)).trans ((if_neg (by omega)).trans (if_neg (by omega))))))
          have e0 := beq_eq_false_iff_ne.2 n0
          have e1 := beq_eq_false_iff_ne.2 n1
          have e2 := beq_eq_false_iff_ne.2 n2
          have e3 := beq_eq_false_iff_ne.2 n3
          have e4 := beq_eq_false_iff_ne.2 n4
          have e5 := beq_eq_false_iff_ne.2 n5
          have e6 := beq_eq_false_iff_ne.2 n6
          have e7 := beq_eq_false_iff_ne.2 n7
          have e8 := beq_eq_false_iff_ne.2 n8
          repeat' (first | ((first | apply cw_ifT | apply cw_condT); (case hc => simp (maxSteps := 1000000) (disch := omega) only [go_sem]; rfl); (case ht => (simp only [Int.toNat_natCast, Int.reduceBEq, Int.reduceBNe, Int.reduceLT, Int.reduceLE, decide_true, decide_false, Bool.not_true, Bool.not_false, Bool.and_true, Bool.true_and, Bool.and_false, Bool.false_and, Bool.or_true, Bool.true_or, Bool.or_false, Bool.false_or, hq, e0, e1, e2, e3, e4, e5, e6, e7, e8]; done))) | ((first | apply cw_ifF | apply cw_condF); (case hc => simp (maxSteps := 1000000) (disch := omega) only [go_sem]; rfl); (case ht => (simp only [Int.toNat_natCast, Int.reduceBEq, Int.reduceBNe, Int.reduceLT, Int.reduceLE, decide_true, decide_false, Bool.not_true, Bool.not_false, Bool.and_true, Bool.true_and, Bool.and_false, Bool.false_and, Bool.or_true, Bool.true_or, Bool.or_false, Bool.false_or, hq, e0, e1, e2, e3, e4, e5, e6, e7, e8]; done))) | refine cw_assoc ?_ | refine cw_skips ?_ | refine cw_labels ?_ | ((first | refine cw_step (fun K hK => ?_) | refine cw_last (fun K hK => ?_) | refine cw_stepD (by decide +kernel) (by decide +kernel) (fun K hK => ?_) | refine cw_lastD (by decide +kernel) (by decide +kernel) (fun K hK => ?_) | refine rgB_some ?_ | refine call_a (mod_spec (l.getD i 0) 16 (by omega)) ?_ | refine gcall_a (fun hg => mod_spec (l.getD i 0) 16 (by omega)) ?_ | refine call_a (mod_spec (IntKind.i64.wrap ((l.getD i 0).tdiv 16)) 3 (by omega)) ?_ | refine gcall_a (fun hg => mod_spec (IntKind.i64.wrap ((l.getD i 0).tdiv 16)) 3 (by omega)) ?_ | refine call_a (mod_spec (IntKind.i64.wrap ((l.getD i 0).tdiv 16)) 2 (by omega)) ?_ | refine gcall_a (fun hg => mod_spec (IntKind.i64.wrap ((l.getD i 0).tdiv 16)) 2 (by omega)) ?_); (try simp (maxSteps := 1000000) (disch := omega) only [go_sem]); (repeat' (refine And.intro ?_ ?_)); (all_goals first | (refine hK _ ?_; clear hK K) | exact auto_cl | skip)) | ((first | apply cw_ite | apply cw_iteN); (case hf => rfl); (case hc => simp (maxSteps := 1000000) (disch := omega) only [go_sem]; rfl); (all_goals first | (intro hb; (try simp only [hbs] at hb)) | skip)) | exact atN_intro | ((first | apply cw_if | apply cw_cond); (case hc => simp (maxSteps := 1000000) (disch := omega) only [go_sem]; rfl); (all_goals (intro hb; (try simp only [hbs] at hb); try (exfalso; omega)))) | (refine cw_blocks (fun KB hB => ?_)) | (refine cw_block ?_) | ((first | refine cw_exits ?_ | refine cw_exit ?_ | refine cw_skip ?_); simp (maxSteps := 1000000) (disch := omega) only [go_sem]) | (refine hB _ ?_; clear hB KB) | (refine exit_by (S := Sg) (by assumption) ?_) | ((first | refine cw_rets ?_ | refine cw_ret ?_); simp (maxSteps := 1000000) (disch := omega) only [go_sem]; (try clear hB KB); (try clear hK K)))
          rw [thenQ_normal]
          refine wk_loop (i + 1) ?_ ⟨by omega, by omega⟩ (by omega)
          refine le_of [(1, some 1), (2, some 2), (3, some 3)] rfl (by decide) rfl ?_ ?_
          all_goals simp (maxSteps := 1000000) (disch := omega) only [go_sem]
          repeat' (refine And.intro ?_ ?_)
          all_goals first | rfl | omega | exact .inl rfl | trivial | skip
          refine .inr fun a ha j hj => ?_
          show PV.le _ (fnOf opE (bAt s l (i + 1)) a j)
          rw [bstep s l i j ha]
          by_cases e : a = i
          · rw [if_pos e, if_pos e, hop]
            simp only [hoi]
            have hivl : j = 0 ∨ j = 1 ∨ j = 2 ∨ j = 3 ∨ j = 4 ∨ j = 5 ∨ j = 6 ∨ j = 7 ∨ j = 8 ∨ j = 9 ∨ j = 10 ∨ j = 11 := by omega
            rcases hivl with rfl | rfl | rfl | rfl | rfl | rfl | rfl | rfl | rfl | rfl | rfl | rfl <;> exact fun _ _ _ h => h
          · rw [if_neg e, if_neg e]; exact fun _ _ _ h => h
      · have he : i = l.length := by omega
        repeat' (first | refine cw_assoc ?_ | refine cw_skips ?_ | refine cw_labels ?_ | ((first | refine cw_step (fun K hK => ?_) | refine cw_last (fun K hK => ?_) | refine cw_stepD (by decide +kernel) (by decide +kernel) (fun K hK => ?_) | refine cw_lastD (by decide +kernel) (by decide +kernel) (fun K hK => ?_) | refine rgB_some ?_); (try simp (maxSteps := 1000000) (disch := omega) only [go_sem]); (repeat' (refine And.intro ?_ ?_)); (all_goals first | (refine hK _ ?_; clear hK K) | exact auto_cl | skip)) | ((first | apply cw_ite | apply cw_iteN); (case hf => rfl); (case hc => simp (maxSteps := 1000000) (disch := omega) only [go_sem]; rfl); (all_goals first | (intro hb; (try simp only [hbs] at hb)) | skip)) | exact atN_intro | ((first | apply cw_if | apply cw_cond); (case hc => simp (maxSteps := 1000000) (disch := omega) only [go_sem]; rfl); (all_goals (intro hb; (try simp only [hbs] at hb); try (exfalso; omega)))) | (refine cw_blocks (fun KB hB => ?_)) | (refine cw_block ?_) | ((first | refine cw_exits ?_ | refine cw_exit ?_ | refine cw_skip ?_); simp (maxSteps := 1000000) (disch := omega) only [go_sem]) | (refine hB _ ?_; clear hB KB) | (refine exit_by (S := Sg) (by assumption) ?_) | ((first | refine cw_rets ?_ | refine cw_ret ?_); simp (maxSteps := 1000000) (disch := omega) only [go_sem]; (try clear hB KB); (try clear hK K)))
        have e1 : (biasM s l).images.length = s.images.length + 2 := by show (bImgs s).length = _; rw [bImgs, List.length_append]; rfl
        have e2 : (biasM s l).ops.length = s.ops.length := bAt_len s l _
        rw [e1, e2, hend i (.inr he) hi2]
        refine sle_b (ble_agg ?_)
        simp only [List.map_cons, List.map_nil, cleL_cons, cleL_nil]
        repeat' (refine And.intro ?_ ?_)
        all_goals first | exact .inl rfl | exact .inl trivial | exact .inr nil_le | trivial | skip
    · have he : i = s.ops.length := by omega
      repeat' (first | refine cw_assoc ?_ | refine cw_skips ?_ | refine cw_labels ?_ | ((first | refine cw_step (fun K hK => ?_) | refine cw_last (fun K hK => ?_) | refine cw_stepD (by decide +kernel) (by decide +kernel) (fun K hK => ?_) | refine cw_lastD (by decide +kernel) (by decide +kernel) (fun K hK => ?_) | refine rgB_some ?_); (try simp (maxSteps := 1000000) (disch := omega) only [go_sem]); (repeat' (refine And.intro ?_ ?_)); (all_goals first | (refine hK _ ?_; clear hK K) | exact auto_cl | skip)) | ((first | apply cw_ite | apply cw_iteN); (case hf => rfl); (case hc => simp (maxSteps := 1000000) (disch := omega) only [go_sem]; rfl); (all_goals first | (intro hb; (try simp only [hbs] at hb)) | skip)) | exact atN_intro | ((first | apply cw_if | apply cw_cond); (case hc => simp (maxSteps := 1000000) (disch := omega) only [go_sem]; rfl); (all_goals (intro hb; (try simp only [hbs] at hb); try (exfalso; omega)))) | (refine cw_blocks (fun KB hB => ?_)) | (refine cw_block ?_) | ((first | refine cw_exits ?_ | refine cw_exit ?_ | refine cw_skip ?_); simp (maxSteps := 1000000) (disch := omega) only [go_sem]) | (refine hB _ ?_; clear hB KB) | (refine exit_by (S := Sg) (by assumption) ?_) | ((first | refine cw_rets ?_ | refine cw_ret ?_); simp (maxSteps := 1000000) (disch := omega) only [go_sem]; (try clear hB KB); (try clear hK K)))
      have e1 : (biasM s l).images.length = s.images.length + 2 := by show (bImgs s).length = _; rw [bImgs, List.length_append]; rfl
      have e2 : (biasM s l).ops.length = s.ops.length := bAt_len s l _
      rw [e1, e2, hend i (.inl he) hi2]
      refine sle_b (ble_agg ?_)
      simp only [List.map_cons, List.map_nil, cleL_cons, cleL_nil]
      repeat' (refine And.intro ?_ ?_)
      all_goals first | exact .inl rfl | exact .inl trivial | exact .inr nil_le | trivial | skip
end Go.Proofs.YtkjdljcbpbeehaaDoor

set_option linter.unusedSimpArgs false
set_option linter.unusedVariables false
set_option maxRecDepth 8000
set_option maxHeartbeats 8000000
namespace Go.Proofs.YtkjdljcbpbeehaaDoor
open Go Go.SL
open Go.RowKit (wrap64)

theorem arr_push_junk {l jk : List Op} {x : Op} {g : Nat → Nat → PV} (hg : ∀ j, j < 12 → g 0 j = (opE x).getD j .any) :
    ∀ i, i < l.length + 1 → ∀ j, j < 12 → PV.le (appF l.length (fnOf opE (l ++ jk)) g i j) (fnOf opE (l ++ [x]) i j) := fun i hi j hj => by
  have := arr_push (enc := opE) (xs := l) (x := x) (s := 12) (g := g) hg i hi j hj
  unfold appF at this ⊢
  by_cases h : i < l.length
  · rw [if_pos h] at this ⊢
    have e : (l ++ jk).getD i default = l.getD i default := by
      rw [List.getD_eq_getElem?_getD, List.getD_eq_getElem?_getD, List.getElem?_append_left h]
    unfold fnOf at this ⊢
    rw [e]; exact this
  · rw [if_neg h] at this ⊢
    exact this
theorem gscript_spec (s : Scene) (hs : SceneOk s) : Pure Sg 7 [ag (sceneE s)] (fun r => r = .b (ag (scriptE (gScript s)))) := by
  obtain ⟨hb, ⟨x1, x2⟩, ⟨y1, y2⟩, ⟨w1, w2⟩, ⟨v1, v2⟩, ⟨t1, t2⟩, ⟨u1, u2⟩, ho, hp, hop, hpic, hraw⟩ := hs
  have hm := gMax_u s.bits
  have hsm := gCanvas_small s
  have htw := tiles_wrap (gCanvas s) (gTileW s) (gTileH s)
  have hw0 : 1 ≤ 1 + s.w % 5 ∧ 1 + s.w % 5 ≤ 5 := by omega
  have hh0 : 1 ≤ 1 + s.h % 4 ∧ 1 + s.h % 4 ≤ 4 := by omega
  have ew : s.tileW % (1 + s.w % 5) = gTileW s - 1 := by unfold gTileW; omega
  have eh : s.tileH % (1 + s.h % 4) = gTileH s - 1 := by unfold gTileH; omega
  have bw := Int.emod_nonneg s.tileW (show 1 + s.w % 5 ≠ 0 by omega)
  have bw2 := Int.emod_lt_of_pos s.tileW (show 0 < 1 + s.w % 5 by omega)
  have bh := Int.emod_nonneg s.tileH (show 1 + s.h % 4 ≠ 0 by omega)
  have bh2 := Int.emod_lt_of_pos s.tileH (show 0 < 1 + s.h % 4 by omega)
  have hmx : Pure Sg 24 [I s.bits] (fun r => r = .b (U (gMax s.bits))) := max_spec _
  refine pure_le ?_
  refine pure_of Tryd.func7 rfl (rs := [.cell 2 32]) rfl rfl mixed (by decide +kernel) (Nat.le_of_ble_eq_true rfl) (argsLt_mem (by simp (maxSteps := 1000000) (disch := omega) only [go_sem])) ?_
  repeat' (first | refine cw_assoc ?_ | refine cw_skips ?_ | refine cw_labels ?_ | ((first | (with_reducible refine cw_stepV (id := 10) (fun K hW => ?_)) | refine cw_step (fun K hK => ?_) | refine cw_last (fun K hK => ?_) | refine cw_stepD (by decide +kernel) (by decide +kernel) (fun K hK => ?_) | refine cw_lastD (by decide +kernel) (by decide +kernel) (fun K hK => ?_) | refine rgB_some ?_ | refine call_a (hmx) ?_ | refine gcall_a (fun hg => hmx) ?_ | refine call_a (modp_spec _ _ (by omega) (by omega)) ?_ | refine gcall_a (fun hg => modp_spec _ _ (by omega) (by omega)) ?_ | refine call_a (tiles_spec ⟨_, _, _, _⟩ _ _) ?_ | refine gcall_a (fun hg => tiles_spec ⟨_, _, _, _⟩ _ _) ?_); (try simp (maxSteps := 1000000) (disch := omega) only [go_sem]); (repeat' (refine And.intro ?_ ?_)); (all_goals first | (refine hK _ ?_; clear hK K) | exact auto_cl | skip)) | ((first | apply cw_ite | apply cw_iteN); (case hf => rfl); (case hc => simp (maxSteps := 1000000) (disch := omega) only [go_sem]; rfl); (all_goals first | (intro hb; (try simp only [hbs] at hb)) | skip)) | exact atN_intro | ((first | apply cw_if | apply cw_cond); (case hc => simp (maxSteps := 1000000) (disch := omega) only [go_sem]; rfl); (all_goals (intro hb; (try simp only [hbs] at hb); try (exfalso; omega)))) | (refine cw_blocks (fun KB hB => ?_)) | (refine cw_block ?_) | ((first | refine cw_exits ?_ | refine cw_exit ?_ | refine cw_skip ?_); simp (maxSteps := 1000000) (disch := omega) only [go_sem]) | (refine hB _ ?_; clear hB KB) | (refine exit_by (S := Sg) (by assumption) ?_) | ((first | refine cw_rets ?_ | refine cw_ret ?_); simp (maxSteps := 1000000) (disch := omega) only [go_sem]; (try clear hB KB); (try clear hK K)))
  refine call_as ?_ ?_ (by simp (maxSteps := 1000000) (disch := omega) only [go_sem]) (permutation_spec s.order (tilesX (gCanvas s) (gTileW s) (gTileH s) * tilesY (gCanvas s) (gTileW s) (gTileH s)) ho htw.2)
  try simp (maxSteps := 1000000) (disch := omega) only [go_sem]
  try (refine hK _ ?_; clear hK K)
  rotate_left
  · rw [← htw.1]
    have e1 : 1 + s.tileW % (1 + s.w % 5) = gTileW s := rfl
    have e2 : 1 + s.tileH % (1 + s.h % 4) = gTileH s := rfl
    simp only [e1, e2]
    rfl
  refine hW _ (mkSt [(1, .b (.c (.ptr 0 0))), (2, .b (.c (.ptr 1 0))), (3, .b (U (gMax s.bits))), (4, .b (.c (.ptr 2 0))), (7, .b (I (1 + s.w % 5))), (8, .b (I (1 + s.h % 4)))]
    [(0, .fix ((sceneE s).map CV.p)), (1, .fix ((List.range 10).map fun _ => CV.p .any)), (2, .fix [.p (PI (gScript s).bits), .p (PI (gCanvas s).x0), .p (PI (gCanvas s).y0), .p (PI (gCanvas s).x1), .p (PI (gCanvas s).y1), .p (PI (gTileW s)), .p (PI (gTileH s)), .p (ints (gScript s).order), .p Nil, .p Nil])] 3) ?_ ?_
  · clear hW
    refine le_of [(1, some 1), (2, some 2)] rfl (by decide) rfl ?_ ?_
    all_goals simp (maxSteps := 1000000) (disch := omega) only [go_sem]
    repeat' (refine And.intro ?_ ?_)
    all_goals first | rfl | omega | exact .inl rfl | trivial | skip
  clear hW
  refine cw_assoc ?_
  refine cw_step fun K hK => ?_
  simp (maxSteps := 1000000) (disch := omega) only [go_sem]
  repeat' (refine And.intro ?_ ?_)
  all_goals first | (refine hK _ ?_; clear hK K) | exact auto_cl | skip
  refine cw_blocksV fun KB hV => ?_
  refine cw_loop (X := Nat) (fun i => mkSt [(1, .b (.c (.ptr 0 0))), (2, .b (.c (.ptr 1 0))), (3, .b (U (gMax s.bits))), (4, .b (.c (.ptr 2 0))), (7, .b (I (1 + s.w % 5))), (8, .b (I (1 + s.h % 4))), (12, .b (I i))]
    [(0, .fix ((sceneE s).map CV.p)), (1, .fix ((List.range 10).map fun _ => CV.p .any)), (2, .fix [.p (PI (gScript s).bits), .p (PI (gCanvas s).x0), .p (PI (gCanvas s).y0), .p (PI (gCanvas s).x1), .p (PI (gCanvas s).y1), .p (PI (gTileW s)), .p (PI (gTileH s)), .p (ints (gScript s).order), .own 3 i, .p Nil]),
     (3, .arr 45 28 i (fnOf imageE ((gImages0 s).take i)))] 4) (fun i => i ≤ s.pics.length ∧ i ≤ 4) (fun i => 4 - i) 0 ?_ ?_ ?_
  · omega
  · refine le_of [(1, some 1), (2, some 2), (3, none)] rfl (by decide) rfl ?_ ?_
    all_goals simp (maxSteps := 1000000) (disch := omega) only [go_sem]
    repeat' (refine And.intro ?_ ?_)
    all_goals first | rfl | omega | exact .inl rfl | trivial | skip
  · rintro i ⟨hi, hi4⟩
    have him : i < s.pics.length → PicOk (s.pics.getD i default) := hpic i
    repeat' (first | ((first | ((with_reducible refine cw_stepDK (id := 14) [] (by decide +kernel) (by decide +kernel) ?_ (fun K hK => ?_)); (focus (refine And.intro (fun iw hiw => by ((try simp (maxSteps := 1000000) (disch := omega) only [go_sem] at hiw ⊢); (repeat (first | rfl | exact if_neg (by omega) | rw [if_neg (by omega)])); done)) (by first | exact Nat.zero_le _ | (simp (maxSteps := 1000000) (disch := omega) only [go_sem]; done) | (simp (maxSteps := 1000000) (disch := omega) only [go_sem]; omega) | decide)))) | ((with_reducible refine cw_lastDK (id := 14) [] (by decide +kernel) (by decide +kernel) ?_ (fun K hK => ?_)); (focus (refine And.intro (fun iw hiw => by ((try simp (maxSteps := 1000000) (disch := omega) only [go_sem] at hiw ⊢); (repeat (first | rfl | exact if_neg (by omega) | rw [if_neg (by omega)])); done)) (by first | exact Nat.zero_le _ | (simp (maxSteps := 1000000) (disch := omega) only [go_sem]; done) | (simp (maxSteps := 1000000) (disch := omega) only [go_sem]; omega) | decide))))); (try simp (maxSteps := 1000000) (disch := omega) only [go_sem]); (repeat' (refine And.intro ?_ ?_)); (all_goals first | (refine hK _ (by simp (maxSteps := 1000000) (disch := omega) only [go_sem]) ?_; clear hK K) | exact auto_cl | skip)) | refine cw_assoc ?_ | refine cw_skips ?_ | refine cw_labels ?_ | ((first | refine cw_step (fun K hK => ?_) | refine cw_last (fun K hK => ?_) | refine cw_stepD (by decide +kernel) (by decide +kernel) (fun K hK => ?_) | refine cw_lastD (by decide +kernel) (by decide +kernel) (fun K hK => ?_) | refine rgB_some ?_); (try simp (maxSteps := 1000000) (disch := omega) only [go_sem]); (repeat' (refine And.intro ?_ ?_)); (all_goals first | (refine hK _ ?_; clear hK K) | exact auto_cl | skip)) | ((first | apply cw_ite | apply cw_iteN); (case hf => rfl); (case hc => simp (maxSteps := 1000000) (disch := omega) only [go_sem]; rfl); (all_goals first | (intro hb; (try simp only [hbs] at hb)) | skip)) | exact atN_intro | ((first | apply cw_if | apply cw_cond); (case hc => simp (maxSteps := 1000000) (disch := omega) only [go_sem]; rfl); (all_goals (intro hb; (try simp only [hbs] at hb); try (exfalso; omega)))) | (refine cw_blocks (fun KB hB => ?_)) | (refine cw_block ?_) | ((first | refine cw_exits ?_ | refine cw_exit ?_ | refine cw_skip ?_); simp (maxSteps := 1000000) (disch := omega) only [go_sem]) | (refine hB _ ?_; clear hB KB) | (refine exit_by (S := Sg) (by assumption) ?_) | ((first | refine cw_rets ?_ | refine cw_ret ?_); simp (maxSteps := 1000000) (disch := omega) only [go_sem]; (try clear hB KB); (try clear hK K)))
    · refine call_eq (image_spec (s.pics.getD (i : Int).toNat default) (gCanvas s) (gMax s.bits) (by rw [Int.toNat_natCast]; exact hpic i (by omega)) hsm (by unfold u16; omega)) (by simp (maxSteps := 1000000) (disch := omega) only [go_sem]) ?_
      try simp (maxSteps := 1000000) (disch := omega) only [go_sem]
      repeat' (refine And.intro ?_ ?_)
      all_goals first | (refine hK _ ?_; clear hK K) | exact auto_cl | skip
      refine hK _ trivial ?_
      clear hK
      repeat' (first | refine cw_assoc ?_ | refine cw_skips ?_ | refine cw_labels ?_ | ((first | refine cw_step (fun K hK => ?_) | refine cw_last (fun K hK => ?_) | refine cw_stepD (by decide +kernel) (by decide +kernel) (fun K hK => ?_) | refine cw_lastD (by decide +kernel) (by decide +kernel) (fun K hK => ?_) | refine rgB_some ?_); (try simp (maxSteps := 1000000) (disch := omega) only [go_sem]); (repeat' (refine And.intro ?_ ?_)); (all_goals first | (refine hK _ ?_; clear hK K) | exact auto_cl | skip)) | ((first | apply cw_ite | apply cw_iteN); (case hf => rfl); (case hc => simp (maxSteps := 1000000) (disch := omega) only [go_sem]; rfl); (all_goals first | (intro hb; (try simp only [hbs] at hb)) | skip)) | exact atN_intro | ((first | apply cw_if | apply cw_cond); (case hc => simp (maxSteps := 1000000) (disch := omega) only [go_sem]; rfl); (all_goals (intro hb; (try simp only [hbs] at hb); try (exfalso; omega)))) | (refine cw_blocks (fun KB hB => ?_)) | (refine cw_block ?_) | ((first | refine cw_exits ?_ | refine cw_exit ?_ | refine cw_skip ?_); simp (maxSteps := 1000000) (disch := omega) only [go_sem]) | (refine hB _ ?_; clear hB KB) | (refine exit_by (S := Sg) (by assumption) ?_) | ((first | refine cw_rets ?_ | refine cw_ret ?_); simp (maxSteps := 1000000) (disch := omega) only [go_sem]; (try clear hB KB); (try clear hK K)))
      rw [thenQ_normal]
      refine wk_loop (i + 1) ?_ (by omega) (by omega)
      have hl1 : ((gImages0 s).take i).length = i := by simp [gImages0]; omega
      have he : (gImages0 s).take (i + 1) = (gImages0 s).take i ++ [gImage (s.pics.getD i default) (gCanvas s) (gMax s.bits)] := by
        have h1 : i < (s.pics.take 4).length := by rw [List.length_take]; omega
        have h2 : i < s.pics.length := by omega
        simp only [gImages0, ← List.map_take]
        rw [List.take_add_one, List.map_append, List.getElem?_eq_getElem h1, List.getD_eq_getElem?_getD, List.getElem?_eq_getElem h2, List.getElem_take]
        rfl
      refine le_of [(1, some 1), (2, some 2), (3, some 5)] rfl (by decide) rfl ?_ ?_
      all_goals simp (maxSteps := 1000000) (disch := omega) only [go_sem]
      repeat' (refine And.intro ?_ ?_)
      all_goals first | rfl | omega | exact .inl rfl | trivial | skip
      have key := fun g hg => arr_push (enc := imageE) (xs := (gImages0 s).take i) (x := gImage (s.pics.getD i default) (gCanvas s) (gMax s.bits)) (s := 28) (g := g) hg
      simp only [hl1, ← he] at key
      refine .inr (key _ fun j hj => ?_)
      simp only [Int.toNat_natCast]
      have hivl : j = 0 ∨ j = 1 ∨ j = 2 ∨ j = 3 ∨ j = 4 ∨ j = 5 ∨ j = 6 ∨ j = 7 ∨ j = 8 ∨ j = 9 ∨ j = 10 ∨ j = 11 ∨ j = 12 ∨ j = 13 ∨ j = 14 ∨ j = 15 ∨ j = 16 ∨ j = 17 ∨ j = 18 ∨ j = 19 ∨ j = 20 ∨ j = 21 ∨ j = 22 ∨ j = 23 ∨ j = 24 ∨ j = 25 ∨ j = 26 ∨ j = 27 := by omega
      rcases hivl with rfl | rfl | rfl | rfl | rfl | rfl | rfl | rfl | rfl | rfl | rfl | rfl | rfl | rfl | rfl | rfl | rfl | rfl | rfl | rfl | rfl | rfl | rfl | rfl | rfl | rfl | rfl | rfl <;> rfl
    · have hn0 : i = (gImages0 s).length := by simp [gImages0]; omega
      refine hV _ (mkSt [(1, .b (.c (.ptr 0 0))), (2, .b (.c (.ptr 1 0))), (3, .b (U (gMax s.bits))), (4, .b (.c (.ptr 2 0))), (7, .b (I (1 + s.w % 5))), (8, .b (I (1 + s.h % 4)))]
        [(0, .fix ((sceneE s).map CV.p)), (1, .fix ((List.range 10).map fun _ => CV.p .any)), (2, .fix [.p (PI (gScript s).bits), .p (PI (gCanvas s).x0), .p (PI (gCanvas s).y0), .p (PI (gCanvas s).x1), .p (PI (gCanvas s).y1), .p (PI (gTileW s)), .p (PI (gTileH s)), .p (ints (gScript s).order), .own 3 (gImages0 s).length, .p Nil]), (3, .arr 45 28 (gImages0 s).length (fnOf imageE (gImages0 s)))] 4) ?_ ?_
      · rw [hn0, List.take_of_length_le (Nat.le_refl _)]
        refine le_of [(1, some 1), (2, some 2), (3, some 3)] rfl (by decide) rfl ?_ ?_
        all_goals simp (maxSteps := 1000000) (disch := omega) only [go_sem]
        repeat' (refine And.intro ?_ ?_)
        all_goals first | rfl | omega | exact .inl rfl | trivial | skip
      clear hV hn0 him
      refine cw_assoc ?_
      refine cw_step fun K hK => ?_
      simp (maxSteps := 1000000) (disch := omega) only [go_sem]
      repeat' (refine And.intro ?_ ?_)
      all_goals first | (refine hK _ ?_; clear hK K) | exact auto_cl | skip
      refine cw_ifM (t := (((gImages0 s).length : Int) == 0)) (mkSt [(1, .b (.c (.ptr 0 0))), (2, .b (.c (.ptr 1 0))), (3, .b (U (gMax s.bits))), (4, .b (.c (.ptr 2 0)))]
        [(0, .fix ((sceneE s).map CV.p)), (1, .fix ((List.range 10).map fun _ => CV.p .any)), (2, .fix [.p (PI (gScript s).bits), .p (PI (gCanvas s).x0), .p (PI (gCanvas s).y0), .p (PI (gCanvas s).x1), .p (PI (gCanvas s).y1), .p (PI (gTileW s)), .p (PI (gTileH s)), .p (ints (gScript s).order), .p (imgL (gImages s)), .p Nil])] 3) ?_ ?_ ?_ ?_
      · simp (maxSteps := 1000000) (disch := omega) only [go_sem]
      · intro hb
        have h0 : (gImages0 s).length = 0 := by simpa using hb
        have hi1 : gImages s = [solidOf (1 + s.w % 5) (1 + s.h % 4) ⟨gMax s.bits, 0, 0, gMax s.bits, gMax s.bits⟩] := by rw [gImages, if_pos h0]
        repeat' (first | ((first | ((with_reducible refine cw_stepDK (id := 16) [] (by decide +kernel) (by decide +kernel) ?_ (fun K hK => ?_)); (focus (refine And.intro (fun iw hiw => by ((try simp (maxSteps := 1000000) (disch := omega) only [go_sem] at hiw ⊢); (repeat (first | rfl | exact if_neg (by omega) | rw [if_neg (by omega)])); done)) (by first | exact Nat.zero_le _ | (simp (maxSteps := 1000000) (disch := omega) only [go_sem]; done) | (simp (maxSteps := 1000000) (disch := omega) only [go_sem]; omega) | decide)))) | ((with_reducible refine cw_lastDK (id := 16) [] (by decide +kernel) (by decide +kernel) ?_ (fun K hK => ?_)); (focus (refine And.intro (fun iw hiw => by ((try simp (maxSteps := 1000000) (disch := omega) only [go_sem] at hiw ⊢); (repeat (first | rfl | exact if_neg (by omega) | rw [if_neg (by omega)])); done)) (by first | exact Nat.zero_le _ | (simp (maxSteps := 1000000) (disch := omega) only [go_sem]; done) | (simp (maxSteps := 1000000) (disch := omega) only [go_sem]; omega) | decide))))); (try simp (maxSteps := 1000000) (disch := omega) only [go_sem]); (repeat' (refine And.intro ?_ ?_)); (all_goals first | (refine hK _ (by simp (maxSteps := 1000000) (disch := omega) only [go_sem]) ?_; clear hK K) | exact auto_cl | skip)) | refine cw_assoc ?_ | refine cw_skips ?_ | refine cw_labels ?_ | ((first | refine cw_step (fun K hK => ?_) | refine cw_last (fun K hK => ?_) | refine cw_stepD (by decide +kernel) (by decide +kernel) (fun K hK => ?_) | refine cw_lastD (by decide +kernel) (by decide +kernel) (fun K hK => ?_) | refine rgB_some ?_ | refine call_a (solid_spec (1 + s.w % 5) (1 + s.h % 4) ⟨gMax s.bits, 0, 0, gMax s.bits, gMax s.bits⟩) ?_ | refine gcall_a (fun hg => solid_spec (1 + s.w % 5) (1 + s.h % 4) ⟨gMax s.bits, 0, 0, gMax s.bits, gMax s.bits⟩) ?_); (try simp (maxSteps := 1000000) (disch := omega) only [go_sem]); (repeat' (refine And.intro ?_ ?_)); (all_goals first | (refine hK _ ?_; clear hK K) | exact auto_cl | skip)) | ((first | apply cw_ite | apply cw_iteN); (case hf => rfl); (case hc => simp (maxSteps := 1000000) (disch := omega) only [go_sem]; rfl); (all_goals first | (intro hb; (try simp only [hbs] at hb)) | skip)) | exact atN_intro | ((first | apply cw_if | apply cw_cond); (case hc => simp (maxSteps := 1000000) (disch := omega) only [go_sem]; rfl); (all_goals (intro hb; (try simp only [hbs] at hb); try (exfalso; omega)))) | (refine cw_blocks (fun KB hB => ?_)) | (refine cw_block ?_) | ((first | refine cw_exits ?_ | refine cw_exit ?_ | refine cw_skip ?_); simp (maxSteps := 1000000) (disch := omega) only [go_sem]) | (refine hB _ ?_; clear hB KB) | (refine exit_by (S := Sg) (by assumption) ?_) | ((first | refine cw_rets ?_ | refine cw_ret ?_); simp (maxSteps := 1000000) (disch := omega) only [go_sem]; (try clear hB KB); (try clear hK K)))
        refine hK _ trivial ?_
        clear hK
        rw [thenQ_normal, hi1]
        refine ⟨_, ?_, rfl⟩
        refine le_of [(1, some 1), (2, some 2)] rfl (by decide) rfl ?_ ?_
        all_goals simp (maxSteps := 1000000) (disch := omega) only [go_sem]
        repeat' (refine And.intro ?_ ?_)
        all_goals first | rfl | omega | exact .inl rfl | trivial | skip
        have h00 : gImages0 s = [] := List.eq_nil_of_length_eq_zero h0
        rw [h00]
        intro a ha j hj
        have : a = 0 := by simpa using ha
        subst this
        have hivl : j = 0 ∨ j = 1 ∨ j = 2 ∨ j = 3 ∨ j = 4 ∨ j = 5 ∨ j = 6 ∨ j = 7 ∨ j = 8 ∨ j = 9 ∨ j = 10 ∨ j = 11 ∨ j = 12 ∨ j = 13 ∨ j = 14 ∨ j = 15 ∨ j = 16 ∨ j = 17 ∨ j = 18 ∨ j = 19 ∨ j = 20 ∨ j = 21 ∨ j = 22 ∨ j = 23 ∨ j = 24 ∨ j = 25 ∨ j = 26 ∨ j = 27 := by omega
        rcases hivl with rfl | rfl | rfl | rfl | rfl | rfl | rfl | rfl | rfl | rfl | rfl | rfl | rfl | rfl | rfl | rfl | rfl | rfl | rfl | rfl | rfl | rfl | rfl | rfl | rfl | rfl | rfl | rfl <;> exact PV.le_refl _
      · intro hb
        have h0 : ¬ (gImages0 s).length = 0 := by simpa using hb
        have hi1 : gImages s = gImages0 s := by rw [gImages, if_neg h0]
        refine cw_skip ?_
        rw [thenQ_normal, hi1]
        refine ⟨_, ?_, rfl⟩
        refine le_of [(1, some 1), (2, some 2)] rfl (by decide) rfl ?_ ?_
        all_goals simp (maxSteps := 1000000) (disch := omega) only [go_sem]
        repeat' (refine And.intro ?_ ?_)
        all_goals first | rfl | omega | exact .inl rfl | trivial | skip
        exact fun _ _ _ _ => PV.le_refl _
      have h3m : u16 (gMax s.bits) := by unfold u16; omega
      have him1 : 1 ≤ (gImages s).length ∧ (gImages s).length ≤ 4 := by
        unfold gImages
        split
        · simp
        · have : (gImages0 s).length ≤ 4 := by simp [gImages0]; omega
          omega
      refine cw_step fun K hK => ?_
      simp (maxSteps := 1000000) (disch := omega) only [go_sem]
      repeat' (refine And.intro ?_ ?_)
      all_goals first | (refine hK _ ?_; clear hK K) | exact auto_cl | skip
      refine cw_assoc ?_
      refine cw_step fun K hK => ?_
      simp (maxSteps := 1000000) (disch := omega) only [go_sem]
      repeat' (refine And.intro ?_ ?_)
      all_goals first | (refine hK _ ?_; clear hK K) | exact auto_cl | skip
      refine cw_blocksV fun KB2 hV2 => ?_
      refine cw_loop (X := Nat × List Op × List Op × List Op) (fun x => mkSt [(1, .b (.c (.ptr 0 0))), (2, .b (.c (.ptr 1 0))), (3, .b (U (gMax s.bits))), (4, .b (.c (.ptr 2 0))), (13, .b (.c (.own 4 x.2.2.1.length))), (14, .b (I x.1))]
        [(0, .fix ((sceneE s).map CV.p)), (1, .fix ((List.range 10).map fun _ => CV.p .any)), (2, .fix [.p (PI (gScript s).bits), .p (PI (gCanvas s).x0), .p (PI (gCanvas s).y0), .p (PI (gCanvas s).x1), .p (PI (gCanvas s).y1), .p (PI (gTileW s)), .p (PI (gTileH s)), .p (ints (gScript s).order), .p (imgL (gImages s)), .own 3 x.2.1.length]),
         (3, .arr 62 12 x.2.1.length (fnOf opE x.2.1)), (4, .arr 62 12 (x.2.2.1.length + x.2.2.2.length) (fnOf opE (x.2.2.1 ++ x.2.2.2)))] 5)
        (fun x => x.1 ≤ s.ops.length ∧ x.1 ≤ 9 ∧ (s.ops.take x.1).foldl (gStep (gImages s).length (gCanvas s) (gMax s.bits)) ([], []) = (x.2.1, x.2.2.1) ∧ x.2.1.length ≤ x.1 ∧ x.2.2.1.length ≤ x.1) (fun x => 9 - x.1) (0, [], [], []) ?_ ?_ ?_
      · exact ⟨by omega, by omega, rfl, Nat.le_refl _, Nat.le_refl _⟩
      · refine le_of [(1, some 1), (2, some 2), (3, none), (4, none)] rfl (by decide) rfl ?_ ?_
        all_goals simp (maxSteps := 1000000) (disch := omega) only [go_sem]
        repeat' (refine And.intro ?_ ?_)
        all_goals first | rfl | omega | exact .inl rfl | trivial | skip
      · rintro ⟨i, ops, l, jk⟩ ⟨hi, hi9, hf, ho1, hl1⟩
        dsimp only at hi hi9 hf ho1 hl1 ⊢
        have hstep : ∀ (hlt : i < s.ops.length) (q : List Op × List Op), gStep (gImages s).length (gCanvas s) (gMax s.bits) (ops, l) (s.ops.getD i default) = q → (s.ops.take (i + 1)).foldl (gStep (gImages s).length (gCanvas s) (gMax s.bits)) ([], []) = q := by
          rintro hlt q rfl
          rw [List.take_add_one, List.getElem?_eq_getElem hlt, List.foldl_append, hf, List.getD_eq_getElem?_getD, List.getElem?_eq_getElem hlt]
          rfl
        by_cases hc : i < s.ops.length ∧ i < 9
        · by_cases hk0 : (s.ops.getD i default).kind % 8 = 0 ∧ 0 < l.length
          · have hkT : ((s.ops.getD i default).kind % 8 == 0 && decide ((l.length : Int) > 0)) = true := by
              simp only [Bool.and_eq_true, beq_iff_eq, decide_eq_true_eq]; omega
            repeat' (first | ((first | apply cw_ifT | apply cw_condT); (case hc => simp (maxSteps := 1000000) (disch := omega) only [go_sem]; rfl); (case ht => (simp only [Int.toNat_natCast, Int.reduceBEq, Int.reduceBNe, Int.reduceLT, Int.reduceLE, decide_true, decide_false, Bool.not_true, Bool.not_false, Bool.and_true, Bool.true_and, Bool.and_false, Bool.false_and, Bool.or_true, Bool.true_or, Bool.or_false, Bool.false_or, hkT]; done))) | ((first | apply cw_ifF | apply cw_condF); (case hc => simp (maxSteps := 1000000) (disch := omega) only [go_sem]; rfl); (case ht => (simp only [Int.toNat_natCast, Int.reduceBEq, Int.reduceBNe, Int.reduceLT, Int.reduceLE, decide_true, decide_false, Bool.not_true, Bool.not_false, Bool.and_true, Bool.true_and, Bool.and_false, Bool.false_and, Bool.or_true, Bool.true_or, Bool.or_false, Bool.false_or, hkT]; done))) | refine cw_assoc ?_ | refine cw_skips ?_ | refine cw_labels ?_ | ((first | refine cw_step (fun K hK => ?_) | refine cw_last (fun K hK => ?_) | refine cw_stepD (by decide +kernel) (by decide +kernel) (fun K hK => ?_) | refine cw_lastD (by decide +kernel) (by decide +kernel) (fun K hK => ?_) | refine rgB_some ?_ | refine call_a (modp_spec _ _ (by omega) (by omega)) ?_ | refine gcall_a (fun hg => modp_spec _ _ (by omega) (by omega)) ?_); (try simp (maxSteps := 1000000) (disch := omega) only [go_sem]); (repeat' (refine And.intro ?_ ?_)); (all_goals first | (refine hK _ ?_; clear hK K) | exact auto_cl | skip)) | ((first | apply cw_ite | apply cw_iteN); (case hf => rfl); (case hc => simp (maxSteps := 1000000) (disch := omega) only [go_sem]; rfl); (all_goals first | (intro hb; (try simp only [hbs] at hb)) | skip)) | exact atN_intro | ((first | apply cw_if | apply cw_cond); (case hc => simp (maxSteps := 1000000) (disch := omega) only [go_sem]; rfl); (all_goals (intro hb; (try simp only [hbs] at hb); try (exfalso; omega)))) | (refine cw_blocks (fun KB hB => ?_)) | (refine cw_block ?_) | ((first | refine cw_exits ?_ | refine cw_exit ?_ | refine cw_skip ?_); simp (maxSteps := 1000000) (disch := omega) only [go_sem]) | (refine hB _ ?_; clear hB KB) | (refine exit_by (S := Sg) (by assumption) ?_) | ((first | refine cw_rets ?_ | refine cw_ret ?_); simp (maxSteps := 1000000) (disch := omega) only [go_sem]; (try clear hB KB); (try clear hK K)))
            rw [thenQ_normal]
            have hp := hk0.2
            have hne : l ≠ [] := fun h => by rw [h] at hp; simp at hp
            have hj : l.dropLast ++ (l.getLast hne :: jk) = l ++ jk := by
              conv => rhs; rw [← List.dropLast_concat_getLast hne]
              simp
            refine wk_loop (i + 1, ops ++ [popOp], l.dropLast, l.getLast hne :: jk) ?_ ⟨by dsimp only; omega, by dsimp only; omega, hstep hc.1 _ (by rw [gStep, if_pos hk0]), by simp; omega, by rw [List.length_dropLast]; dsimp only; omega⟩ (by dsimp only; omega)
            dsimp only
            rw [hj]
            refine le_of [(1, some 1), (2, some 2), (3, some 6), (4, some 4)] rfl (by decide) rfl ?_ ?_
            all_goals simp (maxSteps := 1000000) (disch := omega) only [go_sem]
            repeat' (refine And.intro ?_ ?_)
            all_goals first | rfl | omega | exact .inl rfl | trivial | skip
            · rw [List.length_dropLast]; omega
            · simp
            · simp
            · refine .inr fun a ha j hj => arr_push (fun j hj => ?_) a ha j hj
              have hivl : j = 0 ∨ j = 1 ∨ j = 2 ∨ j = 3 ∨ j = 4 ∨ j = 5 ∨ j = 6 ∨ j = 7 ∨ j = 8 ∨ j = 9 ∨ j = 10 ∨ j = 11 := by omega
              rcases hivl with rfl | rfl | rfl | rfl | rfl | rfl | rfl | rfl | rfl | rfl | rfl | rfl <;> rfl
            · rw [List.length_dropLast]; omega
          · have hkF : ((s.ops.getD i default).kind % 8 == 0 && decide ((l.length : Int) > 0)) = false := by
              rw [Bool.eq_false_iff]
              intro h
              simp only [Bool.and_eq_true, beq_iff_eq, decide_eq_true_eq] at h
              exact hk0 ⟨h.1, by omega⟩
            have hraw1 : RawOk (s.ops.getD (i : Int).toNat default) := hraw i hc.1
            have hcb : -2000000000 ≤ (gCanvas s).x0 ∧ (gCanvas s).x0 ≤ 2000000000 ∧ -2000000000 ≤ (gCanvas s).y0 ∧ (gCanvas s).y0 ≤ 2000000000 := by
              unfold gCanvas
              dsimp only
              omega
            repeat' (first | ((first | apply cw_ifT | apply cw_condT); (case hc => simp (maxSteps := 1000000) (disch := omega) only [go_sem]; rfl); (case ht => (simp only [Int.toNat_natCast, Int.reduceBEq, Int.reduceBNe, Int.reduceLT, Int.reduceLE, decide_true, decide_false, Bool.not_true, Bool.not_false, Bool.and_true, Bool.true_and, Bool.and_false, Bool.false_and, Bool.or_true, Bool.true_or, Bool.or_false, Bool.false_or, hkF]; done))) | ((first | apply cw_ifF | apply cw_condF); (case hc => simp (maxSteps := 1000000) (disch := omega) only [go_sem]; rfl); (case ht => (simp only [Int.toNat_natCast, Int.reduceBEq, Int.reduceBNe, Int.reduceLT, Int.reduceLE, decide_true, decide_false, Bool.not_true, Bool.not_false, Bool.and_true, Bool.true_and, Bool.and_false, Bool.false_and, Bool.or_true, Bool.true_or, Bool.or_false, Bool.false_or, hkF]; done))) | refine cw_assoc ?_ | refine cw_skips ?_ | refine cw_labels ?_ | ((first | refine cw_step (fun K hK => ?_) | refine cw_last (fun K hK => ?_) | refine cw_stepD (by decide +kernel) (by decide +kernel) (fun K hK => ?_) | refine cw_lastD (by decide +kernel) (by decide +kernel) (fun K hK => ?_) | refine rgB_some ?_ | refine call_a (modp_spec _ _ (by omega) (by omega)) ?_ | refine gcall_a (fun hg => modp_spec _ _ (by omega) (by omega)) ?_); (try simp (maxSteps := 1000000) (disch := omega) only [go_sem]); (repeat' (refine And.intro ?_ ?_)); (all_goals first | (refine hK _ ?_; clear hK K) | exact auto_cl | skip)) | ((first | apply cw_ite | apply cw_iteN); (case hf => rfl); (case hc => simp (maxSteps := 1000000) (disch := omega) only [go_sem]; rfl); (all_goals first | (intro hb; (try simp only [hbs] at hb)) | skip)) | exact atN_intro | ((first | apply cw_if | apply cw_cond); (case hc => simp (maxSteps := 1000000) (disch := omega) only [go_sem]; rfl); (all_goals (intro hb; (try simp only [hbs] at hb); try (exfalso; omega)))) | (refine cw_blocks (fun KB hB => ?_)) | (refine cw_block ?_) | ((first | refine cw_exits ?_ | refine cw_exit ?_ | refine cw_skip ?_); simp (maxSteps := 1000000) (disch := omega) only [go_sem]) | (refine hB _ ?_; clear hB KB) | (refine exit_by (S := Sg) (by assumption) ?_) | ((first | refine cw_rets ?_ | refine cw_ret ?_); simp (maxSteps := 1000000) (disch := omega) only [go_sem]; (try clear hB KB); (try clear hK K)))
            any_goals (focus (simp only [beq_eq_false_iff_ne, ne_eq]; omega))
            any_goals (focus (rintro ⟨q1, q2⟩; refine ⟨⟨q1, q2⟩, ?_⟩; simp only [beq_eq_false_iff_ne, ne_eq] at q1; omega))
            repeat' (first | ((first | ((with_reducible refine cw_stepDK (id := 27) [] (by decide +kernel) (by decide +kernel) ?_ (fun K hK => ?_)); (focus (refine And.intro (fun iw hiw => by ((try simp (maxSteps := 1000000) (disch := omega) only [go_sem] at hiw ⊢); (repeat (first | rfl | exact if_neg (by omega) | rw [if_neg (by omega)])); done)) (by first | exact Nat.zero_le _ | (simp (maxSteps := 1000000) (disch := omega) only [go_sem]; done) | (simp (maxSteps := 1000000) (disch := omega) only [go_sem]; omega) | decide)))) | ((with_reducible refine cw_lastDK (id := 27) [] (by decide +kernel) (by decide +kernel) ?_ (fun K hK => ?_)); (focus (refine And.intro (fun iw hiw => by ((try simp (maxSteps := 1000000) (disch := omega) only [go_sem] at hiw ⊢); (repeat (first | rfl | exact if_neg (by omega) | rw [if_neg (by omega)])); done)) (by first | exact Nat.zero_le _ | (simp (maxSteps := 1000000) (disch := omega) only [go_sem]; done) | (simp (maxSteps := 1000000) (disch := omega) only [go_sem]; omega) | decide))))); (try simp (maxSteps := 1000000) (disch := omega) only [go_sem]); (repeat' (refine And.intro ?_ ?_)); (all_goals first | (refine hK _ (by simp (maxSteps := 1000000) (disch := omega) only [go_sem]) ?_; clear hK K) | exact auto_cl | skip)) | refine cw_assoc ?_ | refine cw_skips ?_ | refine cw_labels ?_ | ((first | refine cw_step (fun K hK => ?_) | refine cw_last (fun K hK => ?_) | refine cw_stepD (by decide +kernel) (by decide +kernel) (fun K hK => ?_) | refine cw_lastD (by decide +kernel) (by decide +kernel) (fun K hK => ?_) | refine rgB_some ?_ | refine call_a (op_spec _ _ _ (gCanvas s) _ (gMax s.bits) hraw1 (by omega) (by omega) hcb.1 hcb.2.1 hcb.2.2.1 hcb.2.2.2 h3m) ?_ | refine gcall_a (fun hg => op_spec _ _ _ (gCanvas s) _ (gMax s.bits) hraw1 (by omega) (by omega) hcb.1 hcb.2.1 hcb.2.2.1 hcb.2.2.2 h3m) ?_); (try simp (maxSteps := 1000000) (disch := omega) only [go_sem]); (repeat' (refine And.intro ?_ ?_)); (all_goals first | (refine hK _ ?_; clear hK K) | exact auto_cl | skip)) | ((first | apply cw_ite | apply cw_iteN); (case hf => rfl); (case hc => simp (maxSteps := 1000000) (disch := omega) only [go_sem]; rfl); (all_goals first | (intro hb; (try simp only [hbs] at hb)) | skip)) | exact atN_intro | ((first | apply cw_if | apply cw_cond); (case hc => simp (maxSteps := 1000000) (disch := omega) only [go_sem]; rfl); (all_goals (intro hb; (try simp only [hbs] at hb); try (exfalso; omega)))) | (refine cw_blocks (fun KB hB => ?_)) | (refine cw_block ?_) | ((first | refine cw_exits ?_ | refine cw_exit ?_ | refine cw_skip ?_); simp (maxSteps := 1000000) (disch := omega) only [go_sem]) | (refine hB _ ?_; clear hB KB) | (refine exit_by (S := Sg) (by assumption) ?_) | ((first | refine cw_rets ?_ | refine cw_ret ?_); simp (maxSteps := 1000000) (disch := omega) only [go_sem]; (try clear hB KB); (try clear hK K)))
            refine hK _ trivial ?_
            clear hK
            have hfr : ((l.length : Int) == 0 || ((l ++ jk).getD ((l.length : Int) - 1).toNat default).isolated && !((l ++ jk).getD ((l.length : Int) - 1).toNat default).knockout) = ctxOk l := by
              cases hl0 : l with
              | nil => rfl
              | cons a r =>
                rw [← hl0]
                have hpos : 0 < l.length := by rw [hl0]; simp
                have e1 : ((l.length : Int) - 1).toNat = l.length - 1 := by omega
                have e2 : (l ++ jk).getD (l.length - 1) default = l.getD (l.length - 1) default := by
                  rw [List.getD_eq_getElem?_getD, List.getD_eq_getElem?_getD, List.getElem?_append_left (by omega)]
                have e3 : ((l.length : Int) == 0) = false := beq_eq_false_iff_ne.2 (by omega)
                have e4 : l.isEmpty = false := by rw [hl0]; rfl
                rw [e1, e2, e3, ctxOk, e4]
            generalize hO : gOp (s.ops.getD i default) (decide ((s.ops.getD i default).kind % 8 < 3)) (gImages s).length (gCanvas s).x0 (gCanvas s).y0 (ctxOk l) (gMax s.bits) = O at *
            by_cases hp : (s.ops.getD i default).kind % 8 < 3
            · have gk : ∀ f x y, ((gOp (s.ops.getD i default) (decide ((s.ops.getD i default).kind % 8 < 3)) (gImages s).length x y f (gMax s.bits)).kind == 2) = true := fun f x y => by rw [decide_eq_true hp]; rfl
              repeat' (first | ((first | apply cw_ifT | apply cw_condT); (case hc => simp (maxSteps := 1000000) (disch := omega) only [go_sem]; rfl); (case ht => (simp only [Int.toNat_natCast, Int.reduceBEq, Int.reduceBNe, Int.reduceLT, Int.reduceLE, decide_true, decide_false, Bool.not_true, Bool.not_false, Bool.and_true, Bool.true_and, Bool.and_false, Bool.false_and, Bool.or_true, Bool.true_or, Bool.or_false, Bool.false_or, gk]; done))) | ((first | apply cw_ifF | apply cw_condF); (case hc => simp (maxSteps := 1000000) (disch := omega) only [go_sem]; rfl); (case ht => (simp only [Int.toNat_natCast, Int.reduceBEq, Int.reduceBNe, Int.reduceLT, Int.reduceLE, decide_true, decide_false, Bool.not_true, Bool.not_false, Bool.and_true, Bool.true_and, Bool.and_false, Bool.false_and, Bool.or_true, Bool.true_or, Bool.or_false, Bool.false_or, gk]; done))) | refine cw_assoc ?_ | refine cw_skips ?_ | refine cw_labels ?_ | ((first | refine cw_step (fun K hK => ?_) | refine cw_last (fun K hK => ?_) | refine cw_stepD (by decide +kernel) (by decide +kernel) (fun K hK => ?_) | refine cw_lastD (by decide +kernel) (by decide +kernel) (fun K hK => ?_) | refine rgB_some ?_); (try simp (maxSteps := 1000000) (disch := omega) only [go_sem]); (repeat' (refine And.intro ?_ ?_)); (all_goals first | (refine hK _ ?_; clear hK K) | exact auto_cl | skip)) | ((first | apply cw_ite | apply cw_iteN); (case hf => rfl); (case hc => simp (maxSteps := 1000000) (disch := omega) only [go_sem]; rfl); (all_goals first | (intro hb; (try simp only [hbs] at hb)) | skip)) | exact atN_intro | ((first | apply cw_if | apply cw_cond); (case hc => simp (maxSteps := 1000000) (disch := omega) only [go_sem]; rfl); (all_goals (intro hb; (try simp only [hbs] at hb); try (exfalso; omega)))) | (refine cw_blocks (fun KB hB => ?_)) | (refine cw_block ?_) | ((first | refine cw_exits ?_ | refine cw_exit ?_ | refine cw_skip ?_); simp (maxSteps := 1000000) (disch := omega) only [go_sem]) | (refine hB _ ?_; clear hB KB) | (refine exit_by (S := Sg) (by assumption) ?_) | ((first | refine cw_rets ?_ | refine cw_ret ?_); simp (maxSteps := 1000000) (disch := omega) only [go_sem]; (try clear hB KB); (try clear hK K)))
              rw [thenQ_normal]
              simp only [hfr, Int.toNat_natCast, hO]
              refine wk_loop (i + 1, ops ++ [O], l ++ [O], []) ?_ ⟨by dsimp only; omega, by dsimp only; omega, hstep hc.1 _ (by rw [gStep, if_neg hk0, if_pos hp]; dsimp only; rw [hO]), by simp; omega, by simp; omega⟩ (by dsimp only; omega)
              simp only [List.append_nil, List.length_nil, Nat.add_zero]
              refine le_of [(1, some 1), (2, some 2), (3, some 7), (4, some 9)] rfl (by decide) rfl ?_ ?_
              all_goals simp (maxSteps := 1000000) (disch := omega) only [go_sem]
              repeat' (refine And.intro ?_ ?_)
              all_goals first | rfl | omega | exact .inl rfl | trivial | skip
              · simp
              · simp
              · simp
              · refine .inr fun a ha j hj => arr_push (fun j hj => ?_) a ha j hj
                have hivl : j = 0 ∨ j = 1 ∨ j = 2 ∨ j = 3 ∨ j = 4 ∨ j = 5 ∨ j = 6 ∨ j = 7 ∨ j = 8 ∨ j = 9 ∨ j = 10 ∨ j = 11 := by omega
                rcases hivl with rfl | rfl | rfl | rfl | rfl | rfl | rfl | rfl | rfl | rfl | rfl | rfl <;> rfl
              · simp
              · refine .inr fun a ha j hj => arr_push_junk (fun j hj => ?_) a ha j hj
                have hivl : j = 0 ∨ j = 1 ∨ j = 2 ∨ j = 3 ∨ j = 4 ∨ j = 5 ∨ j = 6 ∨ j = 7 ∨ j = 8 ∨ j = 9 ∨ j = 10 ∨ j = 11 := by omega
                rcases hivl with rfl | rfl | rfl | rfl | rfl | rfl | rfl | rfl | rfl | rfl | rfl | rfl <;> rfl
            · have gk : ∀ f x y, ((gOp (s.ops.getD i default) (decide ((s.ops.getD i default).kind % 8 < 3)) (gImages s).length x y f (gMax s.bits)).kind == 2) = false := fun f x y => by rw [decide_eq_false hp]; rfl
              repeat' (first | ((first | apply cw_ifT | apply cw_condT); (case hc => simp (maxSteps := 1000000) (disch := omega) only [go_sem]; rfl); (case ht => (simp only [Int.toNat_natCast, Int.reduceBEq, Int.reduceBNe, Int.reduceLT, Int.reduceLE, decide_true, decide_false, Bool.not_true, Bool.not_false, Bool.and_true, Bool.true_and, Bool.and_false, Bool.false_and, Bool.or_true, Bool.true_or, Bool.or_false, Bool.false_or, gk]; done))) | ((first | apply cw_ifF | apply cw_condF); (case hc => simp (maxSteps := 1000000) (disch := omega) only [go_sem]; rfl); (case ht => (simp only [Int.toNat_natCast, Int.reduceBEq, Int.reduceBNe, Int.reduceLT, Int.reduceLE, decide_true, decide_false, Bool.not_true, Bool.not_false, Bool.and_true, Bool.true_and, Bool.and_false, Bool.false_and, Bool.or_true, Bool.true_or, Bool.or_false, Bool.false_or, gk]; done))) | refine cw_assoc ?_ | refine cw_skips ?_ | refine cw_labels ?_ | ((first | refine cw_step (fun K hK => ?_) | refine cw_last (fun K hK => ?_) | refine cw_stepD (by decide +kernel) (by decide +kernel) (fun K hK => ?_) | refine cw_lastD (by decide +kernel) (by decide +kernel) (fun K hK => ?_) | refine rgB_some ?_); (try simp (maxSteps := 1000000) (disch := omega) only [go_sem]); (repeat' (refine And.intro ?_ ?_)); (all_goals first | (refine hK _ ?_; clear hK K) | exact auto_cl | skip)) | ((first | apply cw_ite | apply cw_iteN); (case hf => rfl); (case hc => simp (maxSteps := 1000000) (disch := omega) only [go_sem]; rfl); (all_goals first | (intro hb; (try simp only [hbs] at hb)) | skip)) | exact atN_intro | ((first | apply cw_if | apply cw_cond); (case hc => simp (maxSteps := 1000000) (disch := omega) only [go_sem]; rfl); (all_goals (intro hb; (try simp only [hbs] at hb); try (exfalso; omega)))) | (refine cw_blocks (fun KB hB => ?_)) | (refine cw_block ?_) | ((first | refine cw_exits ?_ | refine cw_exit ?_ | refine cw_skip ?_); simp (maxSteps := 1000000) (disch := omega) only [go_sem]) | (refine hB _ ?_; clear hB KB) | (refine exit_by (S := Sg) (by assumption) ?_) | ((first | refine cw_rets ?_ | refine cw_ret ?_); simp (maxSteps := 1000000) (disch := omega) only [go_sem]; (try clear hB KB); (try clear hK K)))
              rw [thenQ_normal]
              simp only [hfr, Int.toNat_natCast, hO]
              refine wk_loop (i + 1, ops ++ [O], l, jk) ?_ ⟨by dsimp only; omega, by dsimp only; omega, hstep hc.1 _ (by rw [gStep, if_neg hk0, if_neg hp]; dsimp only; rw [hO]), by simp; omega, by dsimp only; omega⟩ (by dsimp only; omega)
              dsimp only
              refine le_of [(1, some 1), (2, some 2), (3, some 7), (4, some 4)] rfl (by decide) rfl ?_ ?_
              all_goals simp (maxSteps := 1000000) (disch := omega) only [go_sem]
              repeat' (refine And.intro ?_ ?_)
              all_goals first | rfl | omega | exact .inl rfl | trivial | skip
              · simp
              · simp
              · refine .inr fun a ha j hj => arr_push (fun j hj => ?_) a ha j hj
                have hivl : j = 0 ∨ j = 1 ∨ j = 2 ∨ j = 3 ∨ j = 4 ∨ j = 5 ∨ j = 6 ∨ j = 7 ∨ j = 8 ∨ j = 9 ∨ j = 10 ∨ j = 11 := by omega
                rcases hivl with rfl | rfl | rfl | rfl | rfl | rfl | rfl | rfl | rfl | rfl | rfl | rfl <;> rfl
        · repeat' (first | refine cw_assoc ?_ | refine cw_skips ?_ | refine cw_labels ?_ | ((first | refine cw_step (fun K hK => ?_) | refine cw_last (fun K hK => ?_) | refine cw_stepD (by decide +kernel) (by decide +kernel) (fun K hK => ?_) | refine cw_lastD (by decide +kernel) (by decide +kernel) (fun K hK => ?_) | refine rgB_some ?_); (try simp (maxSteps := 1000000) (disch := omega) only [go_sem]); (repeat' (refine And.intro ?_ ?_)); (all_goals first | (refine hK _ ?_; clear hK K) | exact auto_cl | skip)) | ((first | apply cw_ite | apply cw_iteN); (case hf => rfl); (case hc => simp (maxSteps := 1000000) (disch := omega) only [go_sem]; rfl); (all_goals first | (intro hb; (try simp only [hbs] at hb)) | skip)) | exact atN_intro | ((first | apply cw_if | apply cw_cond); (case hc => simp (maxSteps := 1000000) (disch := omega) only [go_sem]; rfl); (all_goals (intro hb; (try simp only [hbs] at hb); try (exfalso; omega)))) | (refine cw_blocks (fun KB hB => ?_)) | (refine cw_block ?_) | ((first | refine cw_exits ?_ | refine cw_exit ?_ | refine cw_skip ?_); simp (maxSteps := 1000000) (disch := omega) only [go_sem]) | (refine hB _ ?_; clear hB KB) | (refine exit_by (S := Sg) (by assumption) ?_) | ((first | refine cw_rets ?_ | refine cw_ret ?_); simp (maxSteps := 1000000) (disch := omega) only [go_sem]; (try clear hB KB); (try clear hK K)))
          have hc2 : i = s.ops.length ∨ i = 9 := by omega
          have hfin : gOps s = (ops, l) := by
            rw [gOps, ← hf]
            rcases hc2 with h | h
            · rw [h, List.take_of_length_le (Nat.le_refl _), List.take_of_length_le (by omega)]
            · rw [h]
          refine hV2 _ (mkSt [(1, .b (.c (.ptr 0 0))), (2, .b (.c (.ptr 1 0))), (4, .b (.c (.ptr 2 0))), (13, .b (.c (.own 4 l.length)))]
            [(0, .fix ((sceneE s).map CV.p)), (1, .fix ((List.range 10).map fun _ => CV.p .any)), (2, .fix [.p (PI (gScript s).bits), .p (PI (gCanvas s).x0), .p (PI (gCanvas s).y0), .p (PI (gCanvas s).x1), .p (PI (gCanvas s).y1), .p (PI (gTileW s)), .p (PI (gTileH s)), .p (ints (gScript s).order), .p (imgL (gImages s)), .own 3 ops.length]),
             (3, .arr 62 12 ops.length (fnOf opE ops)), (4, .arr 62 12 (l.length + jk.length) (fnOf opE (l ++ jk)))] 5) ?_ ?_
          · refine le_of [(1, some 1), (2, some 2), (3, some 3), (4, some 4)] rfl (by decide) rfl ?_ ?_
            all_goals simp (maxSteps := 1000000) (disch := omega) only [go_sem]
            repeat' (refine And.intro ?_ ?_)
            all_goals first | rfl | omega | exact .inl rfl | trivial | skip
          clear hV2 hraw hstep hf
          refine cw_assoc ?_
          refine cw_step fun K hK => ?_
          simp (maxSteps := 1000000) (disch := omega) only [go_sem]
          repeat' (refine And.intro ?_ ?_)
          all_goals first | (refine hK _ ?_; clear hK K) | exact auto_cl | skip
          refine cw_blocks fun KB3 hB3 => ?_
          refine cw_loop (X := Nat) (fun k => mkSt [(1, .b (.c (.ptr 0 0))), (2, .b (.c (.ptr 1 0))), (4, .b (.c (.ptr 2 0))), (13, .b (.c (.own 4 l.length))), (19, .b (I k))]
            [(0, .fix ((sceneE s).map CV.p)), (1, .fix ((List.range 10).map fun _ => CV.p .any)), (2, .fix [.p (PI (gScript s).bits), .p (PI (gCanvas s).x0), .p (PI (gCanvas s).y0), .p (PI (gCanvas s).x1), .p (PI (gCanvas s).y1), .p (PI (gTileW s)), .p (PI (gTileH s)), .p (ints (gScript s).order), .p (imgL (gImages s)), .own 3 (ops.length + k)]),
             (3, .arr 62 12 (ops.length + k) (fnOf opE (ops ++ List.replicate k popOp))), (4, .arr 62 12 (l.length + jk.length) (fnOf opE (l ++ jk)))] 5) (fun k => k ≤ l.length) (fun k => l.length - k) 0 ?_ ?_ ?_
          · omega
          · refine le_of [(1, some 1), (2, some 2), (3, some 3), (4, some 4)] rfl (by decide) rfl ?_ ?_
            all_goals simp (maxSteps := 1000000) (disch := omega) only [go_sem]
            repeat' (refine And.intro ?_ ?_)
            all_goals first | rfl | omega | exact .inl rfl | trivial | skip
            exact .inl (by rw [List.replicate_zero, List.append_nil])
          · intro k hk
            repeat' (first | refine cw_assoc ?_ | refine cw_skips ?_ | refine cw_labels ?_ | ((first | refine cw_step (fun K hK => ?_) | refine cw_last (fun K hK => ?_) | refine cw_stepD (by decide +kernel) (by decide +kernel) (fun K hK => ?_) | refine cw_lastD (by decide +kernel) (by decide +kernel) (fun K hK => ?_) | refine rgB_some ?_); (try simp (maxSteps := 1000000) (disch := omega) only [go_sem]); (repeat' (refine And.intro ?_ ?_)); (all_goals first | (refine hK _ ?_; clear hK K) | exact auto_cl | skip)) | ((first | apply cw_ite | apply cw_iteN); (case hf => rfl); (case hc => simp (maxSteps := 1000000) (disch := omega) only [go_sem]; rfl); (all_goals first | (intro hb; (try simp only [hbs] at hb)) | skip)) | exact atN_intro | ((first | apply cw_if | apply cw_cond); (case hc => simp (maxSteps := 1000000) (disch := omega) only [go_sem]; rfl); (all_goals (intro hb; (try simp only [hbs] at hb); try (exfalso; omega)))) | (refine cw_blocks (fun KB hB => ?_)) | (refine cw_block ?_) | ((first | refine cw_exits ?_ | refine cw_exit ?_ | refine cw_skip ?_); simp (maxSteps := 1000000) (disch := omega) only [go_sem]) | (refine hB _ ?_; clear hB KB) | (refine exit_by (S := Sg) (by assumption) ?_) | ((first | refine cw_rets ?_ | refine cw_ret ?_); simp (maxSteps := 1000000) (disch := omega) only [go_sem]; (try clear hB KB); (try clear hK K)))
            · rw [thenQ_normal]
              refine wk_loop (k + 1) ?_ (by omega) (by omega)
              have hl1 : (ops ++ List.replicate k popOp).length = ops.length + k := by simp
              have he : (ops ++ List.replicate k popOp) ++ [popOp] = ops ++ List.replicate (k + 1) popOp := by rw [List.append_assoc, List.replicate_succ']
              refine le_of [(1, some 1), (2, some 2), (3, some 6), (4, some 4)] rfl (by decide) rfl ?_ ?_
              all_goals simp (maxSteps := 1000000) (disch := omega) only [go_sem]
              repeat' (refine And.intro ?_ ?_)
              all_goals first | rfl | omega | exact .inl rfl | trivial | skip
              have key := fun g hg => arr_push (enc := opE) (xs := ops ++ List.replicate k popOp) (x := popOp) (s := 12) (g := g) hg
              simp only [hl1, he] at key
              refine .inr (key _ fun j hj => ?_)
              have hivl : j = 0 ∨ j = 1 ∨ j = 2 ∨ j = 3 ∨ j = 4 ∨ j = 5 ∨ j = 6 ∨ j = 7 ∨ j = 8 ∨ j = 9 ∨ j = 10 ∨ j = 11 := by omega
              rcases hivl with rfl | rfl | rfl | rfl | rfl | rfl | rfl | rfl | rfl | rfl | rfl | rfl <;> rfl
            · have hk2 : k = l.length := by omega
              have e2 : ops ++ List.replicate k popOp = (gScript s).ops := by
                rw [hk2]
                show _ = (gOps s).1 ++ List.replicate (gOps s).2.length popOp
                rw [hfin]
              have e1 : ops.length + k = (gScript s).ops.length := by rw [← e2]; simp
              rw [e1, e2]
              refine sle_b (ble_agg ?_)
              simp only [List.map_cons, List.map_nil, cleL_cons, cleL_nil]
              repeat' (refine And.intro ?_ ?_)
              all_goals first | exact .inl rfl | exact .inl trivial | exact .inr nil_le | trivial | skip
end Go.Proofs.YtkjdljcbpbeehaaDoor

/- The given types of the scenes: whatever a row reads at them is such a scene. -/
set_option maxRecDepth 8000
namespace Go.Proofs.YtkjdljcbpbeehaaDoor
open Go Go.SL

theorem wf_i64 {n : Int} (h : (Lit.int .i64 n).wf = true) : i64 n := bounds_i64 h
theorem all_getD {α : Type} [Inhabited α] {p : α → Prop} {l : List α} (h : ∀ x ∈ l, p x) (i : Nat) (hi : i < l.length) : p (l.getD i default) := by
  rw [List.getD_eq_getElem?_getD, List.getElem?_eq_getElem hi]
  exact h _ (List.getElem_mem _)
theorem len_le {n b : Nat} (hb : 0 < b) (h : n * b ≤ reachBytes) : n ≤ 4611686018427387904 := by
  have : n ≤ n * b := Nat.le_mul_of_pos_right _ hb
  have e : reachBytes = 140737488351232 := rfl
  omega

theorem c_int : Cdc Sg.P 3 (fun n => [PI n]) i64 := (cdc_int (k := .i64) (by kernel_rfl)).to id (fun _ => rfl) (fun _ h => wf_i64 h)
theorem c_ints : Cdc Sg.P 22 (fun l => [ints l]) (fun l => l.length ≤ 4611686018427387904 ∧ ∀ x ∈ l, i64 x) :=
  (cdc_slice (sz := 1) (by8 := 8) (by kernel_rfl) (by kernel_rfl) (by decide) (by kernel_rfl) c_int).to id (fun _ => rfl) (fun _ h => ⟨len_le (by decide) h.1, h.2⟩)
theorem c_raw : Cdc Sg.P 79 rawE RawOk := by
  refine Cdc.to (cdc_struct ?_ ?_ (cdcL_cons c_int rfl (cdcL_cons c_int rfl (cdcL_cons c_int rfl (cdcL_cons c_int rfl (cdcL_cons c_int rfl (cdcL_cons c_int rfl (cdcL_cons c_int rfl (cdcL_cons c_int rfl (cdcL_cons c_int rfl (cdcL_cons c_int rfl (cdcL_cons c_int rfl cdcL_nil))))))))))))
    (fun (a, b, c, d, e, f, g, h, i, j, k, _) => (⟨a, b, c, d, e, f, g, h, i, j, k⟩ : Raw)) (fun _ => rfl) ?_
  · kernel_rfl
  · kernel_rfl
  · rintro _ ⟨h1, h2, h3, h4, h5, h6, h7, h8, h9, h10, h11, _⟩
    exact ⟨h1, h2, h3, h4, h5, h6, h7, h8, h9, h10, h11⟩
theorem c_n5 : Cdc Sg.P 142 n5E N5ok := by
  refine Cdc.to (cdc_struct ?_ ?_ (cdcL_cons c_int rfl (cdcL_cons c_int rfl (cdcL_cons c_int rfl (cdcL_cons c_int rfl (cdcL_cons c_int rfl cdcL_nil)))))) (fun (a, b, c, d, e, _) => (⟨a, b, c, d, e⟩ : N5)) (fun _ => rfl) ?_
  · kernel_rfl
  · kernel_rfl
  · rintro _ ⟨h1, h2, h3, h4, h5, _⟩
    exact ⟨h1, h2, h3, h4, h5⟩
theorem c_n5s : Cdc Sg.P 72 (fun l => [n5L l]) (fun l => l.length ≤ 4611686018427387904 ∧ ∀ x ∈ l, N5ok x) :=
  (cdc_slice (sz := 5) (by8 := 40) (by kernel_rfl) (by kernel_rfl) (by decide) (by kernel_rfl) c_n5).to id (fun _ => rfl) (fun _ h => ⟨len_le (by decide) h.1, h.2⟩)
theorem c_row : Cdc Sg.P 74 rowE RowOk := by
  refine Cdc.to (cdc_struct ?_ ?_ (cdcL_cons c_int rfl (cdcL_cons c_n5s rfl cdcL_nil))) (fun (a, b, _) => (⟨a, b⟩ : Row)) (fun _ => rfl) ?_
  · kernel_rfl
  · kernel_rfl
  · rintro _ ⟨h1, h2, _⟩
    exact ⟨h1, all_getD h2.2, h2.1⟩
theorem c_pic : Cdc Sg.P 76 picE PicOk := by
  refine Cdc.to (cdc_struct ?_ ?_ (cdcL_cons c_int rfl (cdcL_cons c_int rfl (cdcL_cons c_int rfl (cdcL_cons c_row rfl cdcL_nil))))) (fun (a, b, c, d, _) => (⟨a, b, c, d⟩ : Pic)) (fun _ => rfl) ?_
  · kernel_rfl
  · kernel_rfl
  · rintro _ ⟨h1, h2, h3, h4, _⟩
    exact ⟨h1, h2, h3, h4⟩
theorem c_pics : Cdc Sg.P 23 (fun l => [picL l]) (fun l => l.length ≤ 4611686018427387904 ∧ ∀ x ∈ l, PicOk x) :=
  (cdc_slice (sz := 5) (by8 := 56) (by kernel_rfl) (by kernel_rfl) (by decide) (by kernel_rfl) c_pic).to id (fun _ => rfl) (fun _ h => ⟨len_le (by decide) h.1, h.2⟩)
theorem c_raws : Cdc Sg.P 24 (fun l => [rawL l]) (fun l => l.length ≤ 4611686018427387904 ∧ ∀ x ∈ l, RawOk x) :=
  (cdc_slice (sz := 11) (by8 := 88) (by kernel_rfl) (by kernel_rfl) (by decide) (by kernel_rfl) c_raw).to id (fun _ => rfl) (fun _ h => ⟨len_le (by decide) h.1, h.2⟩)
theorem c_scene : Cdc Sg.P 26 sceneE SceneOk := by
  refine Cdc.to (cdc_struct ?_ ?_ (cdcL_cons c_int rfl (cdcL_cons c_int rfl (cdcL_cons c_int rfl (cdcL_cons c_int rfl (cdcL_cons c_int rfl (cdcL_cons c_int rfl (cdcL_cons c_int rfl (cdcL_cons c_ints rfl (cdcL_cons c_pics rfl (cdcL_cons c_raws rfl cdcL_nil)))))))))))
    (fun (a, b, c, d, e, f, g, h, i, j, _) => (⟨a, b, c, d, e, f, g, h, i, j⟩ : Scene)) (fun _ => rfl) ?_
  · kernel_rfl
  · kernel_rfl
  · rintro _ ⟨h1, h2, h3, h4, h5, h6, h7, h8, h9, h10, _⟩
    exact ⟨h1, h2, h3, h4, h5, h6, h7, h8.1, h9.1, h10.1, all_getD h9.2, all_getD h10.2⟩
end Go.Proofs.YtkjdljcbpbeehaaDoor

/- RulesCount and RulesKeepClear. -/
set_option linter.unusedSimpArgs false
set_option linter.unusedVariables false
set_option maxRecDepth 8000
set_option maxHeartbeats 2000000
namespace Go.Proofs.YtkjdljcbpbeehaaDoor
open Go Go.SL
open Go.RowKit (wrap64)
attribute [local go_sem] Int.toNat_natCast rxE

structure PlB (m : Image) : Prop where
  p0 : m.p0.s.length ≤ 1000000000
  p1 : m.p1.s.length ≤ 1000000000
  p2 : m.p2.s.length ≤ 1000000000
  p3 : m.p3.s.length ≤ 1000000000
  p4 : m.p4.s.length ≤ 1000000000
theorem plb_solid (w h : Int) (p : Pixel) : PlB (solidOf w h p) := ⟨Nat.zero_le _, Nat.zero_le _, Nat.zero_le _, Nat.zero_le _, Nat.zero_le _⟩
theorem plb_imageOf (w h : Int) (l : List Pixel) (hl : l.length ≤ 1000000000) : PlB (imageOf w h l) := by
  refine ⟨?_, ?_, ?_, ?_, ?_⟩ <;> (show (List.map _ l).length ≤ _; rw [List.length_map]; exact hl)
theorem plb_g (c : Scene) (i : Nat) (hi : i < (gImages c).length) : PlB ((gImages c).getD i default) := by
  have hm : (gImages c).getD i default ∈ gImages c := by
    rw [List.getD_eq_getElem?_getD, List.getElem?_eq_getElem hi]; exact List.getElem_mem _
  generalize (gImages c).getD i default = m at hm
  unfold gImages at hm
  split at hm
  · rw [List.mem_singleton.1 hm]; exact plb_solid _ _ _
  · unfold gImages0 at hm
    obtain ⟨p, hp, rfl⟩ := List.mem_map.1 hm
    unfold gImage
    split
    · exact plb_solid _ _ _
    · refine plb_imageOf _ _ _ ?_
      have := gW_le (p := p) (gCanvas_small c)
      rw [gPixels, List.length_map, List.length_range]
      omega
theorem plb_bias (c : Scene) (l : List Int) (i : Nat) (hi : i < (biasM (gScript c) l).images.length) : PlB ((biasM (gScript c) l).images.getD i default) := by
  show PlB ((bImgs (gScript c)).getD i default)
  have hl : (bImgs (gScript c)).length = (gImages c).length + 2 := by rw [bImgs, List.length_append]; rfl
  have hi : i < (bImgs (gScript c)).length := hi
  rcases Nat.lt_or_ge i (gImages c).length with h | h
  · have e : (bImgs (gScript c)).getD i default = (gImages c).getD i default := by
      show (gImages c ++ [bCover (gScript c), bDot (gScript c)]).getD i default = _
      rw [List.getD_eq_getElem?_getD, List.getD_eq_getElem?_getD, List.getElem?_append_left h]
    rw [e]; exact plb_g c i h
  · have hv : i = (gImages c).length ∨ i = (gImages c).length + 1 := by omega
    rcases hv with rfl | rfl
    · have e : (bImgs (gScript c)).getD (gImages c).length default = bCover (gScript c) := by
        show (gImages c ++ [bCover (gScript c), bDot (gScript c)]).getD (gImages c).length default = _
        rw [List.getD_eq_getElem?_getD, List.getElem?_append_right (Nat.le_refl _), Nat.sub_self]; rfl
      rw [e]; exact plb_solid _ _ _
    · have e : (bImgs (gScript c)).getD ((gImages c).length + 1) default = bDot (gScript c) := by
        show (gImages c ++ [bCover (gScript c), bDot (gScript c)]).getD ((gImages c).length + 1) default = _
        rw [List.getD_eq_getElem?_getD, List.getElem?_append_right (Nat.le_succ _), Nat.succ_sub (Nat.le_refl _), Nat.sub_self]; rfl
      rw [e]; exact plb_solid _ _ _
theorem bias_imgs (c : Scene) (l : List Int) : (biasM (gScript c) l).images.length = (gImages c).length + 2 := by
  show (bImgs (gScript c)).length = _
  rw [bImgs, List.length_append]; rfl
theorem bias_ops (c : Scene) (l : List Int) : (biasM (gScript c) l).ops.length = (gScript c).ops.length := bAt_len _ _ _
theorem sml_bias (c : Scene) (l : List Int) : Sml (biasM (gScript c) l) := by
  have hi := gImages_le c
  have hn := bias_imgs c l
  have ht := tiles_le c
  refine ⟨?_, by omega, by omega, fun i h => (plb_bias c l i h).p0, fun i h => (plb_bias c l i h).p1, fun i h => (plb_bias c l i h).p2, fun i h => (plb_bias c l i h).p3, fun i h => (plb_bias c l i h).p4⟩
  exact Nat.le_trans (gorder_len c) (by decide)
theorem len_bias (c : Scene) (l : List Int) : ScriptLen (biasM (gScript c) l) := by
  have h := gScript_len c
  have hi := gImages_le c
  have hn := bias_imgs c l
  have ho := bias_ops c l
  exact ⟨h.order, by omega, by rw [ho]; exact h.ops⟩
theorem count_law (c : Scene) (hc : SceneOk c) (l : List Int) (hl : l.length ≤ 4611686018427387904) (pick : Int) :
    Pure Sg 4 [ag (sceneE c), .c (.p (ints l)), I pick] (fun x => x = .b (B true)) := by
  have hg := gscript_spec c hc
  have hi := gImages_le c
  have hgood := (gScript_good c).len
  have hb := bias_sp (gScript c) l (gScript_len c) hl (by omega) (by show (gImages c).length ≤ _; omega)
  have hs := len_bias c l
  have H := sml_bias c l
  have ho := bias_ops c l
  generalize hS : biasM (gScript c) l = s at *
  have hr := Redexes_sp s hs
  have haw := awake26_sp
  have hcn := count_sp s hs
  have hrb : (redM s).length ≤ 10 * s.ops.length := by
    unfold redM
    split
    · exact rxTo_le s _
    · exact Nat.zero_le _
  by_cases hz : (redM s).length = 0
  · have hz2 : (((redM s).length : Int) == 0) = true := by rw [hz]; rfl
    refine pure_of Tryd.func4 rfl (rs := [.tmp 6]) rfl rfl mixed (by decide +kernel) (Nat.le_of_ble_eq_true rfl) (argsLt_mem (by simp (maxSteps := 1000000) (disch := omega) only [go_sem])) ?_
    repeat' (first | ((first | apply cw_ifT | apply cw_condT); (case hc => simp (maxSteps := 1000000) (disch := omega) only [go_sem]; rfl); (case ht => (simp only [Int.toNat_natCast, Int.reduceBEq, Int.reduceBNe, Int.reduceLT, Int.reduceLE, decide_true, decide_false, Bool.not_true, Bool.not_false, Bool.and_true, Bool.true_and, Bool.and_false, Bool.false_and, Bool.or_true, Bool.true_or, Bool.or_false, Bool.false_or, hz2]; done))) | ((first | apply cw_ifF | apply cw_condF); (case hc => simp (maxSteps := 1000000) (disch := omega) only [go_sem]; rfl); (case ht => (simp only [Int.toNat_natCast, Int.reduceBEq, Int.reduceBNe, Int.reduceLT, Int.reduceLE, decide_true, decide_false, Bool.not_true, Bool.not_false, Bool.and_true, Bool.true_and, Bool.and_false, Bool.false_and, Bool.or_true, Bool.true_or, Bool.or_false, Bool.false_or, hz2]; done))) | refine cw_assoc ?_ | refine cw_skips ?_ | refine cw_labels ?_ | ((first | refine cw_step (fun K hK => ?_) | refine cw_last (fun K hK => ?_) | refine cw_stepD (by decide +kernel) (by decide +kernel) (fun K hK => ?_) | refine cw_lastD (by decide +kernel) (by decide +kernel) (fun K hK => ?_) | refine rgB_some ?_ | refine call_a (hg) ?_ | refine gcall_a (fun hg => hg) ?_ | refine call_a (hb) ?_ | refine gcall_a (fun hg => hb) ?_ | refine call_a (hr) ?_ | refine gcall_a (fun hg => hr) ?_ | refine call_a (haw) ?_ | refine gcall_a (fun hg => haw) ?_); (try simp (maxSteps := 1000000) (disch := omega) only [go_sem]); (repeat' (refine And.intro ?_ ?_)); (all_goals first | (refine hK _ ?_; clear hK K) | exact auto_cl | skip)) | ((first | apply cw_ite | apply cw_iteN); (case hf => rfl); (case hc => simp (maxSteps := 1000000) (disch := omega) only [go_sem]; rfl); (all_goals first | (intro hb; (try simp only [hbs] at hb)) | skip)) | exact atN_intro | ((first | apply cw_if | apply cw_cond); (case hc => simp (maxSteps := 1000000) (disch := omega) only [go_sem]; rfl); (all_goals (intro hb; (try simp only [hbs] at hb); try (exfalso; omega)))) | (refine cw_blocks (fun KB hB => ?_)) | (refine cw_block ?_) | ((first | refine cw_exits ?_ | refine cw_exit ?_ | refine cw_skip ?_); simp (maxSteps := 1000000) (disch := omega) only [go_sem]) | (refine hB _ ?_; clear hB KB) | (refine exit_by (S := Sg) (by assumption) ?_) | ((first | refine cw_rets ?_ | refine cw_ret ?_); simp (maxSteps := 1000000) (disch := omega) only [go_sem]; (try clear hB KB); (try clear hK K)))
    all_goals rfl
  have hz2 : (((redM s).length : Int) == 0) = false := beq_eq_false_iff_ne.2 (by omega)
  have hm := modp_spec pick ((redM s).length : Int) (by omega) (by omega)
  have b1 := Int.emod_nonneg pick (show ((redM s).length : Int) ≠ 0 by omega)
  have b2 := Int.emod_lt_of_pos pick (show 0 < ((redM s).length : Int) by omega)
  have hxm : ((redM s).getD (pick % ((redM s).length : Int)).toNat default) ∈ redM s := by
    rw [List.getD_eq_getElem?_getD, List.getElem?_eq_getElem (by omega)]; exact List.getElem_mem _
  have hxa := mem_red.1 hxm
  have V := vops_of hxa.1
  have hle := rw_len V.wf hxa.2
  have hcl := @cnt_less s V.wf _ _ hxa.2
  have hcs := @cnt_same s _ _ hxa.2
  have hap := Apply_sp s V hs H ((redM s).getD (pick % ((redM s).length : Int)).toNat default) hxa.2 (by omega)
  have hst : ScriptLen (nextS s ((redM s).getD (pick % ((redM s).length : Int)).toNat default)) := len_with hs (by omega)
  have hct := count_sp (nextS s ((redM s).getD (pick % ((redM s).length : Int)).toNat default)) hst
  have hsi := sameInts_spec s.order (nextS s ((redM s).getD (pick % ((redM s).length : Int)).toNat default)).order hs.order hs.order
  refine pure_of Tryd.func4 rfl (rs := [.tmp 6]) rfl rfl mixed (by decide +kernel) (Nat.le_of_ble_eq_true rfl) (argsLt_mem (by simp (maxSteps := 1000000) (disch := omega) only [go_sem])) ?_
  repeat' (first | ((first | apply cw_ifT | apply cw_condT); (case hc => simp (maxSteps := 1000000) (disch := omega) only [go_sem]; rfl); (case ht => (simp only [Int.toNat_natCast, Int.reduceBEq, Int.reduceBNe, Int.reduceLT, Int.reduceLE, decide_true, decide_false, Bool.not_true, Bool.not_false, Bool.and_true, Bool.true_and, Bool.and_false, Bool.false_and, Bool.or_true, Bool.true_or, Bool.or_false, Bool.false_or, hz2]; done))) | ((first | apply cw_ifF | apply cw_condF); (case hc => simp (maxSteps := 1000000) (disch := omega) only [go_sem]; rfl); (case ht => (simp only [Int.toNat_natCast, Int.reduceBEq, Int.reduceBNe, Int.reduceLT, Int.reduceLE, decide_true, decide_false, Bool.not_true, Bool.not_false, Bool.and_true, Bool.true_and, Bool.and_false, Bool.false_and, Bool.or_true, Bool.true_or, Bool.or_false, Bool.false_or, hz2]; done))) | refine cw_assoc ?_ | refine cw_skips ?_ | refine cw_labels ?_ | ((first | refine cw_step (fun K hK => ?_) | refine cw_last (fun K hK => ?_) | refine cw_stepD (by decide +kernel) (by decide +kernel) (fun K hK => ?_) | refine cw_lastD (by decide +kernel) (by decide +kernel) (fun K hK => ?_) | refine rgB_some ?_ | refine call_a (hg) ?_ | refine gcall_a (fun hg => hg) ?_ | refine call_a (hb) ?_ | refine gcall_a (fun hg => hb) ?_ | refine call_a (hr) ?_ | refine gcall_a (fun hg => hr) ?_ | refine call_a (haw) ?_ | refine gcall_a (fun hg => haw) ?_ | refine call_a (hm) ?_ | refine gcall_a (fun hg => hm) ?_ | refine call_a (hap) ?_ | refine gcall_a (fun hg => hap) ?_ | refine call_a (hcn) ?_ | refine gcall_a (fun hg => hcn) ?_ | refine call_a (hct) ?_ | refine gcall_a (fun hg => hct) ?_ | refine call_a (hsi) ?_ | refine gcall_a (fun hg => hsi) ?_); (try simp (maxSteps := 1000000) (disch := omega) only [go_sem]); (repeat' (refine And.intro ?_ ?_)); (all_goals first | (refine hK _ ?_; clear hK K) | exact auto_cl | skip)) | ((first | apply cw_ite | apply cw_iteN); (case hf => rfl); (case hc => simp (maxSteps := 1000000) (disch := omega) only [go_sem]; rfl); (all_goals first | (intro hb; (try simp only [hbs] at hb)) | skip)) | exact atN_intro | ((first | apply cw_if | apply cw_cond); (case hc => simp (maxSteps := 1000000) (disch := omega) only [go_sem]; rfl); (all_goals (intro hb; (try simp only [hbs] at hb); try (exfalso; omega)))) | (refine cw_blocks (fun KB hB => ?_)) | (refine cw_block ?_) | ((first | refine cw_exits ?_ | refine cw_exit ?_ | refine cw_skip ?_); simp (maxSteps := 1000000) (disch := omega) only [go_sem]) | (refine hB _ ?_; clear hB KB) | (refine exit_by (S := Sg) (by assumption) ?_) | ((first | refine cw_rets ?_ | refine cw_ret ?_); simp (maxSteps := 1000000) (disch := omega) only [go_sem]; (try clear hB KB); (try clear hK K)))
  refine vb ?_
  have hx9 := apM_lt hxa.2
  have e3 : decide (s.order = (nextS s ((redM s).getD (pick % ((redM s).length : Int)).toNat default)).order) = true := decide_eq_true rfl
  have e4 : (s.tileW == (nextS s ((redM s).getD (pick % ((redM s).length : Int)).toNat default)).tileW) = true := beq_self_eq_true _
  have e5 : (s.tileH == (nextS s ((redM s).getD (pick % ((redM s).length : Int)).toNat default)).tileH) = true := beq_self_eq_true _
  rw [e3, e4, e5]
  generalize (redM s).getD (pick % ((redM s).length : Int)).toNat default = x at *
  have hne : (nextS s x).ops = rwM s x.1.toNat x.2.toNat := rfl
  by_cases hd : x.1 ≤ 4 ∨ x.1 = 9
  · have e1 : (decide (x.1 ≤ 4) || x.1 == 9) = true := by rw [Bool.or_eq_true, decide_eq_true_eq, beq_iff_eq]; exact hd
    have e2 : decide ((cntM (nextS s x).ops : Int) < (cntM s.ops : Int)) = true := decide_eq_true (by rw [hne]; have := hcl hd; omega)
    rw [e1, e2]; rfl
  · have e1 : (decide (x.1 ≤ 4) || x.1 == 9) = false := by
      rw [Bool.or_eq_false_iff, decide_eq_false_iff_not, beq_eq_false_iff_ne]
      exact ⟨fun q => hd (.inl q), fun q => hd (.inr q)⟩
    have hc2 := hcs (by omega) (by omega)
    have e6 : ((cntM (nextS s x).ops : Int) == (cntM s.ops : Int)) = true := by rw [hne, hc2.1]; exact beq_self_eq_true _
    have e7 : ((s.ops.length : Int) == ((nextS s x).ops.length : Int)) = true := by rw [hne, hc2.2]; exact beq_self_eq_true _
    rw [e1, e6, e7]; rfl
theorem clear_law (c : Scene) (hc : SceneOk c) (l : List Int) (hl : l.length ≤ 4611686018427387904) :
    Pure Sg 5 [ag (sceneE c), .c (.p (ints l))] (fun x => x = .b (B true)) := by
  have hg := gscript_spec c hc
  have hi := gImages_le c
  have hgood := (gScript_good c).len
  have hb := bias_sp (gScript c) l (gScript_len c) hl (by omega) (by show (gImages c).length ≤ _; omega)
  have hs := len_bias c l
  have ho := bias_ops c l
  generalize hS : biasM (gScript c) l = s at *
  have hr := Redexes_sp s hs
  have haw := awake26_sp
  have hrb : (redM s).length ≤ 10 * s.ops.length := by
    unfold redM
    split
    · exact rxTo_le s _
    · exact Nat.zero_le _
  refine pure_of Tryd.func5 rfl (rs := [.tmp 4]) rfl rfl mixed (by decide +kernel) (Nat.le_of_ble_eq_true rfl) (argsLt_mem (by simp (maxSteps := 1000000) (disch := omega) only [go_sem])) ?_
  repeat' (first | refine cw_assoc ?_ | refine cw_skips ?_ | refine cw_labels ?_ | ((first | refine cw_step (fun K hK => ?_) | refine cw_last (fun K hK => ?_) | refine cw_stepD (by decide +kernel) (by decide +kernel) (fun K hK => ?_) | refine cw_lastD (by decide +kernel) (by decide +kernel) (fun K hK => ?_) | refine rgB_some ?_ | refine call_a (hg) ?_ | refine gcall_a (fun hg => hg) ?_ | refine call_a (hb) ?_ | refine gcall_a (fun hg => hb) ?_ | refine call_a (hr) ?_ | refine gcall_a (fun hg => hr) ?_); (try simp (maxSteps := 1000000) (disch := omega) only [go_sem]); (repeat' (refine And.intro ?_ ?_)); (all_goals first | (refine hK _ ?_; clear hK K) | exact auto_cl | skip)) | ((first | apply cw_ite | apply cw_iteN); (case hf => rfl); (case hc => simp (maxSteps := 1000000) (disch := omega) only [go_sem]; rfl); (all_goals first | (intro hb; (try simp only [hbs] at hb)) | skip)) | exact atN_intro | ((first | apply cw_if | apply cw_cond); (case hc => simp (maxSteps := 1000000) (disch := omega) only [go_sem]; rfl); (all_goals (intro hb; (try simp only [hbs] at hb); try (exfalso; omega)))) | (refine cw_blocks (fun KB hB => ?_)) | (refine cw_block ?_) | ((first | refine cw_exits ?_ | refine cw_exit ?_ | refine cw_skip ?_); simp (maxSteps := 1000000) (disch := omega) only [go_sem]) | (refine hB _ ?_; clear hB KB) | (refine exit_by (S := Sg) (by assumption) ?_) | ((first | refine cw_rets ?_ | refine cw_ret ?_); simp (maxSteps := 1000000) (disch := omega) only [go_sem]; (try clear hB KB); (try clear hK K)))
  refine cw_loop (X := Nat) (fun i => mkSt [(5, .b (.c (.ptr 1 0))), (6, .b (.c (.p (.lst 2 (redM s).length (fnOf rxE (redM s)))))), (7, .b (I i))] [(1, .fix ((scriptE s).map CV.p))] 2) (fun i => i ≤ (redM s).length) (fun i => (redM s).length - i) 0 ?_ ?_ ?_
  · exact Nat.zero_le _
  · refine le_of [(1, some 1)] rfl (by decide) rfl ?_ ?_
    all_goals simp (maxSteps := 1000000) (disch := omega) only [go_sem]
    repeat' (refine And.intro ?_ ?_)
    all_goals first | rfl | omega | exact .inl rfl | trivial | skip
  · intro i hi2
    rcases Nat.lt_or_ge i (redM s).length with hlt | hge
    · have hxm : (redM s).getD i default ∈ redM s := by
        rw [List.getD_eq_getElem?_getD, List.getElem?_eq_getElem hlt]; exact List.getElem_mem _
      have hxa := apM_lt (mem_red.1 hxm).2
      have hkc := fun h => keep_clear hxm h
      repeat' (first | refine cw_assoc ?_ | refine cw_skips ?_ | refine cw_labels ?_ | ((first | refine cw_step (fun K hK => ?_) | refine cw_last (fun K hK => ?_) | refine cw_stepD (by decide +kernel) (by decide +kernel) (fun K hK => ?_) | refine cw_lastD (by decide +kernel) (by decide +kernel) (fun K hK => ?_) | refine rgB_some ?_); (try simp (maxSteps := 1000000) (disch := omega) only [go_sem]); (repeat' (refine And.intro ?_ ?_)); (all_goals first | (refine hK _ ?_; clear hK K) | exact auto_cl | skip)) | ((first | apply cw_ite | apply cw_iteN); (case hf => rfl); (case hc => simp (maxSteps := 1000000) (disch := omega) only [go_sem]; rfl); (all_goals first | (intro hb; (try simp only [hbs] at hb)) | skip)) | exact atN_intro | ((first | apply cw_if | apply cw_cond); (case hc => simp (maxSteps := 1000000) (disch := omega) only [go_sem]; rfl); (all_goals (intro hb; (try simp only [hbs] at hb); try (exfalso; omega)))) | (refine cw_blocks (fun KB hB => ?_)) | (refine cw_block ?_) | ((first | refine cw_exits ?_ | refine cw_exit ?_ | refine cw_skip ?_); simp (maxSteps := 1000000) (disch := omega) only [go_sem]) | (refine hB _ ?_; clear hB KB) | (refine exit_by (S := Sg) (by assumption) ?_) | ((first | refine cw_rets ?_ | refine cw_ret ?_); simp (maxSteps := 1000000) (disch := omega) only [go_sem]; (try clear hB KB); (try clear hK K)))
      · exact absurd hb.2 (hkc hb.1)
      · rw [thenQ_normal]
        refine wk_loop (i + 1) ?_ (by omega) (by omega)
        refine le_of [(1, some 1)] rfl (by decide) rfl ?_ ?_
        all_goals simp (maxSteps := 1000000) (disch := omega) only [go_sem]
        repeat' (refine And.intro ?_ ?_)
        all_goals first | rfl | omega | exact .inl rfl | trivial | skip
    · have hi3 : i = (redM s).length := by omega
      subst hi3
      repeat' (first | refine cw_assoc ?_ | refine cw_skips ?_ | refine cw_labels ?_ | ((first | refine cw_step (fun K hK => ?_) | refine cw_last (fun K hK => ?_) | refine cw_stepD (by decide +kernel) (by decide +kernel) (fun K hK => ?_) | refine cw_lastD (by decide +kernel) (by decide +kernel) (fun K hK => ?_) | refine rgB_some ?_ | refine call_a (haw) ?_ | refine gcall_a (fun hg => haw) ?_); (try simp (maxSteps := 1000000) (disch := omega) only [go_sem]); (repeat' (refine And.intro ?_ ?_)); (all_goals first | (refine hK _ ?_; clear hK K) | exact auto_cl | skip)) | ((first | apply cw_ite | apply cw_iteN); (case hf => rfl); (case hc => simp (maxSteps := 1000000) (disch := omega) only [go_sem]; rfl); (all_goals first | (intro hb; (try simp only [hbs] at hb)) | skip)) | exact atN_intro | ((first | apply cw_if | apply cw_cond); (case hc => simp (maxSteps := 1000000) (disch := omega) only [go_sem]; rfl); (all_goals (intro hb; (try simp only [hbs] at hb); try (exfalso; omega)))) | (refine cw_blocks (fun KB hB => ?_)) | (refine cw_block ?_) | ((first | refine cw_exits ?_ | refine cw_exit ?_ | refine cw_skip ?_); simp (maxSteps := 1000000) (disch := omega) only [go_sem]) | (refine hB _ ?_; clear hB KB) | (refine exit_by (S := Sg) (by assumption) ?_) | ((first | refine cw_rets ?_ | refine cw_ret ?_); simp (maxSteps := 1000000) (disch := omega) only [go_sem]; (try clear hB KB); (try clear hK K)))
end Go.Proofs.YtkjdljcbpbeehaaDoor
