/- Part 5 of the proof: EB, BrS, EC, D6, D7, D8, ED, EH. -/
import Derived.Test.YtbpplplnkgmhlaaDoorM0
import Derived.Test.YtbpplplnkgmhlaaDoorM1
import Derived.Test.YtbpplplnkgmhlaaDoorM2
import Derived.Test.YtbpplplnkgmhlaaDoorM3
import Derived.Test.YtbpplplnkgmhlaaDoorM4
/- Bias: the walk. -/
set_option linter.unusedSimpArgs false
set_option linter.unusedVariables false
set_option maxHeartbeats 2000000
set_option maxRecDepth 16000
namespace Go.Proofs.YtbpplplnkgmhlaaDoor
open Go Go.SL
open Go.RowKit (wrap64)
attribute [local go_sem] Int.toNat_natCast zerosB

def bMost (b : Int) : Int := if b = 16 then 65535 else 255
def bMid (b : Int) : Int := IntKind.u16.wrap ((bMost b).tdiv 2)
def bW (s : Script) : Int := IntKind.i64.wrap (IntKind.i64.wrap (s.canvas.x1 - s.canvas.x0) + 2)
def bH (s : Script) : Int := IntKind.i64.wrap (IntKind.i64.wrap (s.canvas.y1 - s.canvas.y0) + 1)
def bCover (s : Script) : Image := solidOf (bW s) (bH s) ⟨bMid s.bits, 0, bMost s.bits, bMost s.bits, bMost s.bits⟩
def bDot (s : Script) : Image := solidOf 1 1 ⟨0, 0, 0, 0, bMost s.bits⟩
def bImgs (s : Script) : List Image := s.images ++ [bCover s, bDot s]
def bX (s : Script) (v : Int) : Int := IntKind.i64.wrap (s.canvas.x0 - gMod (IntKind.i64.wrap (v.tdiv 16)) 3)
def bOp (s : Script) (v : Int) (o : Op) : Op :=
  if o.kind = 3 then o
  else if gMod v 16 = 0 ∨ gMod v 16 = 1 then { o with mask := (bImgs s).length - 1, maskX := bX s v, maskY := s.canvas.y0 }
  else if gMod v 16 = 2 then { o with mask := (bImgs s).length, maskX := s.canvas.x0, maskY := s.canvas.y0 }
  else if gMod v 16 = 3 ∨ gMod v 16 = 4 then (if o.kind = 1 then { o with image := (bImgs s).length - 2, x := bX s v, y := s.canvas.y0, opacity := bMost s.bits, mask := 0, maskX := 0, maskY := 0, mode := 1 } else o)
  else if gMod v 16 = 5 ∨ gMod v 16 = 6 ∨ gMod v 16 = 7 then
    (if gMod (IntKind.i64.wrap (v.tdiv 16)) 2 = 0 then { o with opacity := bMost s.bits, mask := 0, maskX := 0, maskY := 0, mode := 1, operator := 4 } else { o with opacity := bMost s.bits, mask := 0, maskX := 0, maskY := 0 })
  else if gMod v 16 = 8 then { o with opacity := 0 }
  else o
def bAt (s : Script) (l : List Int) (i : Nat) : List Op := (List.range s.ops.length).map fun a => if a < i then bOp s (l.getD a 0) (opAt s.ops a) else opAt s.ops a
def biasM (s : Script) (l : List Int) : Script := { s with images := bImgs s, ops := bAt s l l.length }
theorem img_app {l : List Image} {c d : Image} {g : Nat → Nat → PV} (h0 : ∀ j, j < 28 → PV.le (g 0 j) ((imageE c).getD j .any)) (h1 : ∀ j, j < 28 → PV.le (g 1 j) ((imageE d).getD j .any)) : ∀ a, a < l.length + 2 → ∀ j, j < 28 → PV.le (appF l.length (fnOf imageE l) g a j) (fnOf imageE (l ++ [c, d]) a j) := fun a ha j hj => by
  unfold appF
  by_cases h : a < l.length
  · rw [if_pos h]
    have e : fnOf imageE l a j = fnOf imageE (l ++ [c, d]) a j := congrArg (fun o => (imageE o).getD j .any) (show l.getD a default = (l ++ [c, d]).getD a default by rw [List.getD_eq_getElem?_getD, List.getD_eq_getElem?_getD, List.getElem?_append_left h])
    rw [e]; exact fun _ _ _ h => h
  · rw [if_neg h]
    have hv : a = l.length ∨ a = l.length + 1 := by omega
    rcases hv with rfl | rfl
    · have e : fnOf imageE (l ++ [c, d]) l.length j = (imageE c).getD j .any := congrArg (fun o => (imageE o).getD j .any) (show (l ++ [c, d]).getD l.length default = c by rw [List.getD_eq_getElem?_getD, List.getElem?_append_right (Nat.le_refl _), Nat.sub_self]; rfl)
      rw [e, Nat.sub_self]; exact h0 j hj
    · have e : fnOf imageE (l ++ [c, d]) (l.length + 1) j = (imageE d).getD j .any := congrArg (fun o => (imageE o).getD j .any) (show (l ++ [c, d]).getD (l.length + 1) default = d by rw [List.getD_eq_getElem?_getD, List.getElem?_append_right (by omega), Nat.add_sub_cancel_left]; rfl)
      rw [e, Nat.add_sub_cancel_left]; exact h1 j hj
theorem bAt_len (s : Script) (l : List Int) (i : Nat) : (bAt s l i).length = s.ops.length := by rw [bAt, List.length_map, List.length_range]
theorem bAt_at (s : Script) (l : List Int) (i : Nat) {a : Nat} (h : a < s.ops.length) : (bAt s l i).getD a default = if a < i then bOp s (l.getD a 0) (opAt s.ops a) else opAt s.ops a := by
  rw [bAt, List.getD_eq_getElem?_getD, List.getElem?_map, List.getElem?_range h]; rfl
theorem fn_bAt (s : Script) (l : List Int) (i j : Nat) {a : Nat} (h : a < s.ops.length) : fnOf opE (bAt s l i) a j = (opE (if a < i then bOp s (l.getD a 0) (opAt s.ops a) else opAt s.ops a)).getD j .any := congrArg (fun o => (opE o).getD j .any) (bAt_at s l i h)
theorem bstep (s : Script) (l : List Int) (i j : Nat) {a : Nat} (h : a < s.ops.length) : fnOf opE (bAt s l (i + 1)) a j = if a = i then (opE (bOp s (l.getD i 0) (opAt s.ops i))).getD j .any else fnOf opE (bAt s l i) a j := by
  rw [fn_bAt s l (i + 1) j h, fn_bAt s l i j h]
  by_cases e : a = i
  · rw [if_pos e, if_pos (by omega), e]
  · rw [if_neg e]
    by_cases h2 : a < i
    · rw [if_pos h2, if_pos (by omega)]
    · rw [if_neg h2, if_neg (by omega)]
theorem bAt_end (s : Script) (l : List Int) {i : Nat} (h : i = s.ops.length ∨ i = l.length) (h2 : i ≤ l.length) : bAt s l i = bAt s l l.length := by
  rcases h with h | h
  · refine List.map_congr_left fun a ha => ?_
    rw [List.mem_range] at ha
    rw [if_pos (by omega), if_pos (by omega)]
  · rw [h]
def scrO8 (s : Script) : List (Option PV) := [some (PI s.bits), some (PI s.canvas.x0), some (PI s.canvas.y0), some (PI s.canvas.x1), some (PI s.canvas.y1), some (PI s.tileW), some (PI s.tileH), some (ints s.order), none, some (opL s.ops)]
attribute [local go_sem] scrO8
theorem bias_own (s : Script) (l : List Int) (hs : ScriptLen s) (hl : l.length ≤ 4611686018427387904) (ho : s.ops.length ≤ 4096) (hi : s.images.length ≤ 4096) :
    PureOwnK Sg 4 [ag (scriptE s), .c (.p (ints l))] (scrO8 (biasM s l)) 8 55 28 (biasM s l).images.length (fnOf imageE (biasM s l).images) := by
  have hsol := solid_spec (bW s) (bH s) ⟨bMid s.bits, 0, bMost s.bits, bMost s.bits, bMost s.bits⟩
  have hdot := solid_spec 1 1 ⟨0, 0, 0, 0, bMost s.bits⟩
  refine ownK_of Tryd.func4 rfl (rs := [.cell 4 32]) rfl rfl mixed (by decide +kernel) (Nat.le_of_ble_eq_true rfl) (argsLt_mem (by simp (maxSteps := 1000000) (disch := omega) only [go_sem])) ?_
  repeat' (first | with_reducible exact tr_a | refine un_a ?_ | ((with_reducible refine cw_stepV (id := 3) (fun K hW => ?_)); (try simp (maxSteps := 1000000) (disch := omega) only [go_sem]); (repeat' (refine And.intro ?_ ?_)); (all_goals first | (refine hK _ ?_; clear hK K) | exact auto_cl | skip)) | ((first | refine st_a (fun K hK => ?_) | refine rg_a ?_); (repeat' (refine And.intro ?_ ?_)); (all_goals first | (refine hK _ ?_; clear hK K) | exact auto_cl | skip)) | ((first | apply cw_ite | apply cw_iteN); (case hf => rfl); (case hc => exact ev_a); (all_goals first | (intro hb; (try simp only [hbs] at hb)) | skip)) | exact atN_intro | (refine if_a (fun hb => ?_) (fun hb => ?_); (all_goals (try first | with_reducible exact True.intro | (exfalso; omega)))) | refine cw_blocks (fun KB hB => ?_) | (refine hB _ ?_; clear hB KB) | refine exit_by (S := Sg) (by assumption) ?_ | (refine ret_a ?_; (try clear hB KB); (try clear hK K)))
  refine hW _ (mkSt [(1, .b (.c (.p (ints l)))), (2, .b (.c (.ptr 0 0))), (4, .b (.c (.ptr 1 0))), (5, .b (U 255))] [(0, .fix [.p (PI s.bits), .p (PI s.canvas.x0), .p (PI s.canvas.y0), .p (PI s.canvas.x1), .p (PI s.canvas.y1), .p (PI s.tileW), .p (PI s.tileH), .p (ints s.order), .own 3 s.images.length, .own 2 s.ops.length]), (1, zerosB), (2, .arr 58 12 s.ops.length (fnOf opE s.ops)), (3, .arr 55 28 s.images.length (fnOf imageE s.images))] 4) ?_ ?_
  · refine le_a [(1, some 1), (2, some 2), (3, some 3)] ?_ ?_
    repeat' (refine And.intro ?_ ?_)
    all_goals first | exact le_cl | skip
  clear hW
  refine cw_assoc ?_
  refine cw_step fun K hK => ?_
  simp (maxSteps := 1000000) (disch := omega) only [go_sem]
  repeat' (refine And.intro ?_ ?_)
  all_goals first | (refine hK _ ?_; clear hK K) | exact auto_cl | skip
  refine cw_ifM (t := (s.bits == 16)) (mkSt [(1, .b (.c (.p (ints l)))), (2, .b (.c (.ptr 0 0))), (4, .b (.c (.ptr 1 0))), (5, .b (U (bMost s.bits)))] [(0, .fix [.p (PI s.bits), .p (PI s.canvas.x0), .p (PI s.canvas.y0), .p (PI s.canvas.x1), .p (PI s.canvas.y1), .p (PI s.tileW), .p (PI s.tileH), .p (ints s.order), .own 3 s.images.length, .own 2 s.ops.length]), (1, zerosB), (2, .arr 58 12 s.ops.length (fnOf opE s.ops)), (3, .arr 55 28 s.images.length (fnOf imageE s.images))] 4) ?_ ?_ ?_ ?_
  · simp (maxSteps := 1000000) (disch := omega) only [go_sem]
  · intro hb
    rw [beq_iff_eq] at hb
    rw [show bMost s.bits = 65535 from if_pos hb]
    repeat' (first | with_reducible exact tr_a | refine un_a ?_ | ((first | refine st_a (fun K hK => ?_) | refine rg_a ?_); (repeat' (refine And.intro ?_ ?_)); (all_goals first | (refine hK _ ?_; clear hK K) | exact auto_cl | skip)) | ((first | apply cw_ite | apply cw_iteN); (case hf => rfl); (case hc => exact ev_a); (all_goals first | (intro hb; (try simp only [hbs] at hb)) | skip)) | exact atN_intro | (refine if_a (fun hb => ?_) (fun hb => ?_); (all_goals (try first | with_reducible exact True.intro | (exfalso; omega)))) | refine cw_blocks (fun KB hB => ?_) | (refine hB _ ?_; clear hB KB) | refine exit_by (S := Sg) (by assumption) ?_ | (refine ret_a ?_; (try clear hB KB); (try clear hK K)))
    rw [thenQ_normal]
    refine ⟨_, ?_, rfl⟩
    refine le_a [(1, some 1), (2, some 2), (3, some 3)] ?_ ?_
    repeat' (refine And.intro ?_ ?_)
    all_goals first | exact le_cl | skip
  · intro hb
    rw [beq_eq_false_iff_ne] at hb
    rw [show bMost s.bits = 255 from if_neg hb]
    repeat' (first | with_reducible exact tr_a | refine un_a ?_ | ((first | refine st_a (fun K hK => ?_) | refine rg_a ?_); (repeat' (refine And.intro ?_ ?_)); (all_goals first | (refine hK _ ?_; clear hK K) | exact auto_cl | skip)) | ((first | apply cw_ite | apply cw_iteN); (case hf => rfl); (case hc => exact ev_a); (all_goals first | (intro hb; (try simp only [hbs] at hb)) | skip)) | exact atN_intro | (refine if_a (fun hb => ?_) (fun hb => ?_); (all_goals (try first | with_reducible exact True.intro | (exfalso; omega)))) | refine cw_blocks (fun KB hB => ?_) | (refine hB _ ?_; clear hB KB) | refine exit_by (S := Sg) (by assumption) ?_ | (refine ret_a ?_; (try clear hB KB); (try clear hK K)))
    refine ⟨_, ?_, rfl⟩
    refine le_a [(1, some 1), (2, some 2), (3, some 3)] ?_ ?_
    repeat' (refine And.intro ?_ ?_)
    all_goals first | exact le_cl | skip
  repeat' (first | with_reducible exact tr_a | refine un_a ?_ | ((with_reducible refine cw_stepV (id := 7) (fun K hW => ?_)); (try simp (maxSteps := 1000000) (disch := omega) only [go_sem]); (repeat' (refine And.intro ?_ ?_)); (all_goals first | (refine hK _ ?_; clear hK K) | exact auto_cl | skip)) | ((first | refine st_a (fun K hK => ?_) | refine rg_a ?_ | refine call_c (hsol) ?_ | refine gcall_c (fun hg => hsol) ?_); (repeat' (refine And.intro ?_ ?_)); (all_goals first | (refine hK _ ?_; clear hK K) | exact auto_cl | skip)) | ((first | apply cw_ite | apply cw_iteN); (case hf => rfl); (case hc => exact ev_a); (all_goals first | (intro hb; (try simp only [hbs] at hb)) | skip)) | exact atN_intro | (refine if_a (fun hb => ?_) (fun hb => ?_); (all_goals (try first | with_reducible exact True.intro | (exfalso; omega)))) | refine cw_blocks (fun KB hB => ?_) | (refine hB _ ?_; clear hB KB) | refine exit_by (S := Sg) (by assumption) ?_ | (refine ret_a ?_; (try clear hB KB); (try clear hK K)))
  refine hW _ (mkSt [(1, .b (.c (.p (ints l)))), (2, .b (.c (.ptr 0 0))), (4, .b (.c (.ptr 1 0))), (5, .b (U (bMost s.bits))), (8, .b (.c (.ptr 4 0)))] [(0, .fix [.p (PI s.bits), .p (PI s.canvas.x0), .p (PI s.canvas.y0), .p (PI s.canvas.x1), .p (PI s.canvas.y1), .p (PI s.tileW), .p (PI s.tileH), .p (ints s.order), .own 3 s.images.length, .own 2 s.ops.length]), (1, zerosB), (2, .arr 58 12 s.ops.length (fnOf opE s.ops)), (3, .arr 55 28 s.images.length (fnOf imageE s.images)), (4, .fix ((imageE (bCover s)).map CV.p))] 5) ?_ ?_
  · refine le_a [(1, some 1), (2, some 2), (3, some 3), (4, some 4)] ?_ ?_
    repeat' (refine And.intro ?_ ?_)
    all_goals first | exact le_cl | skip
  clear hW
  refine cw_stepR (id := 8) (.br 0 (.br 3 (.br 4 (.br 1 (.br 2 (.br 5 (.br 6 (.br 7 (.br 8 (.br 9 .leaf .nil) .nil) .nil) .nil) .nil) (.br 5 (.br 2 (.br 6 (.br 7 (.br 8 (.br 9 .leaf .nil) .nil) .nil) .nil) .nil) .nil)) (.br 2 (.br 1 (.br 5 (.br 6 (.br 7 (.br 8 (.br 9 .leaf .nil) .nil) .nil) .nil) .nil) (.br 5 (.br 1 (.br 6 (.br 7 (.br 8 (.br 9 .leaf .nil) .nil) .nil) .nil) .nil) .nil)) (.br 5 (.br 1 (.br 2 (.br 6 (.br 7 (.br 8 (.br 9 .leaf .nil) .nil) .nil) .nil) .nil) .nil) .nil))) .nil) .nil) .nil) (by decide +kernel) (by exact wf_a) (fun K0 hW => ?_)
  refine (fun (tl : ∀ st, Le st (mkSt [(1, .b (.c (.p (ints l)))), (2, .b (.c (.ptr 0 0))), (4, .b (.c (.ptr 1 0))), (5, .b (U (bMost s.bits)))] [(0, .fix [.p (PI s.bits), .p (PI s.canvas.x0), .p (PI s.canvas.y0), .p (PI s.canvas.x1), .p (PI s.canvas.y1), .p (PI s.tileW), .p (PI s.tileH), .p (ints s.order), .own 3 (s.images.length + 2), .own 2 s.ops.length]), (1, zerosB), (2, .arr 58 12 s.ops.length (fnOf opE s.ops)), (3, .arr 55 28 (s.images.length + 2) (fnOf imageE (bImgs s)))] 4) → K0 st) => ?_) (fun st hl => hW st _ hl ?_)
  · clear hW
    repeat' (first | exact tree_nil | (refine tree_br (fun K' hK' => ?_) ?_) | (refine tree_leaf (tl _ ?_); clear tl) | ((first | refine call_c (hdot) ?_ | refine gcall_c (fun hg => hdot) ?_); (try simp (maxSteps := 1000000) (disch := omega) only [go_sem]); (repeat' (refine And.intro ?_ ?_)); (all_goals first | (refine hK' _ ?_; clear hK' K') | trivial | omega | exact Nat.le_of_ble_eq_true rfl | exact auto_cl | skip)) | (simp (maxSteps := 1000000) (disch := omega) only [go_sem]; (repeat' (refine And.intro ?_ ?_)); (all_goals first | (refine hK' _ ?_; clear hK' K') | trivial | omega | exact Nat.le_of_ble_eq_true rfl | exact auto_cl | skip)))
    all_goals
      refine le_a [(1, some 1), (2, some 2), (3, some 6)] ?_ ?_
      repeat' (refine And.intro ?_ ?_)
      all_goals first | exact le_cl | skip
    all_goals
      refine .inr (img_app (fun j hj => ?_) (fun j hj => ?_))
      · skip
        have hivl : j = 0 ∨ j = 1 ∨ j = 2 ∨ j = 3 ∨ j = 4 ∨ j = 5 ∨ j = 6 ∨ j = 7 ∨ j = 8 ∨ j = 9 ∨ j = 10 ∨ j = 11 ∨ j = 12 ∨ j = 13 ∨ j = 14 ∨ j = 15 ∨ j = 16 ∨ j = 17 ∨ j = 18 ∨ j = 19 ∨ j = 20 ∨ j = 21 ∨ j = 22 ∨ j = 23 ∨ j = 24 ∨ j = 25 ∨ j = 26 ∨ j = 27 := by omega
        rcases hivl with rfl | rfl | rfl | rfl | rfl | rfl | rfl | rfl | rfl | rfl | rfl | rfl | rfl | rfl | rfl | rfl | rfl | rfl | rfl | rfl | rfl | rfl | rfl | rfl | rfl | rfl | rfl | rfl <;> (first | exact fun _ _ _ h => h | exact nil_le)
      · skip
        have hivl : j = 0 ∨ j = 1 ∨ j = 2 ∨ j = 3 ∨ j = 4 ∨ j = 5 ∨ j = 6 ∨ j = 7 ∨ j = 8 ∨ j = 9 ∨ j = 10 ∨ j = 11 ∨ j = 12 ∨ j = 13 ∨ j = 14 ∨ j = 15 ∨ j = 16 ∨ j = 17 ∨ j = 18 ∨ j = 19 ∨ j = 20 ∨ j = 21 ∨ j = 22 ∨ j = 23 ∨ j = 24 ∨ j = 25 ∨ j = 26 ∨ j = 27 := by omega
        rcases hivl with rfl | rfl | rfl | rfl | rfl | rfl | rfl | rfl | rfl | rfl | rfl | rfl | rfl | rfl | rfl | rfl | rfl | rfl | rfl | rfl | rfl | rfl | rfl | rfl | rfl | rfl | rfl | rfl <;> (first | exact fun _ _ _ h => h | exact nil_le)
  clear hW
  repeat' (first | with_reducible exact tr_a | refine un_a ?_ | ((first | refine st_a (fun K hK => ?_) | refine rg_a ?_); (repeat' (refine And.intro ?_ ?_)); (all_goals first | (refine hK _ ?_; clear hK K) | exact auto_cl | skip)) | ((first | apply cw_ite | apply cw_iteN); (case hf => rfl); (case hc => exact ev_a); (all_goals first | (intro hb; (try simp only [hbs] at hb)) | skip)) | exact atN_intro | (refine if_a (fun hb => ?_) (fun hb => ?_); (all_goals (try first | with_reducible exact True.intro | (exfalso; omega)))) | refine cw_blocks (fun KB hB => ?_) | (refine hB _ ?_; clear hB KB) | refine exit_by (S := Sg) (by assumption) ?_ | (refine ret_a ?_; (try clear hB KB); (try clear hK K)))
  refine cw_loop (X := Nat) (fun i => mkSt [(1, .b (.c (.p (ints l)))), (2, .b (.c (.ptr 0 0))), (4, .b (.c (.ptr 1 0))), (5, .b (U (bMost s.bits))), (9, .b (I (s.images.length + 2))), (10, .b (I i))] [(0, .fix [.p (PI s.bits), .p (PI s.canvas.x0), .p (PI s.canvas.y0), .p (PI s.canvas.x1), .p (PI s.canvas.y1), .p (PI s.tileW), .p (PI s.tileH), .p (ints s.order), .own 3 (s.images.length + 2), .own 2 s.ops.length]), (1, zerosB), (2, .arr 58 12 s.ops.length (fnOf opE (bAt s l i))), (3, .arr 55 28 (s.images.length + 2) (fnOf imageE (bImgs s)))] 4)
    (fun i => i ≤ s.ops.length ∧ i ≤ l.length) (fun i => s.ops.length - i) 0 ?_ ?_ ?_
  · exact ⟨Nat.zero_le _, Nat.zero_le _⟩
  · refine le_a [(1, some 1), (2, some 2), (3, some 3)] ?_ ?_
    repeat' (refine And.intro ?_ ?_)
    all_goals first | exact le_cl | skip
    refine .inr fun a ha j hj => ?_
    show PV.le (fnOf opE s.ops a j) (fnOf opE (bAt s l 0) a j)
    rw [fn_bAt s l 0 j ha, if_neg (Nat.not_lt_zero a)]
    exact fun _ _ _ h => h
  · rintro i ⟨hi1, hi2⟩
    have hend : ∀ i, (i = s.ops.length ∨ i = l.length) → i ≤ l.length → bAt s l i = bAt s l l.length := fun i h h2 => bAt_end s l h h2
    rcases Nat.lt_or_ge i s.ops.length with hlt | hge
    · rcases Nat.lt_or_ge i l.length with hll | hgl
      · have hoi : (bAt s l i).getD i default = opAt s.ops i := by rw [bAt_at s l i hlt, if_neg (Nat.lt_irrefl i)]
        have hbl : (bImgs s).length = s.images.length + 2 := by rw [bImgs, List.length_append]; rfl
        by_cases hk3 : (opAt s.ops i).kind = 3
        · have hq : (((bAt s l i).getD i default).kind == 3) = true := by rw [hoi]; exact beq_iff_eq.2 hk3
          have hop : bOp s (l.getD i 0) (opAt s.ops i) = opAt s.ops i := if_pos hk3
          repeat' (first | with_reducible exact tr_a | refine dec_a hq ?_ | refine un_a ?_ | ((first | refine st_a (fun K hK => ?_) | refine rg_a ?_ | refine call_c (mod_spec (l.getD i 0) 16 (by omega)) ?_ | refine gcall_c (fun hg => mod_spec (l.getD i 0) 16 (by omega)) ?_ | refine call_c (mod_spec (IntKind.i64.wrap ((l.getD i 0).tdiv 16)) 3 (by omega)) ?_ | refine gcall_c (fun hg => mod_spec (IntKind.i64.wrap ((l.getD i 0).tdiv 16)) 3 (by omega)) ?_ | refine call_c (mod_spec (IntKind.i64.wrap ((l.getD i 0).tdiv 16)) 2 (by omega)) ?_ | refine gcall_c (fun hg => mod_spec (IntKind.i64.wrap ((l.getD i 0).tdiv 16)) 2 (by omega)) ?_); (repeat' (refine And.intro ?_ ?_)); (all_goals first | (refine hK _ ?_; clear hK K) | exact auto_cl | skip)) | ((first | apply cw_ite | apply cw_iteN); (case hf => rfl); (case hc => exact ev_a); (all_goals first | (intro hb; (try simp only [hbs] at hb)) | skip)) | exact atN_intro | (refine if_a (fun hb => ?_) (fun hb => ?_); (all_goals (try first | with_reducible exact True.intro | (exfalso; omega)))) | refine cw_blocks (fun KB hB => ?_) | (refine hB _ ?_; clear hB KB) | refine exit_by (S := Sg) (by assumption) ?_ | (refine ret_a ?_; (try clear hB KB); (try clear hK K)))
          rw [thenQ_normal]
          refine wk_loop (i + 1) ?_ ⟨by omega, by omega⟩ (by omega)
          refine le_a [(1, some 1), (2, some 2), (3, some 3)] ?_ ?_
          repeat' (refine And.intro ?_ ?_)
          all_goals first | exact le_cl | skip
          refine .inr fun a ha j hj => ?_
          show PV.le _ (fnOf opE (bAt s l (i + 1)) a j)
          rw [bstep s l i j ha]
          by_cases e : a = i
          · rw [if_pos e, hop]
            simp only [e, hoi]
            have hivl : j = 0 ∨ j = 1 ∨ j = 2 ∨ j = 3 ∨ j = 4 ∨ j = 5 ∨ j = 6 ∨ j = 7 ∨ j = 8 ∨ j = 9 ∨ j = 10 ∨ j = 11 := by omega
            rcases hivl with rfl | rfl | rfl | rfl | rfl | rfl | rfl | rfl | rfl | rfl | rfl | rfl <;> exact fun _ _ _ h => h
          · rw [if_neg e]; exact fun _ _ _ h => h
        have hq : (((bAt s l i).getD i default).kind == 3) = false := by rw [hoi]; exact beq_eq_false_iff_ne.2 hk3
        have hbi : ((bImgs s).length : Int) = (s.images.length : Int) + 2 := by rw [hbl]; rfl
        have hv : gMod (l.getD i 0) 16 = 0 ∨ gMod (l.getD i 0) 16 = 1 ∨ gMod (l.getD i 0) 16 = 2 ∨ gMod (l.getD i 0) 16 = 3 ∨ gMod (l.getD i 0) 16 = 4 ∨ gMod (l.getD i 0) 16 = 5 ∨ gMod (l.getD i 0) 16 = 6 ∨ gMod (l.getD i 0) 16 = 7 ∨ gMod (l.getD i 0) 16 = 8 ∨
            (gMod (l.getD i 0) 16 ≠ 0 ∧ gMod (l.getD i 0) 16 ≠ 1 ∧ gMod (l.getD i 0) 16 ≠ 2 ∧ gMod (l.getD i 0) 16 ≠ 3 ∧ gMod (l.getD i 0) 16 ≠ 4 ∧ gMod (l.getD i 0) 16 ≠ 5 ∧ gMod (l.getD i 0) 16 ≠ 6 ∧ gMod (l.getD i 0) 16 ≠ 7 ∧ gMod (l.getD i 0) 16 ≠ 8) := by omega
        rcases hv with hm | hm | hm | hm | hm | hm | hm | hm | hm | ⟨n0, n1, n2, n3, n4, n5, n6, n7, n8⟩
        · have hop := show bOp s (l.getD i 0) (opAt s.ops i) = _ from (if_neg hk3).trans (if_pos (by omega))
          rw [hbi] at hop
          repeat' (first | with_reducible exact tr_a | refine dec_a (And.intro hq hm) ?_ | ((first | ((with_reducible refine cw_stepDK (id := 18) [(93, 4), (97, 3), (103, 4), (105, 8), (106, 8), (107, 8)] (by decide +kernel) (by decide +kernel) ?_ (fun K hK => ?_)); exact wf_a) | ((with_reducible refine cw_lastDK (id := 18) [(93, 4), (97, 3), (103, 4), (105, 8), (106, 8), (107, 8)] (by decide +kernel) (by decide +kernel) ?_ (fun K hK => ?_)); exact wf_a)); (try simp (maxSteps := 1000000) (disch := omega) only [go_sem]); (repeat' (refine And.intro ?_ ?_)); (all_goals first | (refine hK _ (by simp (maxSteps := 1000000) (disch := omega) only [go_sem]) ?_; clear hK K) | exact auto_cl | skip)) | refine un_a ?_ | ((first | refine st_a (fun K hK => ?_) | refine rg_a ?_ | refine call_c (mod_spec (l.getD i 0) 16 (by omega)) ?_ | refine gcall_c (fun hg => mod_spec (l.getD i 0) 16 (by omega)) ?_ | refine call_c (mod_spec (IntKind.i64.wrap ((l.getD i 0).tdiv 16)) 3 (by omega)) ?_ | refine gcall_c (fun hg => mod_spec (IntKind.i64.wrap ((l.getD i 0).tdiv 16)) 3 (by omega)) ?_ | refine call_c (mod_spec (IntKind.i64.wrap ((l.getD i 0).tdiv 16)) 2 (by omega)) ?_ | refine gcall_c (fun hg => mod_spec (IntKind.i64.wrap ((l.getD i 0).tdiv 16)) 2 (by omega)) ?_); (repeat' (refine And.intro ?_ ?_)); (all_goals first | (refine hK _ ?_; clear hK K) | exact auto_cl | skip)) | ((first | apply cw_ite | apply cw_iteN); (case hf => rfl); (case hc => exact ev_a); (all_goals first | (intro hb; (try simp only [hbs] at hb)) | skip)) | exact atN_intro | (refine if_a (fun hb => ?_) (fun hb => ?_); (all_goals (try first | with_reducible exact True.intro | (exfalso; omega)))) | refine cw_blocks (fun KB hB => ?_) | (refine hB _ ?_; clear hB KB) | refine exit_by (S := Sg) (by assumption) ?_ | (refine ret_a ?_; (try clear hB KB); (try clear hK K)))
          refine hK _ (by simp (maxSteps := 1000000) (disch := omega) only [go_sem]) ?_
          clear hK
          repeat' (first | with_reducible exact tr_a | refine dec_a (And.intro hq hm) ?_ | refine un_a ?_ | ((first | refine st_a (fun K hK => ?_) | refine rg_a ?_ | refine call_c (mod_spec (l.getD i 0) 16 (by omega)) ?_ | refine gcall_c (fun hg => mod_spec (l.getD i 0) 16 (by omega)) ?_ | refine call_c (mod_spec (IntKind.i64.wrap ((l.getD i 0).tdiv 16)) 3 (by omega)) ?_ | refine gcall_c (fun hg => mod_spec (IntKind.i64.wrap ((l.getD i 0).tdiv 16)) 3 (by omega)) ?_ | refine call_c (mod_spec (IntKind.i64.wrap ((l.getD i 0).tdiv 16)) 2 (by omega)) ?_ | refine gcall_c (fun hg => mod_spec (IntKind.i64.wrap ((l.getD i 0).tdiv 16)) 2 (by omega)) ?_); (repeat' (refine And.intro ?_ ?_)); (all_goals first | (refine hK _ ?_; clear hK K) | exact auto_cl | skip)) | ((first | apply cw_ite | apply cw_iteN); (case hf => rfl); (case hc => exact ev_a); (all_goals first | (intro hb; (try simp only [hbs] at hb)) | skip)) | exact atN_intro | (refine if_a (fun hb => ?_) (fun hb => ?_); (all_goals (try first | with_reducible exact True.intro | (exfalso; omega)))) | refine cw_blocks (fun KB hB => ?_) | (refine hB _ ?_; clear hB KB) | refine exit_by (S := Sg) (by assumption) ?_ | (refine ret_a ?_; (try clear hB KB); (try clear hK K)))
          rw [thenQ_normal]
          refine wk_loop (i + 1) ?_ ⟨by omega, by omega⟩ (by omega)
          refine le_a [(1, some 1), (2, some 2), (3, some 3)] ?_ ?_
          repeat' (refine And.intro ?_ ?_)
          all_goals first | exact le_cl | skip
          refine .inr fun a ha j hj => ?_
          show PV.le _ (fnOf opE (bAt s l (i + 1)) a j)
          rw [bstep s l i j ha]
          by_cases e : a = i
          · rw [if_pos e, if_pos e, hop]
            simp only [hoi]
            have hivl : j = 0 ∨ j = 1 ∨ j = 2 ∨ j = 3 ∨ j = 4 ∨ j = 5 ∨ j = 6 ∨ j = 7 ∨ j = 8 ∨ j = 9 ∨ j = 10 ∨ j = 11 := by omega
            rcases hivl with rfl | rfl | rfl | rfl | rfl | rfl | rfl | rfl | rfl | rfl | rfl | rfl <;> exact fun _ _ _ h => h
          · rw [if_neg e, if_neg e]; exact fun _ _ _ h => h
        · have hop := show bOp s (l.getD i 0) (opAt s.ops i) = _ from (if_neg hk3).trans (if_pos (by omega))
          rw [hbi] at hop
          repeat' (first | with_reducible exact tr_a | refine dec_a (And.intro hq hm) ?_ | ((first | ((with_reducible refine cw_stepDK (id := 18) [(93, 4), (97, 3), (103, 4), (105, 8), (106, 8), (107, 8)] (by decide +kernel) (by decide +kernel) ?_ (fun K hK => ?_)); exact wf_a) | ((with_reducible refine cw_lastDK (id := 18) [(93, 4), (97, 3), (103, 4), (105, 8), (106, 8), (107, 8)] (by decide +kernel) (by decide +kernel) ?_ (fun K hK => ?_)); exact wf_a)); (try simp (maxSteps := 1000000) (disch := omega) only [go_sem]); (repeat' (refine And.intro ?_ ?_)); (all_goals first | (refine hK _ (by simp (maxSteps := 1000000) (disch := omega) only [go_sem]) ?_; clear hK K) | exact auto_cl | skip)) | refine un_a ?_ | ((first | refine st_a (fun K hK => ?_) | refine rg_a ?_ | refine call_c (mod_spec (l.getD i 0) 16 (by omega)) ?_ | refine gcall_c (fun hg => mod_spec (l.getD i 0) 16 (by omega)) ?_ | refine call_c (mod_spec (IntKind.i64.wrap ((l.getD i 0).tdiv 16)) 3 (by omega)) ?_ | refine gcall_c (fun hg => mod_spec (IntKind.i64.wrap ((l.getD i 0).tdiv 16)) 3 (by omega)) ?_ | refine call_c (mod_spec (IntKind.i64.wrap ((l.getD i 0).tdiv 16)) 2 (by omega)) ?_ | refine gcall_c (fun hg => mod_spec (IntKind.i64.wrap ((l.getD i 0).tdiv 16)) 2 (by omega)) ?_); (repeat' (refine And.intro ?_ ?_)); (all_goals first | (refine hK _ ?_; clear hK K) | exact auto_cl | skip)) | ((first | apply cw_ite | apply cw_iteN); (case hf => rfl); (case hc => exact ev_a); (all_goals first | (intro hb; (try simp only [hbs] at hb)) | skip)) | exact atN_intro | (refine if_a (fun hb => ?_) (fun hb => ?_); (all_goals (try first | with_reducible exact True.intro | (exfalso; omega)))) | refine cw_blocks (fun KB hB => ?_) | (refine hB _ ?_; clear hB KB) | refine exit_by (S := Sg) (by assumption) ?_ | (refine ret_a ?_; (try clear hB KB); (try clear hK K)))
          refine hK _ (by simp (maxSteps := 1000000) (disch := omega) only [go_sem]) ?_
          clear hK
          repeat' (first | with_reducible exact tr_a | refine dec_a (And.intro hq hm) ?_ | refine un_a ?_ | ((first | refine st_a (fun K hK => ?_) | refine rg_a ?_ | refine call_c (mod_spec (l.getD i 0) 16 (by omega)) ?_ | refine gcall_c (fun hg => mod_spec (l.getD i 0) 16 (by omega)) ?_ | refine call_c (mod_spec (IntKind.i64.wrap ((l.getD i 0).tdiv 16)) 3 (by omega)) ?_ | refine gcall_c (fun hg => mod_spec (IntKind.i64.wrap ((l.getD i 0).tdiv 16)) 3 (by omega)) ?_ | refine call_c (mod_spec (IntKind.i64.wrap ((l.getD i 0).tdiv 16)) 2 (by omega)) ?_ | refine gcall_c (fun hg => mod_spec (IntKind.i64.wrap ((l.getD i 0).tdiv 16)) 2 (by omega)) ?_); (repeat' (refine And.intro ?_ ?_)); (all_goals first | (refine hK _ ?_; clear hK K) | exact auto_cl | skip)) | ((first | apply cw_ite | apply cw_iteN); (case hf => rfl); (case hc => exact ev_a); (all_goals first | (intro hb; (try simp only [hbs] at hb)) | skip)) | exact atN_intro | (refine if_a (fun hb => ?_) (fun hb => ?_); (all_goals (try first | with_reducible exact True.intro | (exfalso; omega)))) | refine cw_blocks (fun KB hB => ?_) | (refine hB _ ?_; clear hB KB) | refine exit_by (S := Sg) (by assumption) ?_ | (refine ret_a ?_; (try clear hB KB); (try clear hK K)))
          rw [thenQ_normal]
          refine wk_loop (i + 1) ?_ ⟨by omega, by omega⟩ (by omega)
          refine le_a [(1, some 1), (2, some 2), (3, some 3)] ?_ ?_
          repeat' (refine And.intro ?_ ?_)
          all_goals first | exact le_cl | skip
          refine .inr fun a ha j hj => ?_
          show PV.le _ (fnOf opE (bAt s l (i + 1)) a j)
          rw [bstep s l i j ha]
          by_cases e : a = i
          · rw [if_pos e, if_pos e, hop]
            simp only [hoi]
            have hivl : j = 0 ∨ j = 1 ∨ j = 2 ∨ j = 3 ∨ j = 4 ∨ j = 5 ∨ j = 6 ∨ j = 7 ∨ j = 8 ∨ j = 9 ∨ j = 10 ∨ j = 11 := by omega
            rcases hivl with rfl | rfl | rfl | rfl | rfl | rfl | rfl | rfl | rfl | rfl | rfl | rfl <;> exact fun _ _ _ h => h
          · rw [if_neg e, if_neg e]; exact fun _ _ _ h => h
        · have hop := show bOp s (l.getD i 0) (opAt s.ops i) = _ from (if_neg hk3).trans ((if_neg (by omega)).trans (if_pos hm))
          rw [hbi] at hop
          repeat' (first | with_reducible exact tr_a | refine dec_a (And.intro hq hm) ?_ | ((first | ((with_reducible refine cw_stepDK (id := 20) [(112, 4), (115, 4), (117, 8), (118, 8), (119, 8)] (by decide +kernel) (by decide +kernel) ?_ (fun K hK => ?_)); exact wf_a) | ((with_reducible refine cw_lastDK (id := 20) [(112, 4), (115, 4), (117, 8), (118, 8), (119, 8)] (by decide +kernel) (by decide +kernel) ?_ (fun K hK => ?_)); exact wf_a)); (try simp (maxSteps := 1000000) (disch := omega) only [go_sem]); (repeat' (refine And.intro ?_ ?_)); (all_goals first | (refine hK _ (by simp (maxSteps := 1000000) (disch := omega) only [go_sem]) ?_; clear hK K) | exact auto_cl | skip)) | refine un_a ?_ | ((first | refine st_a (fun K hK => ?_) | refine rg_a ?_ | refine call_c (mod_spec (l.getD i 0) 16 (by omega)) ?_ | refine gcall_c (fun hg => mod_spec (l.getD i 0) 16 (by omega)) ?_ | refine call_c (mod_spec (IntKind.i64.wrap ((l.getD i 0).tdiv 16)) 3 (by omega)) ?_ | refine gcall_c (fun hg => mod_spec (IntKind.i64.wrap ((l.getD i 0).tdiv 16)) 3 (by omega)) ?_ | refine call_c (mod_spec (IntKind.i64.wrap ((l.getD i 0).tdiv 16)) 2 (by omega)) ?_ | refine gcall_c (fun hg => mod_spec (IntKind.i64.wrap ((l.getD i 0).tdiv 16)) 2 (by omega)) ?_); (repeat' (refine And.intro ?_ ?_)); (all_goals first | (refine hK _ ?_; clear hK K) | exact auto_cl | skip)) | ((first | apply cw_ite | apply cw_iteN); (case hf => rfl); (case hc => exact ev_a); (all_goals first | (intro hb; (try simp only [hbs] at hb)) | skip)) | exact atN_intro | (refine if_a (fun hb => ?_) (fun hb => ?_); (all_goals (try first | with_reducible exact True.intro | (exfalso; omega)))) | refine cw_blocks (fun KB hB => ?_) | (refine hB _ ?_; clear hB KB) | refine exit_by (S := Sg) (by assumption) ?_ | (refine ret_a ?_; (try clear hB KB); (try clear hK K)))
          rw [thenQ_normal]
          refine wk_loop (i + 1) ?_ ⟨by omega, by omega⟩ (by omega)
          refine le_a [(1, some 1), (2, some 2), (3, some 3)] ?_ ?_
          repeat' (refine And.intro ?_ ?_)
          all_goals first | exact le_cl | skip
          refine .inr fun a ha j hj => ?_
          show PV.le _ (fnOf opE (bAt s l (i + 1)) a j)
          rw [bstep s l i j ha]
          by_cases e : a = i
          · rw [if_pos e, if_pos e, hop]
            simp only [hoi]
            have hivl : j = 0 ∨ j = 1 ∨ j = 2 ∨ j = 3 ∨ j = 4 ∨ j = 5 ∨ j = 6 ∨ j = 7 ∨ j = 8 ∨ j = 9 ∨ j = 10 ∨ j = 11 := by omega
            rcases hivl with rfl | rfl | rfl | rfl | rfl | rfl | rfl | rfl | rfl | rfl | rfl | rfl <;> exact fun _ _ _ h => h
          · rw [if_neg e, if_neg e]; exact fun _ _ _ h => h
        · by_cases hk1 : (opAt s.ops i).kind = 1
          · have hop := show bOp s (l.getD i 0) (opAt s.ops i) = _ from (if_neg hk3).trans ((if_neg (by omega)).trans ((if_neg (by omega)).trans ((if_pos (by omega)).trans (if_pos hk1))))
            rw [hbi] at hop
            have hq1 : (((bAt s l i).getD i default).kind == 1) = true := by rw [hoi]; exact beq_iff_eq.2 hk1
            repeat' (first | with_reducible exact tr_a | refine dec_a (And.intro hq (And.intro hm hq1)) ?_ | ((first | ((with_reducible refine cw_stepDK (id := 24) [(129, 4), (133, 3), (139, 4), (141, 8), (142, 8), (143, 8)] (by decide +kernel) (by decide +kernel) ?_ (fun K hK => ?_)); exact wf_a) | ((with_reducible refine cw_lastDK (id := 24) [(129, 4), (133, 3), (139, 4), (141, 8), (142, 8), (143, 8)] (by decide +kernel) (by decide +kernel) ?_ (fun K hK => ?_)); exact wf_a)); (try simp (maxSteps := 1000000) (disch := omega) only [go_sem]); (repeat' (refine And.intro ?_ ?_)); (all_goals first | (refine hK _ (by simp (maxSteps := 1000000) (disch := omega) only [go_sem]) ?_; clear hK K) | exact auto_cl | skip)) | refine un_a ?_ | ((first | refine st_a (fun K hK => ?_) | refine rg_a ?_ | refine call_c (mod_spec (l.getD i 0) 16 (by omega)) ?_ | refine gcall_c (fun hg => mod_spec (l.getD i 0) 16 (by omega)) ?_ | refine call_c (mod_spec (IntKind.i64.wrap ((l.getD i 0).tdiv 16)) 3 (by omega)) ?_ | refine gcall_c (fun hg => mod_spec (IntKind.i64.wrap ((l.getD i 0).tdiv 16)) 3 (by omega)) ?_ | refine call_c (mod_spec (IntKind.i64.wrap ((l.getD i 0).tdiv 16)) 2 (by omega)) ?_ | refine gcall_c (fun hg => mod_spec (IntKind.i64.wrap ((l.getD i 0).tdiv 16)) 2 (by omega)) ?_); (repeat' (refine And.intro ?_ ?_)); (all_goals first | (refine hK _ ?_; clear hK K) | exact auto_cl | skip)) | ((first | apply cw_ite | apply cw_iteN); (case hf => rfl); (case hc => exact ev_a); (all_goals first | (intro hb; (try simp only [hbs] at hb)) | skip)) | exact atN_intro | (refine if_a (fun hb => ?_) (fun hb => ?_); (all_goals (try first | with_reducible exact True.intro | (exfalso; omega)))) | refine cw_blocks (fun KB hB => ?_) | (refine hB _ ?_; clear hB KB) | refine exit_by (S := Sg) (by assumption) ?_ | (refine ret_a ?_; (try clear hB KB); (try clear hK K)))
            refine hK _ (by simp (maxSteps := 1000000) (disch := omega) only [go_sem]) ?_
            clear hK
            repeat' (first | with_reducible exact tr_a | refine dec_a (And.intro hq (And.intro hm hq1)) ?_ | refine un_a ?_ | ((first | refine st_a (fun K hK => ?_) | refine rg_a ?_ | refine call_c (mod_spec (l.getD i 0) 16 (by omega)) ?_ | refine gcall_c (fun hg => mod_spec (l.getD i 0) 16 (by omega)) ?_ | refine call_c (mod_spec (IntKind.i64.wrap ((l.getD i 0).tdiv 16)) 3 (by omega)) ?_ | refine gcall_c (fun hg => mod_spec (IntKind.i64.wrap ((l.getD i 0).tdiv 16)) 3 (by omega)) ?_ | refine call_c (mod_spec (IntKind.i64.wrap ((l.getD i 0).tdiv 16)) 2 (by omega)) ?_ | refine gcall_c (fun hg => mod_spec (IntKind.i64.wrap ((l.getD i 0).tdiv 16)) 2 (by omega)) ?_); (repeat' (refine And.intro ?_ ?_)); (all_goals first | (refine hK _ ?_; clear hK K) | exact auto_cl | skip)) | ((first | apply cw_ite | apply cw_iteN); (case hf => rfl); (case hc => exact ev_a); (all_goals first | (intro hb; (try simp only [hbs] at hb)) | skip)) | exact atN_intro | (refine if_a (fun hb => ?_) (fun hb => ?_); (all_goals (try first | with_reducible exact True.intro | (exfalso; omega)))) | refine cw_blocks (fun KB hB => ?_) | (refine hB _ ?_; clear hB KB) | refine exit_by (S := Sg) (by assumption) ?_ | (refine ret_a ?_; (try clear hB KB); (try clear hK K)))
            rw [thenQ_normal]
            refine wk_loop (i + 1) ?_ ⟨by omega, by omega⟩ (by omega)
            refine le_a [(1, some 1), (2, some 2), (3, some 3)] ?_ ?_
            repeat' (refine And.intro ?_ ?_)
            all_goals first | exact le_cl | skip
            refine .inr fun a ha j hj => ?_
            show PV.le _ (fnOf opE (bAt s l (i + 1)) a j)
            rw [bstep s l i j ha]
            by_cases e : a = i
            · rw [if_pos e, if_pos e, hop]
              simp only [hoi]
              have hivl : j = 0 ∨ j = 1 ∨ j = 2 ∨ j = 3 ∨ j = 4 ∨ j = 5 ∨ j = 6 ∨ j = 7 ∨ j = 8 ∨ j = 9 ∨ j = 10 ∨ j = 11 := by omega
              rcases hivl with rfl | rfl | rfl | rfl | rfl | rfl | rfl | rfl | rfl | rfl | rfl | rfl <;> exact fun _ _ _ h => h
            · rw [if_neg e, if_neg e]; exact fun _ _ _ h => h
          · have hop := show bOp s (l.getD i 0) (opAt s.ops i) = _ from (if_neg hk3).trans ((if_neg (by omega)).trans ((if_neg (by omega)).trans ((if_pos (by omega)).trans (if_neg hk1))))
            have hq1 : (((bAt s l i).getD i default).kind == 1) = false := by rw [hoi]; exact beq_eq_false_iff_ne.2 hk1
            repeat' (first | with_reducible exact tr_a | refine dec_a (And.intro hq (And.intro hm hq1)) ?_ | refine un_a ?_ | ((first | refine st_a (fun K hK => ?_) | refine rg_a ?_ | refine call_c (mod_spec (l.getD i 0) 16 (by omega)) ?_ | refine gcall_c (fun hg => mod_spec (l.getD i 0) 16 (by omega)) ?_ | refine call_c (mod_spec (IntKind.i64.wrap ((l.getD i 0).tdiv 16)) 3 (by omega)) ?_ | refine gcall_c (fun hg => mod_spec (IntKind.i64.wrap ((l.getD i 0).tdiv 16)) 3 (by omega)) ?_ | refine call_c (mod_spec (IntKind.i64.wrap ((l.getD i 0).tdiv 16)) 2 (by omega)) ?_ | refine gcall_c (fun hg => mod_spec (IntKind.i64.wrap ((l.getD i 0).tdiv 16)) 2 (by omega)) ?_); (repeat' (refine And.intro ?_ ?_)); (all_goals first | (refine hK _ ?_; clear hK K) | exact auto_cl | skip)) | ((first | apply cw_ite | apply cw_iteN); (case hf => rfl); (case hc => exact ev_a); (all_goals first | (intro hb; (try simp only [hbs] at hb)) | skip)) | exact atN_intro | (refine if_a (fun hb => ?_) (fun hb => ?_); (all_goals (try first | with_reducible exact True.intro | (exfalso; omega)))) | refine cw_blocks (fun KB hB => ?_) | (refine hB _ ?_; clear hB KB) | refine exit_by (S := Sg) (by assumption) ?_ | (refine ret_a ?_; (try clear hB KB); (try clear hK K)))
            rw [thenQ_normal]
            refine wk_loop (i + 1) ?_ ⟨by omega, by omega⟩ (by omega)
            refine le_a [(1, some 1), (2, some 2), (3, some 3)] ?_ ?_
            repeat' (refine And.intro ?_ ?_)
            all_goals first | exact le_cl | skip
            refine .inr fun a ha j hj => ?_
            show PV.le _ (fnOf opE (bAt s l (i + 1)) a j)
            rw [bstep s l i j ha]
            by_cases e : a = i
            · rw [if_pos e, if_pos e, hop]
              simp only [hoi]
              have hivl : j = 0 ∨ j = 1 ∨ j = 2 ∨ j = 3 ∨ j = 4 ∨ j = 5 ∨ j = 6 ∨ j = 7 ∨ j = 8 ∨ j = 9 ∨ j = 10 ∨ j = 11 := by omega
              rcases hivl with rfl | rfl | rfl | rfl | rfl | rfl | rfl | rfl | rfl | rfl | rfl | rfl <;> exact fun _ _ _ h => h
            · rw [if_neg e, if_neg e]; exact fun _ _ _ h => h
        · by_cases hk1 : (opAt s.ops i).kind = 1
          · have hop := show bOp s (l.getD i 0) (opAt s.ops i) = _ from (if_neg hk3).trans ((if_neg (by omega)).trans ((if_neg (by omega)).trans ((if_pos (by omega)).trans (if_pos hk1))))
            rw [hbi] at hop
            have hq1 : (((bAt s l i).getD i default).kind == 1) = true := by rw [hoi]; exact beq_iff_eq.2 hk1
            repeat' (first | with_reducible exact tr_a | refine dec_a (And.intro hq (And.intro hm hq1)) ?_ | ((first | ((with_reducible refine cw_stepDK (id := 24) [(129, 4), (133, 3), (139, 4), (141, 8), (142, 8), (143, 8)] (by decide +kernel) (by decide +kernel) ?_ (fun K hK => ?_)); exact wf_a) | ((with_reducible refine cw_lastDK (id := 24) [(129, 4), (133, 3), (139, 4), (141, 8), (142, 8), (143, 8)] (by decide +kernel) (by decide +kernel) ?_ (fun K hK => ?_)); exact wf_a)); (try simp (maxSteps := 1000000) (disch := omega) only [go_sem]); (repeat' (refine And.intro ?_ ?_)); (all_goals first | (refine hK _ (by simp (maxSteps := 1000000) (disch := omega) only [go_sem]) ?_; clear hK K) | exact auto_cl | skip)) | refine un_a ?_ | ((first | refine st_a (fun K hK => ?_) | refine rg_a ?_ | refine call_c (mod_spec (l.getD i 0) 16 (by omega)) ?_ | refine gcall_c (fun hg => mod_spec (l.getD i 0) 16 (by omega)) ?_ | refine call_c (mod_spec (IntKind.i64.wrap ((l.getD i 0).tdiv 16)) 3 (by omega)) ?_ | refine gcall_c (fun hg => mod_spec (IntKind.i64.wrap ((l.getD i 0).tdiv 16)) 3 (by omega)) ?_ | refine call_c (mod_spec (IntKind.i64.wrap ((l.getD i 0).tdiv 16)) 2 (by omega)) ?_ | refine gcall_c (fun hg => mod_spec (IntKind.i64.wrap ((l.getD i 0).tdiv 16)) 2 (by omega)) ?_); (repeat' (refine And.intro ?_ ?_)); (all_goals first | (refine hK _ ?_; clear hK K) | exact auto_cl | skip)) | ((first | apply cw_ite | apply cw_iteN); (case hf => rfl); (case hc => exact ev_a); (all_goals first | (intro hb; (try simp only [hbs] at hb)) | skip)) | exact atN_intro | (refine if_a (fun hb => ?_) (fun hb => ?_); (all_goals (try first | with_reducible exact True.intro | (exfalso; omega)))) | refine cw_blocks (fun KB hB => ?_) | (refine hB _ ?_; clear hB KB) | refine exit_by (S := Sg) (by assumption) ?_ | (refine ret_a ?_; (try clear hB KB); (try clear hK K)))
            refine hK _ (by simp (maxSteps := 1000000) (disch := omega) only [go_sem]) ?_
            clear hK
            repeat' (first | with_reducible exact tr_a | refine dec_a (And.intro hq (And.intro hm hq1)) ?_ | refine un_a ?_ | ((first | refine st_a (fun K hK => ?_) | refine rg_a ?_ | refine call_c (mod_spec (l.getD i 0) 16 (by omega)) ?_ | refine gcall_c (fun hg => mod_spec (l.getD i 0) 16 (by omega)) ?_ | refine call_c (mod_spec (IntKind.i64.wrap ((l.getD i 0).tdiv 16)) 3 (by omega)) ?_ | refine gcall_c (fun hg => mod_spec (IntKind.i64.wrap ((l.getD i 0).tdiv 16)) 3 (by omega)) ?_ | refine call_c (mod_spec (IntKind.i64.wrap ((l.getD i 0).tdiv 16)) 2 (by omega)) ?_ | refine gcall_c (fun hg => mod_spec (IntKind.i64.wrap ((l.getD i 0).tdiv 16)) 2 (by omega)) ?_); (repeat' (refine And.intro ?_ ?_)); (all_goals first | (refine hK _ ?_; clear hK K) | exact auto_cl | skip)) | ((first | apply cw_ite | apply cw_iteN); (case hf => rfl); (case hc => exact ev_a); (all_goals first | (intro hb; (try simp only [hbs] at hb)) | skip)) | exact atN_intro | (refine if_a (fun hb => ?_) (fun hb => ?_); (all_goals (try first | with_reducible exact True.intro | (exfalso; omega)))) | refine cw_blocks (fun KB hB => ?_) | (refine hB _ ?_; clear hB KB) | refine exit_by (S := Sg) (by assumption) ?_ | (refine ret_a ?_; (try clear hB KB); (try clear hK K)))
            rw [thenQ_normal]
            refine wk_loop (i + 1) ?_ ⟨by omega, by omega⟩ (by omega)
            refine le_a [(1, some 1), (2, some 2), (3, some 3)] ?_ ?_
            repeat' (refine And.intro ?_ ?_)
            all_goals first | exact le_cl | skip
            refine .inr fun a ha j hj => ?_
            show PV.le _ (fnOf opE (bAt s l (i + 1)) a j)
            rw [bstep s l i j ha]
            by_cases e : a = i
            · rw [if_pos e, if_pos e, hop]
              simp only [hoi]
              have hivl : j = 0 ∨ j = 1 ∨ j = 2 ∨ j = 3 ∨ j = 4 ∨ j = 5 ∨ j = 6 ∨ j = 7 ∨ j = 8 ∨ j = 9 ∨ j = 10 ∨ j = 11 := by omega
              rcases hivl with rfl | rfl | rfl | rfl | rfl | rfl | rfl | rfl | rfl | rfl | rfl | rfl <;> exact fun _ _ _ h => h
            · rw [if_neg e, if_neg e]; exact fun _ _ _ h => h
          · have hop := show bOp s (l.getD i 0) (opAt s.ops i) = _ from (if_neg hk3).trans ((if_neg (by omega)).trans ((if_neg (by omega)).trans ((if_pos (by omega)).trans (if_neg hk1))))
            have hq1 : (((bAt s l i).getD i default).kind == 1) = false := by rw [hoi]; exact beq_eq_false_iff_ne.2 hk1
            repeat' (first | with_reducible exact tr_a | refine dec_a (And.intro hq (And.intro hm hq1)) ?_ | refine un_a ?_ | ((first | refine st_a (fun K hK => ?_) | refine rg_a ?_ | refine call_c (mod_spec (l.getD i 0) 16 (by omega)) ?_ | refine gcall_c (fun hg => mod_spec (l.getD i 0) 16 (by omega)) ?_ | refine call_c (mod_spec (IntKind.i64.wrap ((l.getD i 0).tdiv 16)) 3 (by omega)) ?_ | refine gcall_c (fun hg => mod_spec (IntKind.i64.wrap ((l.getD i 0).tdiv 16)) 3 (by omega)) ?_ | refine call_c (mod_spec (IntKind.i64.wrap ((l.getD i 0).tdiv 16)) 2 (by omega)) ?_ | refine gcall_c (fun hg => mod_spec (IntKind.i64.wrap ((l.getD i 0).tdiv 16)) 2 (by omega)) ?_); (repeat' (refine And.intro ?_ ?_)); (all_goals first | (refine hK _ ?_; clear hK K) | exact auto_cl | skip)) | ((first | apply cw_ite | apply cw_iteN); (case hf => rfl); (case hc => exact ev_a); (all_goals first | (intro hb; (try simp only [hbs] at hb)) | skip)) | exact atN_intro | (refine if_a (fun hb => ?_) (fun hb => ?_); (all_goals (try first | with_reducible exact True.intro | (exfalso; omega)))) | refine cw_blocks (fun KB hB => ?_) | (refine hB _ ?_; clear hB KB) | refine exit_by (S := Sg) (by assumption) ?_ | (refine ret_a ?_; (try clear hB KB); (try clear hK K)))
            rw [thenQ_normal]
            refine wk_loop (i + 1) ?_ ⟨by omega, by omega⟩ (by omega)
            refine le_a [(1, some 1), (2, some 2), (3, some 3)] ?_ ?_
            repeat' (refine And.intro ?_ ?_)
            all_goals first | exact le_cl | skip
            refine .inr fun a ha j hj => ?_
            show PV.le _ (fnOf opE (bAt s l (i + 1)) a j)
            rw [bstep s l i j ha]
            by_cases e : a = i
            · rw [if_pos e, if_pos e, hop]
              simp only [hoi]
              have hivl : j = 0 ∨ j = 1 ∨ j = 2 ∨ j = 3 ∨ j = 4 ∨ j = 5 ∨ j = 6 ∨ j = 7 ∨ j = 8 ∨ j = 9 ∨ j = 10 ∨ j = 11 := by omega
              rcases hivl with rfl | rfl | rfl | rfl | rfl | rfl | rfl | rfl | rfl | rfl | rfl | rfl <;> exact fun _ _ _ h => h
            · rw [if_neg e, if_neg e]; exact fun _ _ _ h => h
        · by_cases hz : gMod (IntKind.i64.wrap ((l.getD i 0).tdiv 16)) 2 = 0
          · have hop := show bOp s (l.getD i 0) (opAt s.ops i) = _ from (if_neg hk3).trans ((if_neg (by omega)).trans ((if_neg (by omega)).trans ((if_neg (by omega)).trans ((if_pos (by omega)).trans (if_pos hz)))))
            have hq1 : (gMod (IntKind.i64.wrap ((l.getD i 0).tdiv 16)) 2 == 0) = true := beq_iff_eq.2 hz
            repeat' (first | with_reducible exact tr_a | refine dec_a (And.intro hq (And.intro hm hq1)) ?_ | refine un_a ?_ | ((first | refine st_a (fun K hK => ?_) | refine rg_a ?_ | refine call_c (mod_spec (l.getD i 0) 16 (by omega)) ?_ | refine gcall_c (fun hg => mod_spec (l.getD i 0) 16 (by omega)) ?_ | refine call_c (mod_spec (IntKind.i64.wrap ((l.getD i 0).tdiv 16)) 3 (by omega)) ?_ | refine gcall_c (fun hg => mod_spec (IntKind.i64.wrap ((l.getD i 0).tdiv 16)) 3 (by omega)) ?_ | refine call_c (mod_spec (IntKind.i64.wrap ((l.getD i 0).tdiv 16)) 2 (by omega)) ?_ | refine gcall_c (fun hg => mod_spec (IntKind.i64.wrap ((l.getD i 0).tdiv 16)) 2 (by omega)) ?_); (repeat' (refine And.intro ?_ ?_)); (all_goals first | (refine hK _ ?_; clear hK K) | exact auto_cl | skip)) | ((first | apply cw_ite | apply cw_iteN); (case hf => rfl); (case hc => exact ev_a); (all_goals first | (intro hb; (try simp only [hbs] at hb)) | skip)) | exact atN_intro | (refine if_a (fun hb => ?_) (fun hb => ?_); (all_goals (try first | with_reducible exact True.intro | (exfalso; omega)))) | refine cw_blocks (fun KB hB => ?_) | (refine hB _ ?_; clear hB KB) | refine exit_by (S := Sg) (by assumption) ?_ | (refine ret_a ?_; (try clear hB KB); (try clear hK K)))
            rw [thenQ_normal]
            refine wk_loop (i + 1) ?_ ⟨by omega, by omega⟩ (by omega)
            refine le_a [(1, some 1), (2, some 2), (3, some 3)] ?_ ?_
            repeat' (refine And.intro ?_ ?_)
            all_goals first | exact le_cl | skip
            refine .inr fun a ha j hj => ?_
            show PV.le _ (fnOf opE (bAt s l (i + 1)) a j)
            rw [bstep s l i j ha]
            by_cases e : a = i
            · rw [if_pos e, if_pos e, hop]
              simp only [hoi]
              have hivl : j = 0 ∨ j = 1 ∨ j = 2 ∨ j = 3 ∨ j = 4 ∨ j = 5 ∨ j = 6 ∨ j = 7 ∨ j = 8 ∨ j = 9 ∨ j = 10 ∨ j = 11 := by omega
              rcases hivl with rfl | rfl | rfl | rfl | rfl | rfl | rfl | rfl | rfl | rfl | rfl | rfl <;> exact fun _ _ _ h => h
            · rw [if_neg e, if_neg e]; exact fun _ _ _ h => h
          · have hop := show bOp s (l.getD i 0) (opAt s.ops i) = _ from (if_neg hk3).trans ((if_neg (by omega)).trans ((if_neg (by omega)).trans ((if_neg (by omega)).trans ((if_pos (by omega)).trans (if_neg hz)))))
            have hq1 : (gMod (IntKind.i64.wrap ((l.getD i 0).tdiv 16)) 2 == 0) = false := beq_eq_false_iff_ne.2 hz
            repeat' (first | with_reducible exact tr_a | refine dec_a (And.intro hq (And.intro hm hq1)) ?_ | refine un_a ?_ | ((first | refine st_a (fun K hK => ?_) | refine rg_a ?_ | refine call_c (mod_spec (l.getD i 0) 16 (by omega)) ?_ | refine gcall_c (fun hg => mod_spec (l.getD i 0) 16 (by omega)) ?_ | refine call_c (mod_spec (IntKind.i64.wrap ((l.getD i 0).tdiv 16)) 3 (by omega)) ?_ | refine gcall_c (fun hg => mod_spec (IntKind.i64.wrap ((l.getD i 0).tdiv 16)) 3 (by omega)) ?_ | refine call_c (mod_spec (IntKind.i64.wrap ((l.getD i 0).tdiv 16)) 2 (by omega)) ?_ | refine gcall_c (fun hg => mod_spec (IntKind.i64.wrap ((l.getD i 0).tdiv 16)) 2 (by omega)) ?_); (repeat' (refine And.intro ?_ ?_)); (all_goals first | (refine hK _ ?_; clear hK K) | exact auto_cl | skip)) | ((first | apply cw_ite | apply cw_iteN); (case hf => rfl); (case hc => exact ev_a); (all_goals first | (intro hb; (try simp only [hbs] at hb)) | skip)) | exact atN_intro | (refine if_a (fun hb => ?_) (fun hb => ?_); (all_goals (try first | with_reducible exact True.intro | (exfalso; omega)))) | refine cw_blocks (fun KB hB => ?_) | (refine hB _ ?_; clear hB KB) | refine exit_by (S := Sg) (by assumption) ?_ | (refine ret_a ?_; (try clear hB KB); (try clear hK K)))
            rw [thenQ_normal]
            refine wk_loop (i + 1) ?_ ⟨by omega, by omega⟩ (by omega)
            refine le_a [(1, some 1), (2, some 2), (3, some 3)] ?_ ?_
            repeat' (refine And.intro ?_ ?_)
            all_goals first | exact le_cl | skip
            refine .inr fun a ha j hj => ?_
            show PV.le _ (fnOf opE (bAt s l (i + 1)) a j)
            rw [bstep s l i j ha]
            by_cases e : a = i
            · rw [if_pos e, if_pos e, hop]
              simp only [hoi]
              have hivl : j = 0 ∨ j = 1 ∨ j = 2 ∨ j = 3 ∨ j = 4 ∨ j = 5 ∨ j = 6 ∨ j = 7 ∨ j = 8 ∨ j = 9 ∨ j = 10 ∨ j = 11 := by omega
              rcases hivl with rfl | rfl | rfl | rfl | rfl | rfl | rfl | rfl | rfl | rfl | rfl | rfl <;> exact fun _ _ _ h => h
            · rw [if_neg e, if_neg e]; exact fun _ _ _ h => h
        · by_cases hz : gMod (IntKind.i64.wrap ((l.getD i 0).tdiv 16)) 2 = 0
          · have hop := show bOp s (l.getD i 0) (opAt s.ops i) = _ from (if_neg hk3).trans ((if_neg (by omega)).trans ((if_neg (by omega)).trans ((if_neg (by omega)).trans ((if_pos (by omega)).trans (if_pos hz)))))
            have hq1 : (gMod (IntKind.i64.wrap ((l.getD i 0).tdiv 16)) 2 == 0) = true := beq_iff_eq.2 hz
            repeat' (first | with_reducible exact tr_a | refine dec_a (And.intro hq (And.intro hm hq1)) ?_ | refine un_a ?_ | ((first | refine st_a (fun K hK => ?_) | refine rg_a ?_ | refine call_c (mod_spec (l.getD i 0) 16 (by omega)) ?_ | refine gcall_c (fun hg => mod_spec (l.getD i 0) 16 (by omega)) ?_ | refine call_c (mod_spec (IntKind.i64.wrap ((l.getD i 0).tdiv 16)) 3 (by omega)) ?_ | refine gcall_c (fun hg => mod_spec (IntKind.i64.wrap ((l.getD i 0).tdiv 16)) 3 (by omega)) ?_ | refine call_c (mod_spec (IntKind.i64.wrap ((l.getD i 0).tdiv 16)) 2 (by omega)) ?_ | refine gcall_c (fun hg => mod_spec (IntKind.i64.wrap ((l.getD i 0).tdiv 16)) 2 (by omega)) ?_); (repeat' (refine And.intro ?_ ?_)); (all_goals first | (refine hK _ ?_; clear hK K) | exact auto_cl | skip)) | ((first | apply cw_ite | apply cw_iteN); (case hf => rfl); (case hc => exact ev_a); (all_goals first | (intro hb; (try simp only [hbs] at hb)) | skip)) | exact atN_intro | (refine if_a (fun hb => ?_) (fun hb => ?_); (all_goals (try first | with_reducible exact True.intro | (exfalso; omega)))) | refine cw_blocks (fun KB hB => ?_) | (refine hB _ ?_; clear hB KB) | refine exit_by (S := Sg) (by assumption) ?_ | (refine ret_a ?_; (try clear hB KB); (try clear hK K)))
            rw [thenQ_normal]
            refine wk_loop (i + 1) ?_ ⟨by omega, by omega⟩ (by omega)
            refine le_a [(1, some 1), (2, some 2), (3, some 3)] ?_ ?_
            repeat' (refine And.intro ?_ ?_)
            all_goals first | exact le_cl | skip
            refine .inr fun a ha j hj => ?_
            show PV.le _ (fnOf opE (bAt s l (i + 1)) a j)
            rw [bstep s l i j ha]
            by_cases e : a = i
            · rw [if_pos e, if_pos e, hop]
              simp only [hoi]
              have hivl : j = 0 ∨ j = 1 ∨ j = 2 ∨ j = 3 ∨ j = 4 ∨ j = 5 ∨ j = 6 ∨ j = 7 ∨ j = 8 ∨ j = 9 ∨ j = 10 ∨ j = 11 := by omega
              rcases hivl with rfl | rfl | rfl | rfl | rfl | rfl | rfl | rfl | rfl | rfl | rfl | rfl <;> exact fun _ _ _ h => h
            · rw [if_neg e, if_neg e]; exact fun _ _ _ h => h
          · have hop := show bOp s (l.getD i 0) (opAt s.ops i) = _ from (if_neg hk3).trans ((if_neg (by omega)).trans ((if_neg (by omega)).trans ((if_neg (by omega)).trans ((if_pos (by omega)).trans (if_neg hz)))))
            have hq1 : (gMod (IntKind.i64.wrap ((l.getD i 0).tdiv 16)) 2 == 0) = false := beq_eq_false_iff_ne.2 hz
            repeat' (first | with_reducible exact tr_a | refine dec_a (And.intro hq (And.intro hm hq1)) ?_ | refine un_a ?_ | ((first | refine st_a (fun K hK => ?_) | refine rg_a ?_ | refine call_c (mod_spec (l.getD i 0) 16 (by omega)) ?_ | refine gcall_c (fun hg => mod_spec (l.getD i 0) 16 (by omega)) ?_ | refine call_c (mod_spec (IntKind.i64.wrap ((l.getD i 0).tdiv 16)) 3 (by omega)) ?_ | refine gcall_c (fun hg => mod_spec (IntKind.i64.wrap ((l.getD i 0).tdiv 16)) 3 (by omega)) ?_ | refine call_c (mod_spec (IntKind.i64.wrap ((l.getD i 0).tdiv 16)) 2 (by omega)) ?_ | refine gcall_c (fun hg => mod_spec (IntKind.i64.wrap ((l.getD i 0).tdiv 16)) 2 (by omega)) ?_); (repeat' (refine And.intro ?_ ?_)); (all_goals first | (refine hK _ ?_; clear hK K) | exact auto_cl | skip)) | ((first | apply cw_ite | apply cw_iteN); (case hf => rfl); (case hc => exact ev_a); (all_goals first | (intro hb; (try simp only [hbs] at hb)) | skip)) | exact atN_intro | (refine if_a (fun hb => ?_) (fun hb => ?_); (all_goals (try first | with_reducible exact True.intro | (exfalso; omega)))) | refine cw_blocks (fun KB hB => ?_) | (refine hB _ ?_; clear hB KB) | refine exit_by (S := Sg) (by assumption) ?_ | (refine ret_a ?_; (try clear hB KB); (try clear hK K)))
            rw [thenQ_normal]
            refine wk_loop (i + 1) ?_ ⟨by omega, by omega⟩ (by omega)
            refine le_a [(1, some 1), (2, some 2), (3, some 3)] ?_ ?_
            repeat' (refine And.intro ?_ ?_)
            all_goals first | exact le_cl | skip
            refine .inr fun a ha j hj => ?_
            show PV.le _ (fnOf opE (bAt s l (i + 1)) a j)
            rw [bstep s l i j ha]
            by_cases e : a = i
            · rw [if_pos e, if_pos e, hop]
              simp only [hoi]
              have hivl : j = 0 ∨ j = 1 ∨ j = 2 ∨ j = 3 ∨ j = 4 ∨ j = 5 ∨ j = 6 ∨ j = 7 ∨ j = 8 ∨ j = 9 ∨ j = 10 ∨ j = 11 := by omega
              rcases hivl with rfl | rfl | rfl | rfl | rfl | rfl | rfl | rfl | rfl | rfl | rfl | rfl <;> exact fun _ _ _ h => h
            · rw [if_neg e, if_neg e]; exact fun _ _ _ h => h
        · by_cases hz : gMod (IntKind.i64.wrap ((l.getD i 0).tdiv 16)) 2 = 0
          · have hop := show bOp s (l.getD i 0) (opAt s.ops i) = _ from (if_neg hk3).trans ((if_neg (by omega)).trans ((if_neg (by omega)).trans ((if_neg (by omega)).trans ((if_pos (by omega)).trans (if_pos hz)))))
            have hq1 : (gMod (IntKind.i64.wrap ((l.getD i 0).tdiv 16)) 2 == 0) = true := beq_iff_eq.2 hz
            repeat' (first | with_reducible exact tr_a | refine dec_a (And.intro hq (And.intro hm hq1)) ?_ | refine un_a ?_ | ((first | refine st_a (fun K hK => ?_) | refine rg_a ?_ | refine call_c (mod_spec (l.getD i 0) 16 (by omega)) ?_ | refine gcall_c (fun hg => mod_spec (l.getD i 0) 16 (by omega)) ?_ | refine call_c (mod_spec (IntKind.i64.wrap ((l.getD i 0).tdiv 16)) 3 (by omega)) ?_ | refine gcall_c (fun hg => mod_spec (IntKind.i64.wrap ((l.getD i 0).tdiv 16)) 3 (by omega)) ?_ | refine call_c (mod_spec (IntKind.i64.wrap ((l.getD i 0).tdiv 16)) 2 (by omega)) ?_ | refine gcall_c (fun hg => mod_spec (IntKind.i64.wrap ((l.getD i 0).tdiv 16)) 2 (by omega)) ?_); (repeat' (refine And.intro ?_ ?_)); (all_goals first | (refine hK _ ?_; clear hK K) | exact auto_cl | skip)) | ((first | apply cw_ite | apply cw_iteN); (case hf => rfl); (case hc => exact ev_a); (all_goals first | (intro hb; (try simp only [hbs] at hb)) | skip)) | exact atN_intro | (refine if_a (fun hb => ?_) (fun hb => ?_); (all_goals (try first | with_reducible exact True.intro | (exfalso; omega)))) | refine cw_blocks (fun KB hB => ?_) | (refine hB _ ?_; clear hB KB) | refine exit_by (S := Sg) (by assumption) ?_ | (refine ret_a ?_; (try clear hB KB); (try clear hK K)))
            rw [thenQ_normal]
            refine wk_loop (i + 1) ?_ ⟨by omega, by omega⟩ (by omega)
            refine le_a [(1, some 1), (2, some 2), (3, some 3)] ?_ ?_
            repeat' (refine And.intro ?_ ?_)
            all_goals first | exact le_cl | skip
            refine .inr fun a ha j hj => ?_
            show PV.le _ (fnOf opE (bAt s l (i + 1)) a j)
            rw [bstep s l i j ha]
            by_cases e : a = i
            · rw [if_pos e, if_pos e, hop]
              simp only [hoi]
              have hivl : j = 0 ∨ j = 1 ∨ j = 2 ∨ j = 3 ∨ j = 4 ∨ j = 5 ∨ j = 6 ∨ j = 7 ∨ j = 8 ∨ j = 9 ∨ j = 10 ∨ j = 11 := by omega
              rcases hivl with rfl | rfl | rfl | rfl | rfl | rfl | rfl | rfl | rfl | rfl | rfl | rfl <;> exact fun _ _ _ h => h
            · rw [if_neg e, if_neg e]; exact fun _ _ _ h => h
          · have hop := show bOp s (l.getD i 0) (opAt s.ops i) = _ from (if_neg hk3).trans ((if_neg (by omega)).trans ((if_neg (by omega)).trans ((if_neg (by omega)).trans ((if_pos (by omega)).trans (if_neg hz)))))
            have hq1 : (gMod (IntKind.i64.wrap ((l.getD i 0).tdiv 16)) 2 == 0) = false := beq_eq_false_iff_ne.2 hz
            repeat' (first | with_reducible exact tr_a | refine dec_a (And.intro hq (And.intro hm hq1)) ?_ | refine un_a ?_ | ((first | refine st_a (fun K hK => ?_) | refine rg_a ?_ | refine call_c (mod_spec (l.getD i 0) 16 (by omega)) ?_ | refine gcall_c (fun hg => mod_spec (l.getD i 0) 16 (by omega)) ?_ | refine call_c (mod_spec (IntKind.i64.wrap ((l.getD i 0).tdiv 16)) 3 (by omega)) ?_ | refine gcall_c (fun hg => mod_spec (IntKind.i64.wrap ((l.getD i 0).tdiv 16)) 3 (by omega)) ?_ | refine call_c (mod_spec (IntKind.i64.wrap ((l.getD i 0).tdiv 16)) 2 (by omega)) ?_ | refine gcall_c (fun hg => mod_spec (IntKind.i64.wrap ((l.getD i 0).tdiv 16)) 2 (by omega)) ?_); (repeat' (refine And.intro ?_ ?_)); (all_goals first | (refine hK _ ?_; clear hK K) | exact auto_cl | skip)) | ((first | apply cw_ite | apply cw_iteN); (case hf => rfl); (case hc => exact ev_a); (all_goals first | (intro hb; (try simp only [hbs] at hb)) | skip)) | exact atN_intro | (refine if_a (fun hb => ?_) (fun hb => ?_); (all_goals (try first | with_reducible exact True.intro | (exfalso; omega)))) | refine cw_blocks (fun KB hB => ?_) | (refine hB _ ?_; clear hB KB) | refine exit_by (S := Sg) (by assumption) ?_ | (refine ret_a ?_; (try clear hB KB); (try clear hK K)))
            rw [thenQ_normal]
            refine wk_loop (i + 1) ?_ ⟨by omega, by omega⟩ (by omega)
            refine le_a [(1, some 1), (2, some 2), (3, some 3)] ?_ ?_
            repeat' (refine And.intro ?_ ?_)
            all_goals first | exact le_cl | skip
            refine .inr fun a ha j hj => ?_
            show PV.le _ (fnOf opE (bAt s l (i + 1)) a j)
            rw [bstep s l i j ha]
            by_cases e : a = i
            · rw [if_pos e, if_pos e, hop]
              simp only [hoi]
              have hivl : j = 0 ∨ j = 1 ∨ j = 2 ∨ j = 3 ∨ j = 4 ∨ j = 5 ∨ j = 6 ∨ j = 7 ∨ j = 8 ∨ j = 9 ∨ j = 10 ∨ j = 11 := by omega
              rcases hivl with rfl | rfl | rfl | rfl | rfl | rfl | rfl | rfl | rfl | rfl | rfl | rfl <;> exact fun _ _ _ h => h
            · rw [if_neg e, if_neg e]; exact fun _ _ _ h => h
        · have hop := show bOp s (l.getD i 0) (opAt s.ops i) = _ from (if_neg hk3).trans ((if_neg (by omega)).trans ((if_neg (by omega)).trans ((if_neg (by omega)).trans ((if_neg (by omega)).trans (if_pos hm)))))
          repeat' (first | with_reducible exact tr_a | refine dec_a (And.intro hq hm) ?_ | refine un_a ?_ | ((first | refine st_a (fun K hK => ?_) | refine rg_a ?_ | refine call_c (mod_spec (l.getD i 0) 16 (by omega)) ?_ | refine gcall_c (fun hg => mod_spec (l.getD i 0) 16 (by omega)) ?_ | refine call_c (mod_spec (IntKind.i64.wrap ((l.getD i 0).tdiv 16)) 3 (by omega)) ?_ | refine gcall_c (fun hg => mod_spec (IntKind.i64.wrap ((l.getD i 0).tdiv 16)) 3 (by omega)) ?_ | refine call_c (mod_spec (IntKind.i64.wrap ((l.getD i 0).tdiv 16)) 2 (by omega)) ?_ | refine gcall_c (fun hg => mod_spec (IntKind.i64.wrap ((l.getD i 0).tdiv 16)) 2 (by omega)) ?_); (repeat' (refine And.intro ?_ ?_)); (all_goals first | (refine hK _ ?_; clear hK K) | exact auto_cl | skip)) | ((first | apply cw_ite | apply cw_iteN); (case hf => rfl); (case hc => exact ev_a); (all_goals first | (intro hb; (try simp only [hbs] at hb)) | skip)) | exact atN_intro | (refine if_a (fun hb => ?_) (fun hb => ?_); (all_goals (try first | with_reducible exact True.intro | (exfalso; omega)))) | refine cw_blocks (fun KB hB => ?_) | (refine hB _ ?_; clear hB KB) | refine exit_by (S := Sg) (by assumption) ?_ | (refine ret_a ?_; (try clear hB KB); (try clear hK K)))
          rw [thenQ_normal]
          refine wk_loop (i + 1) ?_ ⟨by omega, by omega⟩ (by omega)
          refine le_a [(1, some 1), (2, some 2), (3, some 3)] ?_ ?_
          repeat' (refine And.intro ?_ ?_)
          all_goals first | exact le_cl | skip
          refine .inr fun a ha j hj => ?_
          show PV.le _ (fnOf opE (bAt s l (i + 1)) a j)
          rw [bstep s l i j ha]
          by_cases e : a = i
          · rw [if_pos e, if_pos e, hop]
            simp only [hoi]
            have hivl : j = 0 ∨ j = 1 ∨ j = 2 ∨ j = 3 ∨ j = 4 ∨ j = 5 ∨ j = 6 ∨ j = 7 ∨ j = 8 ∨ j = 9 ∨ j = 10 ∨ j = 11 := by omega
            rcases hivl with rfl | rfl | rfl | rfl | rfl | rfl | rfl | rfl | rfl | rfl | rfl | rfl <;> exact fun _ _ _ h => h
          · rw [if_neg e, if_neg e]; exact fun _ _ _ h => h
        · have hop := show bOp s (l.getD i 0) (opAt s.ops i) = _ from (if_neg hk3).trans ((if_neg (by omega)).trans ((if_neg (by omega)).trans ((if_neg (by omega)).trans ((if_neg (by omega)).trans (if_neg (by omega))))))
          have e0 := beq_eq_false_iff_ne.2 n0
          have e1 := beq_eq_false_iff_ne.2 n1
          have e2 := beq_eq_false_iff_ne.2 n2
          have e3 := beq_eq_false_iff_ne.2 n3
          have e4 := beq_eq_false_iff_ne.2 n4
          have e5 := beq_eq_false_iff_ne.2 n5
          have e6 := beq_eq_false_iff_ne.2 n6
          have e7 := beq_eq_false_iff_ne.2 n7
          have e8 := beq_eq_false_iff_ne.2 n8
          repeat' (first | with_reducible exact tr_a | refine dec_a (And.intro hq (And.intro e0 (And.intro e1 (And.intro e2 (And.intro e3 (And.intro e4 (And.intro e5 (And.intro e6 (And.intro e7 e8))))))))) ?_ | refine un_a ?_ | ((first | refine st_a (fun K hK => ?_) | refine rg_a ?_ | refine call_c (mod_spec (l.getD i 0) 16 (by omega)) ?_ | refine gcall_c (fun hg => mod_spec (l.getD i 0) 16 (by omega)) ?_ | refine call_c (mod_spec (IntKind.i64.wrap ((l.getD i 0).tdiv 16)) 3 (by omega)) ?_ | refine gcall_c (fun hg => mod_spec (IntKind.i64.wrap ((l.getD i 0).tdiv 16)) 3 (by omega)) ?_ | refine call_c (mod_spec (IntKind.i64.wrap ((l.getD i 0).tdiv 16)) 2 (by omega)) ?_ | refine gcall_c (fun hg => mod_spec (IntKind.i64.wrap ((l.getD i 0).tdiv 16)) 2 (by omega)) ?_); (repeat' (refine And.intro ?_ ?_)); (all_goals first | (refine hK _ ?_; clear hK K) | exact auto_cl | skip)) | ((first | apply cw_ite | apply cw_iteN); (case hf => rfl); (case hc => exact ev_a); (all_goals first | (intro hb; (try simp only [hbs] at hb)) | skip)) | exact atN_intro | (refine if_a (fun hb => ?_) (fun hb => ?_); (all_goals (try first | with_reducible exact True.intro | (exfalso; omega)))) | refine cw_blocks (fun KB hB => ?_) | (refine hB _ ?_; clear hB KB) | refine exit_by (S := Sg) (by assumption) ?_ | (refine ret_a ?_; (try clear hB KB); (try clear hK K)))
          rw [thenQ_normal]
          refine wk_loop (i + 1) ?_ ⟨by omega, by omega⟩ (by omega)
          refine le_a [(1, some 1), (2, some 2), (3, some 3)] ?_ ?_
          repeat' (refine And.intro ?_ ?_)
          all_goals first | exact le_cl | skip
          refine .inr fun a ha j hj => ?_
          show PV.le _ (fnOf opE (bAt s l (i + 1)) a j)
          rw [bstep s l i j ha]
          by_cases e : a = i
          · rw [if_pos e, if_pos e, hop]
            simp only [hoi]
            have hivl : j = 0 ∨ j = 1 ∨ j = 2 ∨ j = 3 ∨ j = 4 ∨ j = 5 ∨ j = 6 ∨ j = 7 ∨ j = 8 ∨ j = 9 ∨ j = 10 ∨ j = 11 := by omega
            rcases hivl with rfl | rfl | rfl | rfl | rfl | rfl | rfl | rfl | rfl | rfl | rfl | rfl <;> exact fun _ _ _ h => h
          · rw [if_neg e, if_neg e]; exact fun _ _ _ h => h
      · have he : i = l.length := by omega
        repeat' (first | with_reducible exact tr_a | refine un_a ?_ | ((first | refine st_a (fun K hK => ?_) | refine rg_a ?_); (repeat' (refine And.intro ?_ ?_)); (all_goals first | (refine hK _ ?_; clear hK K) | exact auto_cl | skip)) | ((first | apply cw_ite | apply cw_iteN); (case hf => rfl); (case hc => exact ev_a); (all_goals first | (intro hb; (try simp only [hbs] at hb)) | skip)) | exact atN_intro | (refine if_a (fun hb => ?_) (fun hb => ?_); (all_goals (try first | with_reducible exact True.intro | (exfalso; omega)))) | refine cw_blocks (fun KB hB => ?_) | (refine hB _ ?_; clear hB KB) | refine exit_by (S := Sg) (by assumption) ?_ | (refine ret_a ?_; (try clear hB KB); (try clear hK K)))
        have e1 : (biasM s l).images.length = s.images.length + 2 := by show (bImgs s).length = _; rw [bImgs, List.length_append]; rfl
        have e2 : (biasM s l).ops.length = s.ops.length := bAt_len s l _
        rw [e1, e2, hend i (.inr he) hi2]
        refine ⟨⟨_, rfl, rfl, fun _ _ _ _ => PV.le_refl _⟩, ?_⟩
        repeat' (refine And.intro ?_ ?_)
        all_goals first | exact .inl rfl | trivial | skip
    · have he : i = s.ops.length := by omega
      repeat' (first | with_reducible exact tr_a | refine un_a ?_ | ((first | refine st_a (fun K hK => ?_) | refine rg_a ?_); (repeat' (refine And.intro ?_ ?_)); (all_goals first | (refine hK _ ?_; clear hK K) | exact auto_cl | skip)) | ((first | apply cw_ite | apply cw_iteN); (case hf => rfl); (case hc => exact ev_a); (all_goals first | (intro hb; (try simp only [hbs] at hb)) | skip)) | exact atN_intro | (refine if_a (fun hb => ?_) (fun hb => ?_); (all_goals (try first | with_reducible exact True.intro | (exfalso; omega)))) | refine cw_blocks (fun KB hB => ?_) | (refine hB _ ?_; clear hB KB) | refine exit_by (S := Sg) (by assumption) ?_ | (refine ret_a ?_; (try clear hB KB); (try clear hK K)))
      have e1 : (biasM s l).images.length = s.images.length + 2 := by show (bImgs s).length = _; rw [bImgs, List.length_append]; rfl
      have e2 : (biasM s l).ops.length = s.ops.length := bAt_len s l _
      rw [e1, e2, hend i (.inl he) hi2]
      refine ⟨⟨_, rfl, rfl, fun _ _ _ _ => PV.le_refl _⟩, ?_⟩
      repeat' (refine And.intro ?_ ?_)
      all_goals first | exact .inl rfl | trivial | skip
theorem bias_sp (s : Script) (l : List Int) (hs : ScriptLen s) (hl : l.length ≤ 4611686018427387904) (ho : s.ops.length ≤ 4096) (hi : s.images.length ≤ 4096) :
    Pure Sg 4 [ag (scriptE s), .c (.p (ints l))] (fun x => x = .b (ag (scriptE (biasM s l)))) :=
  pure_ownK (bias_own s l hs hl ho hi) rfl
end Go.Proofs.YtbpplplnkgmhlaaDoor

/- The given types of the scenes: whatever a row reads at them is such a scene. -/
set_option maxRecDepth 8000
namespace Go.Proofs.YtbpplplnkgmhlaaDoor
open Go Go.SL

theorem wf_i64 {n : Int} (h : (Lit.int .i64 n).wf = true) : i64 n := bounds_i64 h
theorem all_getD {α : Type} [Inhabited α] {p : α → Prop} {l : List α} (h : ∀ x ∈ l, p x) (i : Nat) (hi : i < l.length) : p (l.getD i default) := by
  rw [List.getD_eq_getElem?_getD, List.getElem?_eq_getElem hi]
  exact h _ (List.getElem_mem _)
theorem len_le {n b : Nat} (hb : 0 < b) (h : n * b ≤ reachBytes) : n ≤ 4611686018427387904 := by
  have : n ≤ n * b := Nat.le_mul_of_pos_right _ hb
  have e : reachBytes = 140737488351232 := rfl
  omega

theorem c_int : Cdc Sg.P 3 (fun n => [PI n]) i64 := (cdc_int (k := .i64) (by kernel_rfl)).to id (fun _ => rfl) (fun _ h => wf_i64 h)
theorem c_ints : Cdc Sg.P 22 (fun l => [ints l]) (fun l => l.length ≤ 4611686018427387904 ∧ ∀ x ∈ l, i64 x) :=
  (cdc_slice (sz := 1) (by8 := 8) (by kernel_rfl) (by kernel_rfl) (by decide) (by kernel_rfl) c_int).to id (fun _ => rfl) (fun _ h => ⟨len_le (by decide) h.1, h.2⟩)
theorem c_raw : Cdc Sg.P 71 rawE RawOk := by
  refine Cdc.to (cdc_struct ?_ ?_ (cdcL_cons c_int rfl (cdcL_cons c_int rfl (cdcL_cons c_int rfl (cdcL_cons c_int rfl (cdcL_cons c_int rfl (cdcL_cons c_int rfl (cdcL_cons c_int rfl (cdcL_cons c_int rfl (cdcL_cons c_int rfl (cdcL_cons c_int rfl (cdcL_cons c_int rfl cdcL_nil))))))))))))
    (fun (a, b, c, d, e, f, g, h, i, j, k, _) => (⟨a, b, c, d, e, f, g, h, i, j, k⟩ : Raw)) (fun _ => rfl) ?_
  · kernel_rfl
  · kernel_rfl
  · rintro _ ⟨h1, h2, h3, h4, h5, h6, h7, h8, h9, h10, h11, _⟩
    exact ⟨h1, h2, h3, h4, h5, h6, h7, h8, h9, h10, h11⟩
theorem c_n5 : Cdc Sg.P 118 n5E N5ok := by
  refine Cdc.to (cdc_struct ?_ ?_ (cdcL_cons c_int rfl (cdcL_cons c_int rfl (cdcL_cons c_int rfl (cdcL_cons c_int rfl (cdcL_cons c_int rfl cdcL_nil)))))) (fun (a, b, c, d, e, _) => (⟨a, b, c, d, e⟩ : N5)) (fun _ => rfl) ?_
  · kernel_rfl
  · kernel_rfl
  · rintro _ ⟨h1, h2, h3, h4, h5, _⟩
    exact ⟨h1, h2, h3, h4, h5⟩
theorem c_n5s : Cdc Sg.P 65 (fun l => [n5L l]) (fun l => l.length ≤ 4611686018427387904 ∧ ∀ x ∈ l, N5ok x) :=
  (cdc_slice (sz := 5) (by8 := 40) (by kernel_rfl) (by kernel_rfl) (by decide) (by kernel_rfl) c_n5).to id (fun _ => rfl) (fun _ h => ⟨len_le (by decide) h.1, h.2⟩)
theorem c_row : Cdc Sg.P 67 rowE RowOk := by
  refine Cdc.to (cdc_struct ?_ ?_ (cdcL_cons c_int rfl (cdcL_cons c_n5s rfl cdcL_nil))) (fun (a, b, _) => (⟨a, b⟩ : Row)) (fun _ => rfl) ?_
  · kernel_rfl
  · kernel_rfl
  · rintro _ ⟨h1, h2, _⟩
    exact ⟨h1, all_getD h2.2, h2.1⟩
theorem c_pic : Cdc Sg.P 69 picE PicOk := by
  refine Cdc.to (cdc_struct ?_ ?_ (cdcL_cons c_int rfl (cdcL_cons c_int rfl (cdcL_cons c_int rfl (cdcL_cons c_row rfl cdcL_nil))))) (fun (a, b, c, d, _) => (⟨a, b, c, d⟩ : Pic)) (fun _ => rfl) ?_
  · kernel_rfl
  · kernel_rfl
  · rintro _ ⟨h1, h2, h3, h4, _⟩
    exact ⟨h1, h2, h3, h4⟩
theorem c_pics : Cdc Sg.P 23 (fun l => [picL l]) (fun l => l.length ≤ 4611686018427387904 ∧ ∀ x ∈ l, PicOk x) :=
  (cdc_slice (sz := 5) (by8 := 56) (by kernel_rfl) (by kernel_rfl) (by decide) (by kernel_rfl) c_pic).to id (fun _ => rfl) (fun _ h => ⟨len_le (by decide) h.1, h.2⟩)
theorem c_raws : Cdc Sg.P 24 (fun l => [rawL l]) (fun l => l.length ≤ 4611686018427387904 ∧ ∀ x ∈ l, RawOk x) :=
  (cdc_slice (sz := 11) (by8 := 88) (by kernel_rfl) (by kernel_rfl) (by decide) (by kernel_rfl) c_raw).to id (fun _ => rfl) (fun _ h => ⟨len_le (by decide) h.1, h.2⟩)
theorem c_scene : Cdc Sg.P 26 sceneE SceneOk := by
  refine Cdc.to (cdc_struct ?_ ?_ (cdcL_cons c_int rfl (cdcL_cons c_int rfl (cdcL_cons c_int rfl (cdcL_cons c_int rfl (cdcL_cons c_int rfl (cdcL_cons c_int rfl (cdcL_cons c_int rfl (cdcL_cons c_ints rfl (cdcL_cons c_pics rfl (cdcL_cons c_raws rfl cdcL_nil)))))))))))
    (fun (a, b, c, d, e, f, g, h, i, j, _) => (⟨a, b, c, d, e, f, g, h, i, j⟩ : Scene)) (fun _ => rfl) ?_
  · kernel_rfl
  · kernel_rfl
  · rintro _ ⟨h1, h2, h3, h4, h5, h6, h7, h8, h9, h10, _⟩
    exact ⟨h1, h2, h3, h4, h5, h6, h7, h8.1, h9.1, h10.1, all_getD h9.2, all_getD h10.2⟩
end Go.Proofs.YtbpplplnkgmhlaaDoor

/- RulesCount and RulesKeepClear. -/
set_option maxRecDepth 8000
set_option maxHeartbeats 2000000
namespace Go.Proofs.YtbpplplnkgmhlaaDoor
open Go Go.SL
open Go.RowKit (wrap64)
attribute [local go_sem] Int.toNat_natCast rxE

structure PlB (m : Image) : Prop where
  p0 : m.p0.s.length ≤ 1000000000
  p1 : m.p1.s.length ≤ 1000000000
  p2 : m.p2.s.length ≤ 1000000000
  p3 : m.p3.s.length ≤ 1000000000
  p4 : m.p4.s.length ≤ 1000000000
theorem plb_solid (w h : Int) (p : Pixel) : PlB (solidOf w h p) := ⟨Nat.zero_le _, Nat.zero_le _, Nat.zero_le _, Nat.zero_le _, Nat.zero_le _⟩
theorem plb_imageOf (w h : Int) (l : List Pixel) (hl : l.length ≤ 1000000000) : PlB (imageOf w h l) := by
  refine ⟨?_, ?_, ?_, ?_, ?_⟩ <;> (show (List.map _ l).length ≤ _; rw [List.length_map]; exact hl)
theorem plb_g (c : Scene) (i : Nat) (hi : i < (gImages c).length) : PlB ((gImages c).getD i default) := by
  have hm : (gImages c).getD i default ∈ gImages c := by
    rw [List.getD_eq_getElem?_getD, List.getElem?_eq_getElem hi]; exact List.getElem_mem _
  generalize (gImages c).getD i default = m at hm
  unfold gImages at hm
  split at hm
  · rw [List.mem_singleton.1 hm]; exact plb_solid _ _ _
  · unfold gImages0 at hm
    obtain ⟨p, hp, rfl⟩ := List.mem_map.1 hm
    unfold gImage
    split
    · exact plb_solid _ _ _
    · refine plb_imageOf _ _ _ ?_
      have := gW_le (p := p) (gCanvas_small c)
      rw [gPixels, List.length_map, List.length_range]
      omega
theorem plb_bias (c : Scene) (l : List Int) (i : Nat) (hi : i < (biasM (gScript c) l).images.length) : PlB ((biasM (gScript c) l).images.getD i default) := by
  show PlB ((bImgs (gScript c)).getD i default)
  have hl : (bImgs (gScript c)).length = (gImages c).length + 2 := by rw [bImgs, List.length_append]; rfl
  have hi : i < (bImgs (gScript c)).length := hi
  rcases Nat.lt_or_ge i (gImages c).length with h | h
  · have e : (bImgs (gScript c)).getD i default = (gImages c).getD i default := by
      show (gImages c ++ [bCover (gScript c), bDot (gScript c)]).getD i default = _
      rw [List.getD_eq_getElem?_getD, List.getD_eq_getElem?_getD, List.getElem?_append_left h]
    rw [e]; exact plb_g c i h
  · have hv : i = (gImages c).length ∨ i = (gImages c).length + 1 := by omega
    rcases hv with rfl | rfl
    · have e : (bImgs (gScript c)).getD (gImages c).length default = bCover (gScript c) := by
        show (gImages c ++ [bCover (gScript c), bDot (gScript c)]).getD (gImages c).length default = _
        rw [List.getD_eq_getElem?_getD, List.getElem?_append_right (Nat.le_refl _), Nat.sub_self]; rfl
      rw [e]; exact plb_solid _ _ _
    · have e : (bImgs (gScript c)).getD ((gImages c).length + 1) default = bDot (gScript c) := by
        show (gImages c ++ [bCover (gScript c), bDot (gScript c)]).getD ((gImages c).length + 1) default = _
        rw [List.getD_eq_getElem?_getD, List.getElem?_append_right (Nat.le_succ _), Nat.succ_sub (Nat.le_refl _), Nat.sub_self]; rfl
      rw [e]; exact plb_solid _ _ _
theorem bias_imgs (c : Scene) (l : List Int) : (biasM (gScript c) l).images.length = (gImages c).length + 2 := by
  show (bImgs (gScript c)).length = _
  rw [bImgs, List.length_append]; rfl
theorem bias_ops (c : Scene) (l : List Int) : (biasM (gScript c) l).ops.length = (gScript c).ops.length := bAt_len _ _ _
theorem sml_bias (c : Scene) (l : List Int) : Sml (biasM (gScript c) l) := by
  have hi := gImages_le c
  have hn := bias_imgs c l
  have ht := tiles_le c
  refine ⟨?_, by omega, by omega, fun i h => (plb_bias c l i h).p0, fun i h => (plb_bias c l i h).p1, fun i h => (plb_bias c l i h).p2, fun i h => (plb_bias c l i h).p3, fun i h => (plb_bias c l i h).p4⟩
  exact Nat.le_trans (gorder_len c) (by decide)
theorem len_bias (c : Scene) (l : List Int) : ScriptLen (biasM (gScript c) l) := by
  have h := gScript_len c
  have hi := gImages_le c
  have hn := bias_imgs c l
  have ho := bias_ops c l
  exact ⟨h.order, by omega, by rw [ho]; exact h.ops⟩
end Go.Proofs.YtbpplplnkgmhlaaDoor

/- The boxes, as the program computes them. -/
set_option maxRecDepth 8000
set_option maxHeartbeats 2000000
namespace Go.Proofs.YtbpplplnkgmhlaaDoor
open Go Go.SL
open Go.RowKit (wrap64)

def rF (l junk : List Rect) (a : Nat) : Rect := (l.reverse ++ junk).getD a zeroR
theorem rF_top {p : Rect} {t junk : List Rect} : rF (p :: t) junk t.length = p := by
  rw [rF, List.reverse_cons, List.append_assoc, List.getD_eq_getElem?_getD, List.getElem?_append_right (by simp)]
  simp
theorem rF_pop {p : Rect} {t junk : List Rect} : rF (p :: t) junk = rF t (p :: junk) := by
  funext a; rw [rF, rF, List.reverse_cons, List.append_assoc]; rfl
theorem rF_top2 {q p : Rect} {t junk : List Rect} : rF (q :: p :: t) junk t.length = p := by rw [rF_pop, rF_top]
theorem rF_top3 {q p : Rect} {t junk : List Rect} : rF (q :: p :: t) junk (t.length + 1) = q := rF_top (t := p :: t)
attribute [local go_sem] pred_cast2 Int.toNat_natCast stF_top rF_top rF_top2 rF_top3
end Go.Proofs.YtbpplplnkgmhlaaDoor

/- The boxes, as the reference computes them: the same. -/
set_option maxRecDepth 8000
set_option maxHeartbeats 2000000
namespace Go.Proofs.YtbpplplnkgmhlaaDoor
open Go Go.SL
open Go.RowKit (wrap64)
attribute [local go_sem] Int.toNat_natCast

end Go.Proofs.YtbpplplnkgmhlaaDoor

/- What lies between two scripts: the parts of both programs. -/
set_option maxHeartbeats 2000000
set_option maxRecDepth 16000
namespace Go.Proofs.YtbpplplnkgmhlaaDoor
open Go Go.SL
open Go.RowKit (wrap64)
attribute [local go_sem] Int.toNat_natCast stF_top pred_cast2

theorem op_eq {a b : Op} : a = b ↔ a.kind = b.kind ∧ a.image = b.image ∧ a.x = b.x ∧ a.y = b.y ∧ a.mask = b.mask ∧ a.maskX = b.maskX ∧ a.maskY = b.maskY ∧ a.opacity = b.opacity ∧ a.operator = b.operator ∧
    a.mode = b.mode ∧ a.isolated = b.isolated ∧ a.knockout = b.knockout := by
  cases a; cases b; simp
theorem sameOps_spec (a b : List Op) (ha : a.length ≤ 1000000) (hb : b.length ≤ 1000000) : Pure Sg 10 [.c (.p (opL a)), .c (.p (opL b))] (fun x => x = .b (B (decide (a = b)))) := by
  refine pure_of Tryd.func10 rfl (rs := [.tmp 4]) rfl rfl mixed (by decide +kernel) (Nat.le_of_ble_eq_true rfl) (argsLt_mem (by simp (maxSteps := 1000000) (disch := omega) only [go_sem])) ?_
  repeat' (first | with_reducible exact tr_a | refine un_a ?_ | ((first | refine st_a (fun K hK => ?_) | refine rg_a ?_); (repeat' (refine And.intro ?_ ?_)); (all_goals first | (refine hK _ ?_; clear hK K) | exact auto_cl | skip)) | ((first | apply cw_ite | apply cw_iteN); (case hf => rfl); (case hc => exact ev_a); (all_goals first | (intro hb; (try simp only [hbs] at hb)) | skip)) | exact atN_intro | (refine if_a (fun hb => ?_) (fun hb => ?_); (all_goals (try first | with_reducible exact True.intro | (exfalso; omega)))) | refine cw_blocks (fun KB hB => ?_) | (refine hB _ ?_; clear hB KB) | refine exit_by (S := Sg) (by assumption) ?_ | (refine ret_a ?_; (try clear hB KB); (try clear hK K)))
  · rw [decide_eq_false (fun e => by rw [e] at hb; omega)]
  refine cw_loop (X := Nat) (fun k => mkSt [(0, .b (.c (.p (opL a)))), (1, .b (.c (.p (opL b)))), (4, .b (B false)), (5, .b (I k))] [] 1) (fun k => k ≤ a.length ∧ ∀ j, j < k → opAt a j = opAt b j) (fun k => a.length - k) 0 ?_ ?_ ?_
  · exact ⟨Nat.zero_le _, fun j hj => absurd hj (Nat.not_lt_zero _)⟩
  · refine le_a [] ?_ ?_
    repeat' (refine And.intro ?_ ?_)
    all_goals first | exact le_cl | skip
  · rintro k ⟨hk, hp⟩
    repeat' (first | with_reducible exact tr_a | refine un_a ?_ | ((first | refine st_a (fun K hK => ?_) | refine rg_a ?_); (repeat' (refine And.intro ?_ ?_)); (all_goals first | (refine hK _ ?_; clear hK K) | exact auto_cl | skip)) | ((first | apply cw_ite | apply cw_iteN); (case hf => rfl); (case hc => exact ev_a); (all_goals first | (intro hb; (try simp only [hbs] at hb)) | skip)) | exact atN_intro | (refine if_a (fun hb => ?_) (fun hb => ?_); (all_goals (try first | with_reducible exact True.intro | (exfalso; omega)))) | refine cw_blocks (fun KB hB => ?_) | (refine hB _ ?_; clear hB KB) | refine exit_by (S := Sg) (by assumption) ?_ | (refine ret_a ?_; (try clear hB KB); (try clear hK K)))
    · rw [decide_eq_false]
      intro e
      subst e
      simp at hb
    · rw [thenQ_normal]
      refine wk_loop (k + 1) ?_ ⟨by omega, fun j hj => ?_⟩ (by omega)
      · refine le_a [] ?_ ?_
        repeat' (refine And.intro ?_ ?_)
        all_goals first | exact le_cl | skip
      · by_cases e : j = k
        · obtain ⟨e1, e2, e3, e4, e5, e6, e7, e8, e9, e10, e11, e12, _⟩ := hb
          rw [e]; exact op_eq.2 ⟨e1, e2, e3, e4, e5, e6, e7, e8, e9, e10, e11, e12⟩
        · exact hp j (by omega)
    · rw [decide_eq_true (opAt_ext (by omega) fun j hj => hp j (by omega))]
end Go.Proofs.YtbpplplnkgmhlaaDoor

/- SimplifyReachesNormalForm. -/
set_option maxRecDepth 8000
set_option maxHeartbeats 2000000
namespace Go.Proofs.YtbpplplnkgmhlaaDoor
open Go Go.SL
open Go.RowKit (wrap64)
attribute [local go_sem] Int.toNat_natCast rxE

theorem runGo_len : ∀ (f : Nat) (s : Script), (runGo f s).1.length ≤ s.ops.length
  | 0, s => Nat.le_refl _
  | f + 1, s => by
    cases hr : (redM s).head? with
    | none => rw [run_none hr]; exact Nat.le_refl _
    | some r =>
      rw [run_some hr]
      have hm := (mem_red.1 (red_head hr).1)
      exact Nat.le_trans (runGo_len f (nextS s r)) (rw_len (vops_of hm.1).wf hm.2)
end Go.Proofs.YtbpplplnkgmhlaaDoor

/- SimplifyStepByStep: the steps, one after the other. -/
set_option maxHeartbeats 2000000
set_option maxRecDepth 16000
namespace Go.Proofs.YtbpplplnkgmhlaaDoor
open Go Go.SL
open Go.RowKit (wrap64)
attribute [local go_sem] Int.toNat_natCast rxE List.getD_cons_zero

def tAt (s : Script) (l : List Rx) (i : Nat) : Script := (l.take i).foldl nextS s
theorem tAt_succ (s : Script) (l : List Rx) {i : Nat} (hi : i < l.length) : tAt s l (i + 1) = nextS (tAt s l i) (l.getD i default) := by
  have e : l.take (i + 1) = l.take i ++ [l.getD i default] := by
    rw [List.take_add_one, List.getElem?_eq_getElem hi, List.getD_eq_getElem?_getD, List.getElem?_eq_getElem hi]; rfl
  rw [tAt, e, List.foldl_append]; rfl
theorem steps_head : ∀ (f : Nat) (s : Script) (i : Nat), i < (runGo f s).2.length → (redM (tAt s (runGo f s).2 i)).head? = some ((runGo f s).2.getD i default)
  | 0, s, i, h => absurd h (Nat.not_lt_zero i)
  | f + 1, s, i, h => by
    cases hr : (redM s).head? with
    | none => rw [run_none hr] at h; exact absurd h (Nat.not_lt_zero i)
    | some r =>
      rw [run_some hr] at h ⊢
      cases i with
      | zero => exact hr
      | succ i => exact steps_head f (nextS s r) i (Nat.lt_of_succ_lt_succ h)
theorem steps_fin : ∀ (f : Nat) (s : Script), tAt s (runGo f s).2 (runGo f s).2.length = withOps s (runGo f s).1
  | 0, s => rfl
  | f + 1, s => by
    cases hr : (redM s).head? with
    | none => rw [run_none hr]; rfl
    | some r =>
      rw [run_some hr]
      show tAt (nextS s r) (runGo f (nextS s r)).2 (runGo f (nextS s r)).2.length = _
      rw [steps_fin f (nextS s r)]
      rfl
theorem steps_cnt : ∀ (f : Nat) (s : Script), (runGo f s).2.length ≤ sumW wtOp s.ops
  | 0, s => Nat.zero_le _
  | f + 1, s => by
    cases hr : (redM s).head? with
    | none => rw [run_none hr]; exact Nat.zero_le _
    | some r =>
      rw [run_some hr]
      have hm := (mem_red.1 (red_head hr).1)
      have hw := wt_less (vops_of hm.1).wf hm.2
      have := steps_cnt f (nextS s r)
      have e : (nextS s r).ops = rwM s r.1.toNat r.2.toNat := rfl
      rw [e] at this
      show _ + 1 ≤ _
      omega
theorem tAt_keep {s : Script} (hs : ScriptLen s) (H : Sml s) (ho : s.ops.length ≤ 1000000) (f : Nat) : ∀ i, i ≤ (runGo f s).2.length → ∃ l, tAt s (runGo f s).2 i = withOps s l ∧ l.length ≤ s.ops.length
  | 0, _ => ⟨s.ops, rfl, Nat.le_refl _⟩
  | i + 1, hi => by
    obtain ⟨l, e, hl⟩ := tAt_keep hs H ho f i (by omega)
    have hh := steps_head f s i (by omega)
    have hm := mem_red.1 (red_head hh).1
    have hle := rw_len (vops_of hm.1).wf hm.2
    rw [tAt_succ s _ (by omega)]
    rw [e] at hle ⊢
    exact ⟨_, rfl, Nat.le_trans hle hl⟩
theorem steps_law (c : Scene) (hc : SceneOk c) (l : List Int) (hl : l.length ≤ 4611686018427387904) :
    Pure Sg 3 [ag (sceneE c), .c (.p (ints l))] (fun x => x = .b (B true)) := by
  have hg := gscript_spec c hc
  have hi := gImages_le c
  have hgood := (gScript_good c).len
  have hb := bias_sp (gScript c) l (gScript_len c) hl (by omega) (by show (gImages c).length ≤ _; omega)
  have hs := len_bias c l
  have H := sml_bias c l
  have ho := bias_ops c l
  generalize hS : biasM (gScript c) l = s at *
  have hsi := Simplify_sp s hs H (by omega)
  have hst := Steps_sp s hs H (by omega)
  have hwb := wt_bnd s.ops
  have hlen : (runM s).1.length ≤ s.ops.length := runGo_len _ s
  have hcnt : (runM s).2.length ≤ sumW wtOp s.ops := steps_cnt _ s
  have hkeep : ∀ i, i ≤ (runM s).2.length → ∃ l, tAt s (runM s).2 i = withOps s l ∧ l.length ≤ s.ops.length := tAt_keep hs H (by omega) _
  have hhead : ∀ i, i < (runM s).2.length → (redM (tAt s (runM s).2 i)).head? = some ((runM s).2.getD i default) := steps_head _ s
  have hfin : tAt s (runM s).2 (runM s).2.length = withOps s (runM s).1 := steps_fin _ s
  generalize hP : (runM s).2 = d at hst hcnt hkeep hhead hfin
  generalize hQ : (runM s).1 = lo at hsi hlen hfin
  have haw := awake27_sp
  have hso := sameOps_spec lo lo (by omega) (by omega)
  refine pure_of Tryd.func3 rfl (rs := [.tmp 4]) rfl rfl mixed (by decide +kernel) (Nat.le_of_ble_eq_true rfl) (argsLt_mem (by simp (maxSteps := 1000000) (disch := omega) only [go_sem])) ?_
  repeat' (first | with_reducible exact tr_a | refine un_a ?_ | ((first | refine st_a (fun K hK => ?_) | refine rg_a ?_ | refine call_c (hg) ?_ | refine gcall_c (fun hg => hg) ?_ | refine call_c (hb) ?_ | refine gcall_c (fun hg => hb) ?_ | refine call_c (hst) ?_ | refine gcall_c (fun hg => hst) ?_); (repeat' (refine And.intro ?_ ?_)); (all_goals first | (refine hK _ ?_; clear hK K) | exact auto_cl | skip)) | ((first | apply cw_ite | apply cw_iteN); (case hf => rfl); (case hc => exact ev_a); (all_goals first | (intro hb; (try simp only [hbs] at hb)) | skip)) | exact atN_intro | (refine if_a (fun hb => ?_) (fun hb => ?_); (all_goals (try first | with_reducible exact True.intro | (exfalso; omega)))) | refine cw_blocks (fun KB hB => ?_) | (refine hB _ ?_; clear hB KB) | refine exit_by (S := Sg) (by assumption) ?_ | (refine ret_a ?_; (try clear hB KB); (try clear hK K)))
  refine cw_loop (X := Nat) (fun i => mkSt [(5, .b (.c (.ptr 1 0))), (6, .b (.c (.p (.lst 2 d.length (fnOf rxE d))))), (7, .b (.c (.ptr 2 0))), (8, .b (I i))] [(1, .fix ((scriptE s).map CV.p)), (2, .fix ((scriptE (tAt s d i)).map CV.p))] 3) (fun i => i ≤ d.length) (fun i => d.length - i) 0 ?_ ?_ ?_
  · exact Nat.zero_le _
  · refine le_a [(1, some 1), (2, some 2)] ?_ ?_
    repeat' (refine And.intro ?_ ?_)
    all_goals first | exact le_cl | skip
  · intro i hi2
    rcases Nat.lt_or_ge i d.length with hlt | hge
    · obtain ⟨l2, e, hl2⟩ := hkeep i hi2
      have hts : ScriptLen (tAt s d i) := by rw [e]; exact len_with hs (by omega)
      have htH : Sml (tAt s d i) := by rw [e]; exact sml_with H l2
      have hto : (tAt s d i).ops.length ≤ s.ops.length := by rw [e]; exact hl2
      have hh := hhead i hlt
      have hm := mem_red.1 (red_head hh).1
      have V := vops_of hm.1
      have hap := Apply_sp (tAt s d i) V hts htH (d.getD i default) hm.2 (by have := rw_len V.wf hm.2; omega)
      have hrx := Redexes_sp (tAt s d i) hts
      obtain ⟨rest, hr⟩ : ∃ rest, redM (tAt s d i) = d.getD i default :: rest := by
        cases hq : redM (tAt s d i) with
        | nil => rw [hq] at hh; cases hh
        | cons a t => rw [hq] at hh; exact ⟨t, by rw [Option.some.inj hh]⟩
      rw [hr] at hrx
      have hst2 := tAt_succ s d hlt
      have hrl : (((d.getD i default :: rest).length : Int) == 0) = false := beq_eq_false_iff_ne.2 (by rw [List.length_cons]; omega)
      repeat' (first | with_reducible exact tr_a | ((first | apply cw_ifT | apply cw_condT); (case hc => exact ev_a); (case ht => (simp only [Int.toNat_natCast, Int.reduceBEq, Int.reduceBNe, Int.reduceLT, Int.reduceLE, decide_true, decide_false, dcs, hrl, beq_self_eq_true]; done))) | ((first | apply cw_ifF | apply cw_condF); (case hc => exact ev_a); (case ht => (simp only [Int.toNat_natCast, Int.reduceBEq, Int.reduceBNe, Int.reduceLT, Int.reduceLE, decide_true, decide_false, dcs, hrl, beq_self_eq_true]; done))) | refine un_a ?_ | ((first | refine st_a (fun K hK => ?_) | refine rg_a ?_ | refine call_c (hrx) ?_ | refine gcall_c (fun hg => hrx) ?_ | refine call_c (hap) ?_ | refine gcall_c (fun hg => hap) ?_); (repeat' (refine And.intro ?_ ?_)); (all_goals first | (refine hK _ ?_; clear hK K) | exact auto_cl | skip)) | ((first | apply cw_ite | apply cw_iteN); (case hf => rfl); (case hc => exact ev_a); (all_goals first | (intro hb; (try simp only [hbs] at hb)) | skip)) | exact atN_intro | (refine if_a (fun hb => ?_) (fun hb => ?_); (all_goals (try first | with_reducible exact True.intro | (exfalso; omega)))) | refine cw_blocks (fun KB hB => ?_) | (refine hB _ ?_; clear hB KB) | refine exit_by (S := Sg) (by assumption) ?_ | (refine ret_a ?_; (try clear hB KB); (try clear hK K)))
      · rcases hb with hb | hb
        · omega
        · exact absurd (hb trivial trivial) (by decide)
      refine cw_stepR (id := 10) (.br 0 (.br 1 (.br 2 (.br 3 (.br 4 (.br 5 (.br 6 (.br 7 (.br 8 (.br 9 (.br 10 (.br 11 .leaf .nil) .nil) .nil) .nil) .nil) .nil) (.br 9 (.br 5 (.br 6 (.br 7 (.br 8 (.br 10 (.br 11 .leaf .nil) .nil) .nil) .nil) .nil) .nil) .nil)) .nil) .nil) .nil) .nil) .nil) (by decide +kernel) (by exact wf_a) (fun K0 hW => ?_)
      refine (fun (tl : ∀ st, Le st (mkSt [(5, .b (.c (.ptr 1 0))), (6, .b (.c (.p (.lst 2 d.length (fnOf rxE d))))), (7, .b (.c (.ptr 2 0))), (8, .b (I i)), (10, .b (.c (.ptr 3 0))), (11, .b (I 0))] [(1, .fix ((scriptE s).map CV.p)), (2, .fix ((scriptE (tAt s d i)).map CV.p)), (3, .fix ((scriptE (nextS (tAt s d i) (d.getD i default))).map CV.p))] 4) → K0 st) => ?_) (fun st hl => hW st _ hl ?_)
      · clear hW
        repeat' (first | exact tree_nil | (refine tree_br (fun K' hK' => ?_) ?_) | (refine tree_leaf (tl _ ?_); clear tl) | ((first | refine call_c (hap) ?_ | refine gcall_c (fun hg => hap) ?_); (try simp (maxSteps := 1000000) (disch := omega) only [go_sem]); (repeat' (refine And.intro ?_ ?_)); (all_goals first | (refine hK' _ ?_; clear hK' K') | trivial | omega | exact Nat.le_of_ble_eq_true rfl | exact auto_cl | skip)) | (simp (maxSteps := 1000000) (disch := omega) only [go_sem]; (repeat' (refine And.intro ?_ ?_)); (all_goals first | (refine hK' _ ?_; clear hK' K') | trivial | omega | exact Nat.le_of_ble_eq_true rfl | exact auto_cl | skip)))
        all_goals
          refine le_a [(1, some 1), (2, some 2), (3, some 3)] ?_ ?_
          repeat' (refine And.intro ?_ ?_)
          all_goals first | exact le_cl | skip
      clear hW
      repeat' (first | with_reducible exact tr_a | refine un_a ?_ | ((first | refine st_a (fun K hK => ?_) | refine rg_a ?_); (repeat' (refine And.intro ?_ ?_)); (all_goals first | (refine hK _ ?_; clear hK K) | exact auto_cl | skip)) | ((first | apply cw_ite | apply cw_iteN); (case hf => rfl); (case hc => exact ev_a); (all_goals first | (intro hb; (try simp only [hbs] at hb)) | skip)) | exact atN_intro | (refine if_a (fun hb => ?_) (fun hb => ?_); (all_goals (try first | with_reducible exact True.intro | (exfalso; omega)))) | refine cw_blocks (fun KB hB => ?_) | (refine hB _ ?_; clear hB KB) | refine exit_by (S := Sg) (by assumption) ?_ | (refine ret_a ?_; (try clear hB KB); (try clear hK K)))
      · first | exact absurd trivial hb | exact absurd hb (by decide)
      rw [thenQ_normal]
      refine wk_loop (i + 1) ?_ (by omega) (by omega)
      rw [hst2]
      refine le_a [(1, some 1), (2, some 2)] ?_ ?_
      repeat' (refine And.intro ?_ ?_)
      all_goals first | exact le_cl | skip
    · have hi3 : i = d.length := by omega
      subst hi3
      rw [hfin]
      repeat' (first | with_reducible exact tr_a | refine un_a ?_ | ((first | refine st_a (fun K hK => ?_) | refine rg_a ?_ | refine call_c (haw) ?_ | refine gcall_c (fun hg => haw) ?_ | refine call_c (hsi) ?_ | refine gcall_c (fun hg => hsi) ?_ | refine call_c (hso) ?_ | refine gcall_c (fun hg => hso) ?_); (repeat' (refine And.intro ?_ ?_)); (all_goals first | (refine hK _ ?_; clear hK K) | exact auto_cl | skip)) | ((first | apply cw_ite | apply cw_iteN); (case hf => rfl); (case hc => exact ev_a); (all_goals first | (intro hb; (try simp only [hbs] at hb)) | skip)) | exact atN_intro | (refine if_a (fun hb => ?_) (fun hb => ?_); (all_goals (try first | with_reducible exact True.intro | (exfalso; omega)))) | refine cw_blocks (fun KB hB => ?_) | (refine hB _ ?_; clear hB KB) | refine exit_by (S := Sg) (by assumption) ?_ | (refine ret_a ?_; (try clear hB KB); (try clear hK K)))
      exact vb (decide_eq_true (by omega))
end Go.Proofs.YtbpplplnkgmhlaaDoor
