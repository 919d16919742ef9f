/- Part of the proof: EB. -/
import Derived.Test.YtlblgkelhibdoaaGreatDoorM14
set_option linter.unusedSimpArgs false
set_option linter.unusedVariables false
set_option maxHeartbeats 2000000
set_option maxRecDepth 16000
namespace Go.Proofs.YtlblgkelhibdoaaGreatDoor
open Go Go.SL
open Go.RowKit (wrap64)
def zerosC : Bx := .fix [.p (PI 0), .p (PI 0), .p (PI 0), .p (PI 0), .p (PI 0), .p (PI 0), .p (PI 0), .p (.val (.slice none 0 0)), .p (.val (.slice none 0 0)), .p (.val (.slice none 0 0))]
attribute [local go_sem] Int.toNat_natCast zerosC
def bMost (b : Int) : Int := if b = 16 then 65535 else 255
def bMid (b : Int) : Int := IntKind.u16.wrap ((bMost b).tdiv 2)
def bW (s : Script) : Int := IntKind.i64.wrap (IntKind.i64.wrap (s.canvas.x1 - s.canvas.x0) + 2)
def bH (s : Script) : Int := IntKind.i64.wrap (IntKind.i64.wrap (s.canvas.y1 - s.canvas.y0) + 1)
def bCover (s : Script) : Image := solidOf (bW s) (bH s) ⟨bMid s.bits, 0, bMost s.bits, bMost s.bits, bMost s.bits⟩
def bDot (s : Script) : Image := solidOf 1 1 ⟨0, 0, 0, 0, bMost s.bits⟩
def bImgs (s : Script) : List Image := s.images ++ [bCover s, bDot s]
def bX (s : Script) (v : Int) : Int := IntKind.i64.wrap (s.canvas.x0 - gMod (IntKind.i64.wrap (v.tdiv 16)) 3)
def bOp (s : Script) (v : Int) (o : Op) : Op :=
 if o.kind = 3 then o
 else if gMod v 16 = 0 ∨ gMod v 16 = 1 then { o with mask := (bImgs s).length - 1, maskX := bX s v, maskY := s.canvas.y0 }
 else if gMod v 16 = 2 then { o with mask := (bImgs s).length, maskX := s.canvas.x0, maskY := s.canvas.y0 }
 else if gMod v 16 = 3 ∨ gMod v 16 = 4 then (if o.kind = 1 then { o with image := (bImgs s).length - 2, x := bX s v, y := s.canvas.y0, opacity := bMost s.bits, mask := 0, maskX := 0, maskY := 0, mode := 1 } else o)
 else if gMod v 16 = 5 ∨ gMod v 16 = 6 ∨ gMod v 16 = 7 then
  (if gMod (IntKind.i64.wrap (v.tdiv 16)) 2 = 0 then { o with opacity := bMost s.bits, mask := 0, maskX := 0, maskY := 0, mode := 1, operator := 4 } else { o with opacity := bMost s.bits, mask := 0, maskX := 0, maskY := 0 })
 else if gMod v 16 = 8 then { o with opacity := 0 }
 else o
def bAt (s : Script) (l : List Int) (i : Nat) : List Op := (List.range s.ops.length).map fun a => if a < i then bOp s (l.getD a 0) (opAt s.ops a) else opAt s.ops a
def biasM (s : Script) (l : List Int) : Script := { s with images := bImgs s, ops := bAt s l l.length }
theorem img_app {l : List Image} {c d : Image} {g : Nat → Nat → PV} (h0 : ∀ j, j < 28 → PV.le (g 0 j) ((imageE c).getD j .any)) (h1 : ∀ j, j < 28 → PV.le (g 1 j) ((imageE d).getD j .any)) : ∀ a, a < l.length + 2 → ∀ j, j < 28 → PV.le (appF l.length (fnOf imageE l) g a j) (fnOf imageE (l ++ [c, d]) a j) := fun a ha j hj => by
 unfold appF
 by_cases h : a < l.length
 ·rw [if_pos h]
  have e : fnOf imageE l a j = fnOf imageE (l ++ [c, d]) a j := congrArg (fun o => (imageE o).getD j .any) (show l.getD a default = (l ++ [c, d]).getD a default by rw [List.getD_eq_getElem?_getD, List.getD_eq_getElem?_getD, List.getElem?_append_left h])
  rw [e]; exact fun _ _ _ h => h
 ·rw [if_neg h]
  have hv : a = l.length ∨ a = l.length + 1 := by omega
  rcases hv with rfl | rfl
  ·have e : fnOf imageE (l ++ [c, d]) l.length j = (imageE c).getD j .any := congrArg (fun o => (imageE o).getD j .any) (show (l ++ [c, d]).getD l.length default = c by rw [List.getD_eq_getElem?_getD, List.getElem?_append_right (Nat.le_refl _), Nat.sub_self]; rfl)
   rw [e, Nat.sub_self]; exact h0 j hj
  ·have e : fnOf imageE (l ++ [c, d]) (l.length + 1) j = (imageE d).getD j .any := congrArg (fun o => (imageE o).getD j .any) (show (l ++ [c, d]).getD (l.length + 1) default = d by rw [List.getD_eq_getElem?_getD, List.getElem?_append_right (by omega), Nat.add_sub_cancel_left]; rfl)
   rw [e, Nat.add_sub_cancel_left]; exact h1 j hj
theorem bAt_len (s : Script) (l : List Int) (i : Nat) : (bAt s l i).length = s.ops.length := by rw [bAt, List.length_map, List.length_range]
theorem bAt_at (s : Script) (l : List Int) (i : Nat) {a : Nat} (h : a < s.ops.length) : (bAt s l i).getD a default = if a < i then bOp s (l.getD a 0) (opAt s.ops a) else opAt s.ops a := by
 rw [bAt, List.getD_eq_getElem?_getD, List.getElem?_map, List.getElem?_range h]; rfl
theorem fn_bAt (s : Script) (l : List Int) (i j : Nat) {a : Nat} (h : a < s.ops.length) : fnOf opE (bAt s l i) a j = (opE (if a < i then bOp s (l.getD a 0) (opAt s.ops a) else opAt s.ops a)).getD j .any := congrArg (fun o => (opE o).getD j .any) (bAt_at s l i h)
theorem bstep (s : Script) (l : List Int) (i j : Nat) {a : Nat} (h : a < s.ops.length) : fnOf opE (bAt s l (i + 1)) a j = if a = i then (opE (bOp s (l.getD i 0) (opAt s.ops i))).getD j .any else fnOf opE (bAt s l i) a j := by
 rw [fn_bAt s l (i + 1) j h, fn_bAt s l i j h]
 by_cases e : a = i
 ·rw [if_pos e, if_pos (by omega), e]
 ·rw [if_neg e]
  by_cases h2 : a < i
  ·rw [if_pos h2, if_pos (by omega)]
  ·rw [if_neg h2, if_neg (by omega)]
theorem bAt_end (s : Script) (l : List Int) {i : Nat} (h : i = s.ops.length ∨ i = l.length) (h2 : i ≤ l.length) : bAt s l i = bAt s l l.length := by
 rcases h with h | h
 ·refine List.map_congr_left fun a ha => ?_
  rw [List.mem_range] at ha
  rw [if_pos (by omega), if_pos (by omega)]
 ·rw [h]
def scrO8 (s : Script) : List (Option PV) := [some (PI s.bits), some (PI s.canvas.x0), some (PI s.canvas.y0), some (PI s.canvas.x1), some (PI s.canvas.y1), some (PI s.tileW), some (PI s.tileH), some (ints s.order), none, some (opL s.ops)]
attribute [local go_sem] scrO8
theorem bias_own (s : Script) (l : List Int) (hs : ScriptLen s) (hl : l.length ≤ 4611686018427387904) (ho : s.ops.length ≤ 4096) (hi : s.images.length ≤ 4096) :
  PureOwnK Sg 18 [ag (scriptE s), .c (.p (ints l))] (scrO8 (biasM s l)) 8 71 28 (biasM s l).images.length (fnOf imageE (biasM s l).images) := by
 have hsol := solid_spec (bW s) (bH s) ⟨bMid s.bits, 0, bMost s.bits, bMost s.bits, bMost s.bits⟩
 have hdot := solid_spec 1 1 ⟨0, 0, 0, 0, bMost s.bits⟩
 refine ownK_of Tryz.func18 rfl (rs := [.cell 4 36]) rfl rfl mixed (by decide +kernel) (Nat.le_of_ble_eq_true rfl) (argsLt_mem (by simp (maxSteps := 1000000) (disch := omega) only [go_sem])) ?_
 repeat' (first | ((with_reducible refine cw_stepV (id := 3) (fun K hW => ?_)); (try simp (maxSteps := 1000000) (disch := omega) only [go_sem]); and_intros; (all_goals first | (refine hK _ ?_; clear hK K) | exact auto_cl | skip)) | (refine st_a (fun K hK => ?_); and_intros; (all_goals first | (refine hK _ ?_; clear hK K) | exact auto_cl | skip)))
 refine hW _ (mkSt [(1, .b (.c (.p (ints l)))), (2, .b (.c (.ptr 0 0))), (4, .b (.c (.ptr 1 0))), (5, .b (U 255))] [(0, .fix [.p (PI s.bits), .p (PI s.canvas.x0), .p (PI s.canvas.y0), .p (PI s.canvas.x1), .p (PI s.canvas.y1), .p (PI s.tileW), .p (PI s.tileH), .p (ints s.order), .own 3 s.images.length, .own 2 s.ops.length]), (1, zerosC), (2, .arr 89 12 s.ops.length (fnOf opE s.ops)), (3, .arr 71 28 s.images.length (fnOf imageE s.images))] 4) ?_ ?_
 ·refine le_a [(1, some 1), (2, some 2), (3, some 3)] ?_ ?_
  and_intros
  all_goals first | exact le_cl | skip
 clear hW
 refine cw_assoc ?_
 refine cw_step fun K hK => ?_
 simp (maxSteps := 1000000) (disch := omega) only [go_sem]
 and_intros
 all_goals first | (refine hK _ ?_; clear hK K) | exact auto_cl | skip
 refine cw_ifM (t := (s.bits == 16)) (mkSt [(1, .b (.c (.p (ints l)))), (2, .b (.c (.ptr 0 0))), (4, .b (.c (.ptr 1 0))), (5, .b (U (bMost s.bits)))] [(0, .fix [.p (PI s.bits), .p (PI s.canvas.x0), .p (PI s.canvas.y0), .p (PI s.canvas.x1), .p (PI s.canvas.y1), .p (PI s.tileW), .p (PI s.tileH), .p (ints s.order), .own 3 s.images.length, .own 2 s.ops.length]), (1, zerosC), (2, .arr 89 12 s.ops.length (fnOf opE s.ops)), (3, .arr 71 28 s.images.length (fnOf imageE s.images))] 4) ?_ ?_ ?_ ?_
 ·simp (maxSteps := 1000000) (disch := omega) only [go_sem]
 ·intro hb
  rw [beq_iff_eq] at hb
  rw [show bMost s.bits = 65535 from if_pos hb]
  repeat' (refine st_a (fun K hK => ?_); and_intros; (all_goals first | (refine hK _ ?_; clear hK K) | exact auto_cl | skip))
  rw [thenQ_normal]
  refine ⟨_, ?_, rfl⟩
  refine le_a [(1, some 1), (2, some 2), (3, some 3)] ?_ ?_
  and_intros
  all_goals first | exact le_cl | skip
 ·intro hb
  rw [beq_eq_false_iff_ne] at hb
  rw [show bMost s.bits = 255 from if_neg hb]
  repeat' (refine un_a ?_)
  refine ⟨_, ?_, rfl⟩
  refine le_a [(1, some 1), (2, some 2), (3, some 3)] ?_ ?_
  and_intros
  all_goals first | exact le_cl | skip
 repeat' (first | ((with_reducible refine cw_stepV (id := 7) (fun K hW => ?_)); (try simp (maxSteps := 1000000) (disch := omega) only [go_sem]); and_intros; (all_goals first | (refine hK _ ?_; clear hK K) | exact auto_cl | skip)) | ((first | refine st_a (fun K hK => ?_) | refine call_c (hsol) ?_); and_intros; (all_goals first | (refine hK _ ?_; clear hK K) | exact auto_cl | skip)))
 refine hW _ (mkSt [(1, .b (.c (.p (ints l)))), (2, .b (.c (.ptr 0 0))), (4, .b (.c (.ptr 1 0))), (5, .b (U (bMost s.bits))), (8, .b (.c (.ptr 4 0)))] [(0, .fix [.p (PI s.bits), .p (PI s.canvas.x0), .p (PI s.canvas.y0), .p (PI s.canvas.x1), .p (PI s.canvas.y1), .p (PI s.tileW), .p (PI s.tileH), .p (ints s.order), .own 3 s.images.length, .own 2 s.ops.length]), (1, zerosC), (2, .arr 89 12 s.ops.length (fnOf opE s.ops)), (3, .arr 71 28 s.images.length (fnOf imageE s.images)), (4, .fix ((imageE (bCover s)).map CV.p))] 5) ?_ ?_
 ·refine le_a [(1, some 1), (2, some 2), (3, some 3), (4, some 4)] ?_ ?_
  and_intros
  all_goals first | exact le_cl | skip
 clear hW
 refine cw_stepR (id := 8) (.br 0 (.br 1 (.br 2 (.br 3 (.br 4 (.br 5 (.br 6 (.br 7 (.br 8 (.br 9 .leaf .nil) .nil) .nil) .nil) .nil) .nil) .nil) .nil) .nil) .nil) (by decide +kernel) (by (first | (refine And.intro (fun iw hiw => ?_) ?_; (focus ((try simp (maxSteps := 1000000) (disch := omega) only [go_sem] at hiw ⊢); (repeat (refine Eq.trans (if_neg ?_) ?_; (focus omega))); exact hw iw (by omega))); (focus (first | exact Nat.zero_le _ | (simp (maxSteps := 1000000) (disch := omega) only [go_sem]; done) | (simp (maxSteps := 1000000) (disch := omega) only [go_sem]; omega)))) | exact wf_a)) (fun K0 hW => ?_)
 refine (fun (tl : ∀ st, Le st (mkSt [(1, .b (.c (.p (ints l)))), (2, .b (.c (.ptr 0 0))), (4, .b (.c (.ptr 1 0))), (5, .b (U (bMost s.bits)))] [(0, .fix [.p (PI s.bits), .p (PI s.canvas.x0), .p (PI s.canvas.y0), .p (PI s.canvas.x1), .p (PI s.canvas.y1), .p (PI s.tileW), .p (PI s.tileH), .p (ints s.order), .own 3 (s.images.length + 2), .own 2 s.ops.length]), (1, zerosC), (2, .arr 89 12 s.ops.length (fnOf opE s.ops)), (3, .arr 71 28 (s.images.length + 2) (fnOf imageE (bImgs s)))] 4) → K0 st) => ?_) (fun st hl => hW st _ hl ?_)
 ·clear hW
  repeat' (first | exact tree_nil | (refine tree_br (fun K' hK' => ?_) ?_) | (refine tree_leaf (tl _ ?_); clear tl) | (refine call_c (hdot) ?_; (try simp (maxSteps := 1000000) (disch := omega) only [go_sem]); and_intros; (all_goals first | (refine hK' _ ?_; clear hK' K') | trivial | omega | exact Nat.le_of_ble_eq_true rfl | exact auto_cl | skip)) | (simp (maxSteps := 1000000) (disch := omega) only [go_sem]; and_intros; (all_goals first | (refine hK' _ ?_; clear hK' K') | trivial | omega | exact Nat.le_of_ble_eq_true rfl | exact auto_cl | skip)))
  all_goals
   refine le_a [(1, some 1), (2, some 2), (3, some 6)] ?_ ?_
   and_intros
   all_goals first | exact le_cl | skip
  all_goals
   refine .inr (img_app (fun j hj => ?_) (fun j hj => ?_))
   ·skip
    have hivl : j = 0 ∨ j = 1 ∨ j = 2 ∨ j = 3 ∨ j = 4 ∨ j = 5 ∨ j = 6 ∨ j = 7 ∨ j = 8 ∨ j = 9 ∨ j = 10 ∨ j = 11 ∨ j = 12 ∨ j = 13 ∨ j = 14 ∨ j = 15 ∨ j = 16 ∨ j = 17 ∨ j = 18 ∨ j = 19 ∨ j = 20 ∨ j = 21 ∨ j = 22 ∨ j = 23 ∨ j = 24 ∨ j = 25 ∨ j = 26 ∨ j = 27 := by omega
    rcases hivl with rfl | rfl | rfl | rfl | rfl | rfl | rfl | rfl | rfl | rfl | rfl | rfl | rfl | rfl | rfl | rfl | rfl | rfl | rfl | rfl | rfl | rfl | rfl | rfl | rfl | rfl | rfl | rfl <;> (first | exact fun _ _ _ h => h | exact nil_le)
   ·skip
    have hivl : j = 0 ∨ j = 1 ∨ j = 2 ∨ j = 3 ∨ j = 4 ∨ j = 5 ∨ j = 6 ∨ j = 7 ∨ j = 8 ∨ j = 9 ∨ j = 10 ∨ j = 11 ∨ j = 12 ∨ j = 13 ∨ j = 14 ∨ j = 15 ∨ j = 16 ∨ j = 17 ∨ j = 18 ∨ j = 19 ∨ j = 20 ∨ j = 21 ∨ j = 22 ∨ j = 23 ∨ j = 24 ∨ j = 25 ∨ j = 26 ∨ j = 27 := by omega
    rcases hivl with rfl | rfl | rfl | rfl | rfl | rfl | rfl | rfl | rfl | rfl | rfl | rfl | rfl | rfl | rfl | rfl | rfl | rfl | rfl | rfl | rfl | rfl | rfl | rfl | rfl | rfl | rfl | rfl <;> (first | exact fun _ _ _ h => h | exact nil_le)
 clear hW
 repeat' (first | refine un_a ?_ | (refine st_a (fun K hK => ?_); and_intros; (all_goals first | (refine hK _ ?_; clear hK K) | exact auto_cl | skip)))
 refine cw_loop (X := Nat) (fun i => mkSt [(1, .b (.c (.p (ints l)))), (2, .b (.c (.ptr 0 0))), (4, .b (.c (.ptr 1 0))), (5, .b (U (bMost s.bits))), (9, .b (I (s.images.length + 2))), (10, .b (I i))] [(0, .fix [.p (PI s.bits), .p (PI s.canvas.x0), .p (PI s.canvas.y0), .p (PI s.canvas.x1), .p (PI s.canvas.y1), .p (PI s.tileW), .p (PI s.tileH), .p (ints s.order), .own 3 (s.images.length + 2), .own 2 s.ops.length]), (1, zerosC), (2, .arr 89 12 s.ops.length (fnOf opE (bAt s l i))), (3, .arr 71 28 (s.images.length + 2) (fnOf imageE (bImgs s)))] 4)
  (fun i => i ≤ s.ops.length ∧ i ≤ l.length) (fun i => s.ops.length - i) 0 ?_ ?_ ?_
 ·exact ⟨Nat.zero_le _, Nat.zero_le _⟩
 ·refine le_a [(1, some 1), (2, some 2), (3, some 3)] ?_ ?_
  and_intros
  all_goals first | exact le_cl | skip
  refine .inr fun a ha j hj => ?_
  show PV.le (fnOf opE s.ops a j) (fnOf opE (bAt s l 0) a j)
  rw [fn_bAt s l 0 j ha, if_neg (Nat.not_lt_zero a)]
  exact fun _ _ _ h => h
 ·rintro i ⟨hi1, hi2⟩
  have hend : ∀ i, (i = s.ops.length ∨ i = l.length) → i ≤ l.length → bAt s l i = bAt s l l.length := fun i h h2 => bAt_end s l h h2
  rcases Nat.lt_or_ge i s.ops.length with hlt | hge
  ·rcases Nat.lt_or_ge i l.length with hll | hgl
   ·have hoi : (bAt s l i).getD i default = opAt s.ops i := by rw [bAt_at s l i hlt, if_neg (Nat.lt_irrefl i)]
    have hbl : (bImgs s).length = s.images.length + 2 := by rw [bImgs, List.length_append]; rfl
    by_cases hk3 : (opAt s.ops i).kind = 3
    ·have hq : (((bAt s l i).getD i default).kind == 3) = true := by rw [hoi]; exact beq_iff_eq.2 hk3
     have hop : bOp s (l.getD i 0) (opAt s.ops i) = opAt s.ops i := if_pos hk3
     repeat' (first | refine dec_a hq ?_ | refine un_a ?_ | (refine st_a (fun K hK => ?_); and_intros; (all_goals first | (refine hK _ ?_; clear hK K) | exact auto_cl | skip)) | (refine if_a (fun hb => ?_) (fun hb => ?_); all_goals try exact bad_a))
     rw [thenQ_normal]
     refine wk_loop (i + 1) ?_ ⟨by omega, by omega⟩ (by omega)
     refine le_a [(1, some 1), (2, some 2), (3, some 3)] ?_ ?_
     and_intros
     all_goals first | exact le_cl | skip
     refine .inr fun a ha j hj => ?_
     show PV.le _ (fnOf opE (bAt s l (i + 1)) a j)
     rw [bstep s l i j ha]
     by_cases e : a = i
     ·rw [if_pos e, hop]
      simp only [e, hoi]
      have hivl : j = 0 ∨ j = 1 ∨ j = 2 ∨ j = 3 ∨ j = 4 ∨ j = 5 ∨ j = 6 ∨ j = 7 ∨ j = 8 ∨ j = 9 ∨ j = 10 ∨ j = 11 := by omega
      rcases hivl with rfl | rfl | rfl | rfl | rfl | rfl | rfl | rfl | rfl | rfl | rfl | rfl <;> exact fun _ _ _ h => h
     ·rw [if_neg e]; exact fun _ _ _ h => h
    have hq : (((bAt s l i).getD i default).kind == 3) = false := by rw [hoi]; exact beq_eq_false_iff_ne.2 hk3
    have hbi : ((bImgs s).length : Int) = (s.images.length : Int) + 2 := by rw [hbl]; rfl
    have hv : gMod (l.getD i 0) 16 = 0 ∨ gMod (l.getD i 0) 16 = 1 ∨ gMod (l.getD i 0) 16 = 2 ∨ gMod (l.getD i 0) 16 = 3 ∨ gMod (l.getD i 0) 16 = 4 ∨ gMod (l.getD i 0) 16 = 5 ∨ gMod (l.getD i 0) 16 = 6 ∨ gMod (l.getD i 0) 16 = 7 ∨ gMod (l.getD i 0) 16 = 8 ∨
      (gMod (l.getD i 0) 16 ≠ 0 ∧ gMod (l.getD i 0) 16 ≠ 1 ∧ gMod (l.getD i 0) 16 ≠ 2 ∧ gMod (l.getD i 0) 16 ≠ 3 ∧ gMod (l.getD i 0) 16 ≠ 4 ∧ gMod (l.getD i 0) 16 ≠ 5 ∧ gMod (l.getD i 0) 16 ≠ 6 ∧ gMod (l.getD i 0) 16 ≠ 7 ∧ gMod (l.getD i 0) 16 ≠ 8) := by omega
    rcases hv with hm | hm | hm | hm | hm | hm | hm | hm | hm | ⟨n0, n1, n2, n3, n4, n5, n6, n7, n8⟩
    ·have hop := show bOp s (l.getD i 0) (opAt s.ops i) = _ from (if_neg hk3).trans (if_pos (by omega))
     rw [hbi] at hop
     repeat' (first | refine dec_a (And.intro hq hm) ?_ | (((with_reducible refine cw_lastDK (id := 18) [(93, 4), (97, 3), (103, 4), (105, 8), (106, 8), (107, 8)] (by decide +kernel) (by decide +kernel) ?_ (fun K hK => ?_)); (first | (refine And.intro (fun iw hiw => ?_) ?_; (focus ((try simp (maxSteps := 1000000) (disch := omega) only [go_sem] at hiw ⊢); (repeat (refine Eq.trans (if_neg ?_) ?_; (focus omega))); exact hw iw (by omega))); (focus (first | exact Nat.zero_le _ | (simp (maxSteps := 1000000) (disch := omega) only [go_sem]; done) | (simp (maxSteps := 1000000) (disch := omega) only [go_sem]; omega)))) | exact wf_a)); (try simp (maxSteps := 1000000) (disch := omega) only [go_sem]); and_intros; (all_goals first | (refine hK _ (by simp (maxSteps := 1000000) (disch := omega) only [go_sem]) ?_; clear hK K) | exact auto_cl | skip)) | refine un_a ?_ | ((first | refine st_a (fun K hK => ?_) | refine call_c (mod_spec (l.getD i 0) 16 (by omega)) ?_ | refine call_c (mod_spec (IntKind.i64.wrap ((l.getD i 0).tdiv 16)) 3 (by omega)) ?_); and_intros; (all_goals first | (refine hK _ ?_; clear hK K) | exact auto_cl | skip)) | (refine if_a (fun hb => ?_) (fun hb => ?_); all_goals try exact bad_a))
     refine hK _ (by simp (maxSteps := 1000000) (disch := omega) only [go_sem]) ?_
     clear hK
     repeat' (first | refine un_a ?_ | (refine st_a (fun K hK => ?_); and_intros; (all_goals first | (refine hK _ ?_; clear hK K) | exact auto_cl | skip)))
     rw [thenQ_normal]
     refine wk_loop (i + 1) ?_ ⟨by omega, by omega⟩ (by omega)
     refine le_a [(1, some 1), (2, some 2), (3, some 3)] ?_ ?_
     and_intros
     all_goals first | exact le_cl | skip
     refine .inr fun a ha j hj => ?_
     show PV.le _ (fnOf opE (bAt s l (i + 1)) a j)
     rw [bstep s l i j ha]
     by_cases e : a = i
     ·rw [if_pos e, if_pos e, hop]
      simp only [hoi]
      have hivl : j = 0 ∨ j = 1 ∨ j = 2 ∨ j = 3 ∨ j = 4 ∨ j = 5 ∨ j = 6 ∨ j = 7 ∨ j = 8 ∨ j = 9 ∨ j = 10 ∨ j = 11 := by omega
      rcases hivl with rfl | rfl | rfl | rfl | rfl | rfl | rfl | rfl | rfl | rfl | rfl | rfl <;> exact fun _ _ _ h => h
     ·rw [if_neg e, if_neg e]; exact fun _ _ _ h => h
    ·have hop := show bOp s (l.getD i 0) (opAt s.ops i) = _ from (if_neg hk3).trans (if_pos (by omega))
     rw [hbi] at hop
     repeat' (first | refine dec_a (And.intro hq hm) ?_ | (((with_reducible refine cw_lastDK (id := 18) [(93, 4), (97, 3), (103, 4), (105, 8), (106, 8), (107, 8)] (by decide +kernel) (by decide +kernel) ?_ (fun K hK => ?_)); (first | (refine And.intro (fun iw hiw => ?_) ?_; (focus ((try simp (maxSteps := 1000000) (disch := omega) only [go_sem] at hiw ⊢); (repeat (refine Eq.trans (if_neg ?_) ?_; (focus omega))); exact hw iw (by omega))); (focus (first | exact Nat.zero_le _ | (simp (maxSteps := 1000000) (disch := omega) only [go_sem]; done) | (simp (maxSteps := 1000000) (disch := omega) only [go_sem]; omega)))) | exact wf_a)); (try simp (maxSteps := 1000000) (disch := omega) only [go_sem]); and_intros; (all_goals first | (refine hK _ (by simp (maxSteps := 1000000) (disch := omega) only [go_sem]) ?_; clear hK K) | exact auto_cl | skip)) | refine un_a ?_ | ((first | refine st_a (fun K hK => ?_) | refine call_c (mod_spec (l.getD i 0) 16 (by omega)) ?_ | refine call_c (mod_spec (IntKind.i64.wrap ((l.getD i 0).tdiv 16)) 3 (by omega)) ?_); and_intros; (all_goals first | (refine hK _ ?_; clear hK K) | exact auto_cl | skip)) | (refine if_a (fun hb => ?_) (fun hb => ?_); all_goals try exact bad_a))
     refine hK _ (by simp (maxSteps := 1000000) (disch := omega) only [go_sem]) ?_
     clear hK
     repeat' (first | refine un_a ?_ | (refine st_a (fun K hK => ?_); and_intros; (all_goals first | (refine hK _ ?_; clear hK K) | exact auto_cl | skip)))
     rw [thenQ_normal]
     refine wk_loop (i + 1) ?_ ⟨by omega, by omega⟩ (by omega)
     refine le_a [(1, some 1), (2, some 2), (3, some 3)] ?_ ?_
     and_intros
     all_goals first | exact le_cl | skip
     refine .inr fun a ha j hj => ?_
     show PV.le _ (fnOf opE (bAt s l (i + 1)) a j)
     rw [bstep s l i j ha]
     by_cases e : a = i
     ·rw [if_pos e, if_pos e, hop]
      simp only [hoi]
      have hivl : j = 0 ∨ j = 1 ∨ j = 2 ∨ j = 3 ∨ j = 4 ∨ j = 5 ∨ j = 6 ∨ j = 7 ∨ j = 8 ∨ j = 9 ∨ j = 10 ∨ j = 11 := by omega
      rcases hivl with rfl | rfl | rfl | rfl | rfl | rfl | rfl | rfl | rfl | rfl | rfl | rfl <;> exact fun _ _ _ h => h
     ·rw [if_neg e, if_neg e]; exact fun _ _ _ h => h
    ·have hop := show bOp s (l.getD i 0) (opAt s.ops i) = _ from (if_neg hk3).trans ((if_neg (by omega)).trans (if_pos hm))
     rw [hbi] at hop
     repeat' (first | refine dec_a (And.intro hq hm) ?_ | (((with_reducible refine cw_lastDK (id := 20) [(112, 4), (115, 4), (117, 8), (118, 8), (119, 8)] (by decide +kernel) (by decide +kernel) ?_ (fun K hK => ?_)); (first | (refine And.intro (fun iw hiw => ?_) ?_; (focus ((try simp (maxSteps := 1000000) (disch := omega) only [go_sem] at hiw ⊢); (repeat (refine Eq.trans (if_neg ?_) ?_; (focus omega))); exact hw iw (by omega))); (focus (first | exact Nat.zero_le _ | (simp (maxSteps := 1000000) (disch := omega) only [go_sem]; done) | (simp (maxSteps := 1000000) (disch := omega) only [go_sem]; omega)))) | exact wf_a)); (try simp (maxSteps := 1000000) (disch := omega) only [go_sem]); and_intros; (all_goals first | (refine hK _ (by simp (maxSteps := 1000000) (disch := omega) only [go_sem]) ?_; clear hK K) | exact auto_cl | skip)) | refine un_a ?_ | ((first | refine st_a (fun K hK => ?_) | refine call_c (mod_spec (l.getD i 0) 16 (by omega)) ?_); and_intros; (all_goals first | (refine hK _ ?_; clear hK K) | exact auto_cl | skip)) | (refine if_a (fun hb => ?_) (fun hb => ?_); all_goals try exact bad_a))
     rw [thenQ_normal]
     refine wk_loop (i + 1) ?_ ⟨by omega, by omega⟩ (by omega)
     refine le_a [(1, some 1), (2, some 2), (3, some 3)] ?_ ?_
     and_intros
     all_goals first | exact le_cl | skip
     refine .inr fun a ha j hj => ?_
     show PV.le _ (fnOf opE (bAt s l (i + 1)) a j)
     rw [bstep s l i j ha]
     by_cases e : a = i
     ·rw [if_pos e, if_pos e, hop]
      simp only [hoi]
      have hivl : j = 0 ∨ j = 1 ∨ j = 2 ∨ j = 3 ∨ j = 4 ∨ j = 5 ∨ j = 6 ∨ j = 7 ∨ j = 8 ∨ j = 9 ∨ j = 10 ∨ j = 11 := by omega
      rcases hivl with rfl | rfl | rfl | rfl | rfl | rfl | rfl | rfl | rfl | rfl | rfl | rfl <;> exact fun _ _ _ h => h
     ·rw [if_neg e, if_neg e]; exact fun _ _ _ h => h
    ·by_cases hk1 : (opAt s.ops i).kind = 1
     ·have hop := show bOp s (l.getD i 0) (opAt s.ops i) = _ from (if_neg hk3).trans ((if_neg (by omega)).trans ((if_neg (by omega)).trans ((if_pos (by omega)).trans (if_pos hk1))))
      rw [hbi] at hop
      have hq1 : (((bAt s l i).getD i default).kind == 1) = true := by rw [hoi]; exact beq_iff_eq.2 hk1
      repeat' (first | refine dec_a (And.intro hq (And.intro hm hq1)) ?_ | (((with_reducible refine cw_stepDK (id := 24) [(129, 4), (133, 3), (139, 4), (141, 8), (142, 8), (143, 8)] (by decide +kernel) (by decide +kernel) ?_ (fun K hK => ?_)); (first | (refine And.intro (fun iw hiw => ?_) ?_; (focus ((try simp (maxSteps := 1000000) (disch := omega) only [go_sem] at hiw ⊢); (repeat (refine Eq.trans (if_neg ?_) ?_; (focus omega))); exact hw iw (by omega))); (focus (first | exact Nat.zero_le _ | (simp (maxSteps := 1000000) (disch := omega) only [go_sem]; done) | (simp (maxSteps := 1000000) (disch := omega) only [go_sem]; omega)))) | exact wf_a)); (try simp (maxSteps := 1000000) (disch := omega) only [go_sem]); and_intros; (all_goals first | (refine hK _ (by simp (maxSteps := 1000000) (disch := omega) only [go_sem]) ?_; clear hK K) | exact auto_cl | skip)) | refine un_a ?_ | ((first | refine st_a (fun K hK => ?_) | refine call_c (mod_spec (l.getD i 0) 16 (by omega)) ?_ | refine call_c (mod_spec (IntKind.i64.wrap ((l.getD i 0).tdiv 16)) 3 (by omega)) ?_); and_intros; (all_goals first | (refine hK _ ?_; clear hK K) | exact auto_cl | skip)) | (refine if_a (fun hb => ?_) (fun hb => ?_); all_goals try exact bad_a))
      refine hK _ (by simp (maxSteps := 1000000) (disch := omega) only [go_sem]) ?_
      clear hK
      repeat' (first | refine un_a ?_ | (refine st_a (fun K hK => ?_); and_intros; (all_goals first | (refine hK _ ?_; clear hK K) | exact auto_cl | skip)))
      rw [thenQ_normal]
      refine wk_loop (i + 1) ?_ ⟨by omega, by omega⟩ (by omega)
      refine le_a [(1, some 1), (2, some 2), (3, some 3)] ?_ ?_
      and_intros
      all_goals first | exact le_cl | skip
      refine .inr fun a ha j hj => ?_
      show PV.le _ (fnOf opE (bAt s l (i + 1)) a j)
      rw [bstep s l i j ha]
      by_cases e : a = i
      ·rw [if_pos e, if_pos e, hop]
       simp only [hoi]
       have hivl : j = 0 ∨ j = 1 ∨ j = 2 ∨ j = 3 ∨ j = 4 ∨ j = 5 ∨ j = 6 ∨ j = 7 ∨ j = 8 ∨ j = 9 ∨ j = 10 ∨ j = 11 := by omega
       rcases hivl with rfl | rfl | rfl | rfl | rfl | rfl | rfl | rfl | rfl | rfl | rfl | rfl <;> exact fun _ _ _ h => h
      ·rw [if_neg e, if_neg e]; exact fun _ _ _ h => h
     ·have hop := show bOp s (l.getD i 0) (opAt s.ops i) = _ from (if_neg hk3).trans ((if_neg (by omega)).trans ((if_neg (by omega)).trans ((if_pos (by omega)).trans (if_neg hk1))))
      have hq1 : (((bAt s l i).getD i default).kind == 1) = false := by rw [hoi]; exact beq_eq_false_iff_ne.2 hk1
      repeat' (first | refine dec_a (And.intro hq (And.intro hm hq1)) ?_ | refine un_a ?_ | ((first | refine st_a (fun K hK => ?_) | refine call_c (mod_spec (l.getD i 0) 16 (by omega)) ?_); and_intros; (all_goals first | (refine hK _ ?_; clear hK K) | exact auto_cl | skip)) | (refine if_a (fun hb => ?_) (fun hb => ?_); all_goals try exact bad_a))
      rw [thenQ_normal]
      refine wk_loop (i + 1) ?_ ⟨by omega, by omega⟩ (by omega)
      refine le_a [(1, some 1), (2, some 2), (3, some 3)] ?_ ?_
      and_intros
      all_goals first | exact le_cl | skip
      refine .inr fun a ha j hj => ?_
      show PV.le _ (fnOf opE (bAt s l (i + 1)) a j)
      rw [bstep s l i j ha]
      by_cases e : a = i
      ·rw [if_pos e, if_pos e, hop]
       simp only [hoi]
       have hivl : j = 0 ∨ j = 1 ∨ j = 2 ∨ j = 3 ∨ j = 4 ∨ j = 5 ∨ j = 6 ∨ j = 7 ∨ j = 8 ∨ j = 9 ∨ j = 10 ∨ j = 11 := by omega
       rcases hivl with rfl | rfl | rfl | rfl | rfl | rfl | rfl | rfl | rfl | rfl | rfl | rfl <;> exact fun _ _ _ h => h
      ·rw [if_neg e, if_neg e]; exact fun _ _ _ h => h
    ·by_cases hk1 : (opAt s.ops i).kind = 1
     ·have hop := show bOp s (l.getD i 0) (opAt s.ops i) = _ from (if_neg hk3).trans ((if_neg (by omega)).trans ((if_neg (by omega)).trans ((if_pos (by omega)).trans (if_pos hk1))))
      rw [hbi] at hop
      have hq1 : (((bAt s l i).getD i default).kind == 1) = true := by rw [hoi]; exact beq_iff_eq.2 hk1
      repeat' (first | refine dec_a (And.intro hq (And.intro hm hq1)) ?_ | (((with_reducible refine cw_stepDK (id := 24) [(129, 4), (133, 3), (139, 4), (141, 8), (142, 8), (143, 8)] (by decide +kernel) (by decide +kernel) ?_ (fun K hK => ?_)); (first | (refine And.intro (fun iw hiw => ?_) ?_; (focus ((try simp (maxSteps := 1000000) (disch := omega) only [go_sem] at hiw ⊢); (repeat (refine Eq.trans (if_neg ?_) ?_; (focus omega))); exact hw iw (by omega))); (focus (first | exact Nat.zero_le _ | (simp (maxSteps := 1000000) (disch := omega) only [go_sem]; done) | (simp (maxSteps := 1000000) (disch := omega) only [go_sem]; omega)))) | exact wf_a)); (try simp (maxSteps := 1000000) (disch := omega) only [go_sem]); and_intros; (all_goals first | (refine hK _ (by simp (maxSteps := 1000000) (disch := omega) only [go_sem]) ?_; clear hK K) | exact auto_cl | skip)) | refine un_a ?_ | ((first | refine st_a (fun K hK => ?_) | refine call_c (mod_spec (l.getD i 0) 16 (by omega)) ?_ | refine call_c (mod_spec (IntKind.i64.wrap ((l.getD i 0).tdiv 16)) 3 (by omega)) ?_); and_intros; (all_goals first | (refine hK _ ?_; clear hK K) | exact auto_cl | skip)) | (refine if_a (fun hb => ?_) (fun hb => ?_); all_goals try exact bad_a))
      refine hK _ (by simp (maxSteps := 1000000) (disch := omega) only [go_sem]) ?_
      clear hK
      repeat' (first | refine un_a ?_ | (refine st_a (fun K hK => ?_); and_intros; (all_goals first | (refine hK _ ?_; clear hK K) | exact auto_cl | skip)))
      rw [thenQ_normal]
      refine wk_loop (i + 1) ?_ ⟨by omega, by omega⟩ (by omega)
      refine le_a [(1, some 1), (2, some 2), (3, some 3)] ?_ ?_
      and_intros
      all_goals first | exact le_cl | skip
      refine .inr fun a ha j hj => ?_
      show PV.le _ (fnOf opE (bAt s l (i + 1)) a j)
      rw [bstep s l i j ha]
      by_cases e : a = i
      ·rw [if_pos e, if_pos e, hop]
       simp only [hoi]
       have hivl : j = 0 ∨ j = 1 ∨ j = 2 ∨ j = 3 ∨ j = 4 ∨ j = 5 ∨ j = 6 ∨ j = 7 ∨ j = 8 ∨ j = 9 ∨ j = 10 ∨ j = 11 := by omega
       rcases hivl with rfl | rfl | rfl | rfl | rfl | rfl | rfl | rfl | rfl | rfl | rfl | rfl <;> exact fun _ _ _ h => h
      ·rw [if_neg e, if_neg e]; exact fun _ _ _ h => h
     ·have hop := show bOp s (l.getD i 0) (opAt s.ops i) = _ from (if_neg hk3).trans ((if_neg (by omega)).trans ((if_neg (by omega)).trans ((if_pos (by omega)).trans (if_neg hk1))))
      have hq1 : (((bAt s l i).getD i default).kind == 1) = false := by rw [hoi]; exact beq_eq_false_iff_ne.2 hk1
      repeat' (first | refine dec_a (And.intro hq (And.intro hm hq1)) ?_ | refine un_a ?_ | ((first | refine st_a (fun K hK => ?_) | refine call_c (mod_spec (l.getD i 0) 16 (by omega)) ?_); and_intros; (all_goals first | (refine hK _ ?_; clear hK K) | exact auto_cl | skip)) | (refine if_a (fun hb => ?_) (fun hb => ?_); all_goals try exact bad_a))
      rw [thenQ_normal]
      refine wk_loop (i + 1) ?_ ⟨by omega, by omega⟩ (by omega)
      refine le_a [(1, some 1), (2, some 2), (3, some 3)] ?_ ?_
      and_intros
      all_goals first | exact le_cl | skip
      refine .inr fun a ha j hj => ?_
      show PV.le _ (fnOf opE (bAt s l (i + 1)) a j)
      rw [bstep s l i j ha]
      by_cases e : a = i
      ·rw [if_pos e, if_pos e, hop]
       simp only [hoi]
       have hivl : j = 0 ∨ j = 1 ∨ j = 2 ∨ j = 3 ∨ j = 4 ∨ j = 5 ∨ j = 6 ∨ j = 7 ∨ j = 8 ∨ j = 9 ∨ j = 10 ∨ j = 11 := by omega
       rcases hivl with rfl | rfl | rfl | rfl | rfl | rfl | rfl | rfl | rfl | rfl | rfl | rfl <;> exact fun _ _ _ h => h
      ·rw [if_neg e, if_neg e]; exact fun _ _ _ h => h
    ·by_cases hz : gMod (IntKind.i64.wrap ((l.getD i 0).tdiv 16)) 2 = 0
     ·have hop := show bOp s (l.getD i 0) (opAt s.ops i) = _ from (if_neg hk3).trans ((if_neg (by omega)).trans ((if_neg (by omega)).trans ((if_neg (by omega)).trans ((if_pos (by omega)).trans (if_pos hz)))))
      have hq1 : (gMod (IntKind.i64.wrap ((l.getD i 0).tdiv 16)) 2 == 0) = true := beq_iff_eq.2 hz
      repeat' (first | refine dec_a (And.intro hq (And.intro hm hq1)) ?_ | refine un_a ?_ | ((first | refine st_a (fun K hK => ?_) | refine call_c (mod_spec (l.getD i 0) 16 (by omega)) ?_ | refine call_c (mod_spec (IntKind.i64.wrap ((l.getD i 0).tdiv 16)) 2 (by omega)) ?_); and_intros; (all_goals first | (refine hK _ ?_; clear hK K) | exact auto_cl | skip)) | (refine if_a (fun hb => ?_) (fun hb => ?_); all_goals try exact bad_a))
      rw [thenQ_normal]
      refine wk_loop (i + 1) ?_ ⟨by omega, by omega⟩ (by omega)
      refine le_a [(1, some 1), (2, some 2), (3, some 3)] ?_ ?_
      and_intros
      all_goals first | exact le_cl | skip
      refine .inr fun a ha j hj => ?_
      show PV.le _ (fnOf opE (bAt s l (i + 1)) a j)
      rw [bstep s l i j ha]
      by_cases e : a = i
      ·rw [if_pos e, if_pos e, hop]
       simp only [hoi]
       have hivl : j = 0 ∨ j = 1 ∨ j = 2 ∨ j = 3 ∨ j = 4 ∨ j = 5 ∨ j = 6 ∨ j = 7 ∨ j = 8 ∨ j = 9 ∨ j = 10 ∨ j = 11 := by omega
       rcases hivl with rfl | rfl | rfl | rfl | rfl | rfl | rfl | rfl | rfl | rfl | rfl | rfl <;> exact fun _ _ _ h => h
      ·rw [if_neg e, if_neg e]; exact fun _ _ _ h => h
     ·have hop := show bOp s (l.getD i 0) (opAt s.ops i) = _ from (if_neg hk3).trans ((if_neg (by omega)).trans ((if_neg (by omega)).trans ((if_neg (by omega)).trans ((if_pos (by omega)).trans (if_neg hz)))))
      have hq1 : (gMod (IntKind.i64.wrap ((l.getD i 0).tdiv 16)) 2 == 0) = false := beq_eq_false_iff_ne.2 hz
      repeat' (first | refine dec_a (And.intro hq (And.intro hm hq1)) ?_ | refine un_a ?_ | ((first | refine st_a (fun K hK => ?_) | refine call_c (mod_spec (l.getD i 0) 16 (by omega)) ?_ | refine call_c (mod_spec (IntKind.i64.wrap ((l.getD i 0).tdiv 16)) 2 (by omega)) ?_); and_intros; (all_goals first | (refine hK _ ?_; clear hK K) | exact auto_cl | skip)) | (refine if_a (fun hb => ?_) (fun hb => ?_); all_goals try exact bad_a))
      rw [thenQ_normal]
      refine wk_loop (i + 1) ?_ ⟨by omega, by omega⟩ (by omega)
      refine le_a [(1, some 1), (2, some 2), (3, some 3)] ?_ ?_
      and_intros
      all_goals first | exact le_cl | skip
      refine .inr fun a ha j hj => ?_
      show PV.le _ (fnOf opE (bAt s l (i + 1)) a j)
      rw [bstep s l i j ha]
      by_cases e : a = i
      ·rw [if_pos e, if_pos e, hop]
       simp only [hoi]
       have hivl : j = 0 ∨ j = 1 ∨ j = 2 ∨ j = 3 ∨ j = 4 ∨ j = 5 ∨ j = 6 ∨ j = 7 ∨ j = 8 ∨ j = 9 ∨ j = 10 ∨ j = 11 := by omega
       rcases hivl with rfl | rfl | rfl | rfl | rfl | rfl | rfl | rfl | rfl | rfl | rfl | rfl <;> exact fun _ _ _ h => h
      ·rw [if_neg e, if_neg e]; exact fun _ _ _ h => h
    ·by_cases hz : gMod (IntKind.i64.wrap ((l.getD i 0).tdiv 16)) 2 = 0
     ·have hop := show bOp s (l.getD i 0) (opAt s.ops i) = _ from (if_neg hk3).trans ((if_neg (by omega)).trans ((if_neg (by omega)).trans ((if_neg (by omega)).trans ((if_pos (by omega)).trans (if_pos hz)))))
      have hq1 : (gMod (IntKind.i64.wrap ((l.getD i 0).tdiv 16)) 2 == 0) = true := beq_iff_eq.2 hz
      repeat' (first | refine dec_a (And.intro hq (And.intro hm hq1)) ?_ | refine un_a ?_ | ((first | refine st_a (fun K hK => ?_) | refine call_c (mod_spec (l.getD i 0) 16 (by omega)) ?_ | refine call_c (mod_spec (IntKind.i64.wrap ((l.getD i 0).tdiv 16)) 2 (by omega)) ?_); and_intros; (all_goals first | (refine hK _ ?_; clear hK K) | exact auto_cl | skip)) | (refine if_a (fun hb => ?_) (fun hb => ?_); all_goals try exact bad_a))
      rw [thenQ_normal]
      refine wk_loop (i + 1) ?_ ⟨by omega, by omega⟩ (by omega)
      refine le_a [(1, some 1), (2, some 2), (3, some 3)] ?_ ?_
      and_intros
      all_goals first | exact le_cl | skip
      refine .inr fun a ha j hj => ?_
      show PV.le _ (fnOf opE (bAt s l (i + 1)) a j)
      rw [bstep s l i j ha]
      by_cases e : a = i
      ·rw [if_pos e, if_pos e, hop]
       simp only [hoi]
       have hivl : j = 0 ∨ j = 1 ∨ j = 2 ∨ j = 3 ∨ j = 4 ∨ j = 5 ∨ j = 6 ∨ j = 7 ∨ j = 8 ∨ j = 9 ∨ j = 10 ∨ j = 11 := by omega
       rcases hivl with rfl | rfl | rfl | rfl | rfl | rfl | rfl | rfl | rfl | rfl | rfl | rfl <;> exact fun _ _ _ h => h
      ·rw [if_neg e, if_neg e]; exact fun _ _ _ h => h
     ·have hop := show bOp s (l.getD i 0) (opAt s.ops i) = _ from (if_neg hk3).trans ((if_neg (by omega)).trans ((if_neg (by omega)).trans ((if_neg (by omega)).trans ((if_pos (by omega)).trans (if_neg hz)))))
      have hq1 : (gMod (IntKind.i64.wrap ((l.getD i 0).tdiv 16)) 2 == 0) = false := beq_eq_false_iff_ne.2 hz
      repeat' (first | refine dec_a (And.intro hq (And.intro hm hq1)) ?_ | refine un_a ?_ | ((first | refine st_a (fun K hK => ?_) | refine call_c (mod_spec (l.getD i 0) 16 (by omega)) ?_ | refine call_c (mod_spec (IntKind.i64.wrap ((l.getD i 0).tdiv 16)) 2 (by omega)) ?_); and_intros; (all_goals first | (refine hK _ ?_; clear hK K) | exact auto_cl | skip)) | (refine if_a (fun hb => ?_) (fun hb => ?_); all_goals try exact bad_a))
      rw [thenQ_normal]
      refine wk_loop (i + 1) ?_ ⟨by omega, by omega⟩ (by omega)
      refine le_a [(1, some 1), (2, some 2), (3, some 3)] ?_ ?_
      and_intros
      all_goals first | exact le_cl | skip
      refine .inr fun a ha j hj => ?_
      show PV.le _ (fnOf opE (bAt s l (i + 1)) a j)
      rw [bstep s l i j ha]
      by_cases e : a = i
      ·rw [if_pos e, if_pos e, hop]
       simp only [hoi]
       have hivl : j = 0 ∨ j = 1 ∨ j = 2 ∨ j = 3 ∨ j = 4 ∨ j = 5 ∨ j = 6 ∨ j = 7 ∨ j = 8 ∨ j = 9 ∨ j = 10 ∨ j = 11 := by omega
       rcases hivl with rfl | rfl | rfl | rfl | rfl | rfl | rfl | rfl | rfl | rfl | rfl | rfl <;> exact fun _ _ _ h => h
      ·rw [if_neg e, if_neg e]; exact fun _ _ _ h => h
    ·by_cases hz : gMod (IntKind.i64.wrap ((l.getD i 0).tdiv 16)) 2 = 0
     ·have hop := show bOp s (l.getD i 0) (opAt s.ops i) = _ from (if_neg hk3).trans ((if_neg (by omega)).trans ((if_neg (by omega)).trans ((if_neg (by omega)).trans ((if_pos (by omega)).trans (if_pos hz)))))
      have hq1 : (gMod (IntKind.i64.wrap ((l.getD i 0).tdiv 16)) 2 == 0) = true := beq_iff_eq.2 hz
      repeat' (first | refine dec_a (And.intro hq (And.intro hm hq1)) ?_ | refine un_a ?_ | ((first | refine st_a (fun K hK => ?_) | refine call_c (mod_spec (l.getD i 0) 16 (by omega)) ?_ | refine call_c (mod_spec (IntKind.i64.wrap ((l.getD i 0).tdiv 16)) 2 (by omega)) ?_); and_intros; (all_goals first | (refine hK _ ?_; clear hK K) | exact auto_cl | skip)) | (refine if_a (fun hb => ?_) (fun hb => ?_); all_goals try exact bad_a))
      rw [thenQ_normal]
      refine wk_loop (i + 1) ?_ ⟨by omega, by omega⟩ (by omega)
      refine le_a [(1, some 1), (2, some 2), (3, some 3)] ?_ ?_
      and_intros
      all_goals first | exact le_cl | skip
      refine .inr fun a ha j hj => ?_
      show PV.le _ (fnOf opE (bAt s l (i + 1)) a j)
      rw [bstep s l i j ha]
      by_cases e : a = i
      ·rw [if_pos e, if_pos e, hop]
       simp only [hoi]
       have hivl : j = 0 ∨ j = 1 ∨ j = 2 ∨ j = 3 ∨ j = 4 ∨ j = 5 ∨ j = 6 ∨ j = 7 ∨ j = 8 ∨ j = 9 ∨ j = 10 ∨ j = 11 := by omega
       rcases hivl with rfl | rfl | rfl | rfl | rfl | rfl | rfl | rfl | rfl | rfl | rfl | rfl <;> exact fun _ _ _ h => h
      ·rw [if_neg e, if_neg e]; exact fun _ _ _ h => h
     ·have hop := show bOp s (l.getD i 0) (opAt s.ops i) = _ from (if_neg hk3).trans ((if_neg (by omega)).trans ((if_neg (by omega)).trans ((if_neg (by omega)).trans ((if_pos (by omega)).trans (if_neg hz)))))
      have hq1 : (gMod (IntKind.i64.wrap ((l.getD i 0).tdiv 16)) 2 == 0) = false := beq_eq_false_iff_ne.2 hz
      repeat' (first | refine dec_a (And.intro hq (And.intro hm hq1)) ?_ | refine un_a ?_ | ((first | refine st_a (fun K hK => ?_) | refine call_c (mod_spec (l.getD i 0) 16 (by omega)) ?_ | refine call_c (mod_spec (IntKind.i64.wrap ((l.getD i 0).tdiv 16)) 2 (by omega)) ?_); and_intros; (all_goals first | (refine hK _ ?_; clear hK K) | exact auto_cl | skip)) | (refine if_a (fun hb => ?_) (fun hb => ?_); all_goals try exact bad_a))
      rw [thenQ_normal]
      refine wk_loop (i + 1) ?_ ⟨by omega, by omega⟩ (by omega)
      refine le_a [(1, some 1), (2, some 2), (3, some 3)] ?_ ?_
      and_intros
      all_goals first | exact le_cl | skip
      refine .inr fun a ha j hj => ?_
      show PV.le _ (fnOf opE (bAt s l (i + 1)) a j)
      rw [bstep s l i j ha]
      by_cases e : a = i
      ·rw [if_pos e, if_pos e, hop]
       simp only [hoi]
       have hivl : j = 0 ∨ j = 1 ∨ j = 2 ∨ j = 3 ∨ j = 4 ∨ j = 5 ∨ j = 6 ∨ j = 7 ∨ j = 8 ∨ j = 9 ∨ j = 10 ∨ j = 11 := by omega
       rcases hivl with rfl | rfl | rfl | rfl | rfl | rfl | rfl | rfl | rfl | rfl | rfl | rfl <;> exact fun _ _ _ h => h
      ·rw [if_neg e, if_neg e]; exact fun _ _ _ h => h
    ·have hop := show bOp s (l.getD i 0) (opAt s.ops i) = _ from (if_neg hk3).trans ((if_neg (by omega)).trans ((if_neg (by omega)).trans ((if_neg (by omega)).trans ((if_neg (by omega)).trans (if_pos hm)))))
     repeat' (first | refine dec_a (And.intro hq hm) ?_ | refine un_a ?_ | ((first | refine st_a (fun K hK => ?_) | refine call_c (mod_spec (l.getD i 0) 16 (by omega)) ?_); and_intros; (all_goals first | (refine hK _ ?_; clear hK K) | exact auto_cl | skip)) | (refine if_a (fun hb => ?_) (fun hb => ?_); all_goals try exact bad_a))
     rw [thenQ_normal]
     refine wk_loop (i + 1) ?_ ⟨by omega, by omega⟩ (by omega)
     refine le_a [(1, some 1), (2, some 2), (3, some 3)] ?_ ?_
     and_intros
     all_goals first | exact le_cl | skip
     refine .inr fun a ha j hj => ?_
     show PV.le _ (fnOf opE (bAt s l (i + 1)) a j)
     rw [bstep s l i j ha]
     by_cases e : a = i
     ·rw [if_pos e, if_pos e, hop]
      simp only [hoi]
      have hivl : j = 0 ∨ j = 1 ∨ j = 2 ∨ j = 3 ∨ j = 4 ∨ j = 5 ∨ j = 6 ∨ j = 7 ∨ j = 8 ∨ j = 9 ∨ j = 10 ∨ j = 11 := by omega
      rcases hivl with rfl | rfl | rfl | rfl | rfl | rfl | rfl | rfl | rfl | rfl | rfl | rfl <;> exact fun _ _ _ h => h
     ·rw [if_neg e, if_neg e]; exact fun _ _ _ h => h
    ·have hop := show bOp s (l.getD i 0) (opAt s.ops i) = _ from (if_neg hk3).trans ((if_neg (by omega)).trans ((if_neg (by omega)).trans ((if_neg (by omega)).trans ((if_neg (by omega)).trans (if_neg (by omega))))))
     have e0 := beq_eq_false_iff_ne.2 n0
     have e1 := beq_eq_false_iff_ne.2 n1
     have e2 := beq_eq_false_iff_ne.2 n2
     have e3 := beq_eq_false_iff_ne.2 n3
     have e4 := beq_eq_false_iff_ne.2 n4
     have e5 := beq_eq_false_iff_ne.2 n5
     have e6 := beq_eq_false_iff_ne.2 n6
     have e7 := beq_eq_false_iff_ne.2 n7
     have e8 := beq_eq_false_iff_ne.2 n8
     repeat' (first | refine dec_a (And.intro hq (And.intro e0 (And.intro e1 (And.intro e2 (And.intro e3 (And.intro e4 (And.intro e5 (And.intro e6 (And.intro e7 e8))))))))) ?_ | refine un_a ?_ | ((first | refine st_a (fun K hK => ?_) | refine call_c (mod_spec (l.getD i 0) 16 (by omega)) ?_); and_intros; (all_goals first | (refine hK _ ?_; clear hK K) | exact auto_cl | skip)) | (refine if_a (fun hb => ?_) (fun hb => ?_); all_goals try exact bad_a))
     rw [thenQ_normal]
     refine wk_loop (i + 1) ?_ ⟨by omega, by omega⟩ (by omega)
     refine le_a [(1, some 1), (2, some 2), (3, some 3)] ?_ ?_
     and_intros
     all_goals first | exact le_cl | skip
     refine .inr fun a ha j hj => ?_
     show PV.le _ (fnOf opE (bAt s l (i + 1)) a j)
     rw [bstep s l i j ha]
     by_cases e : a = i
     ·rw [if_pos e, if_pos e, hop]
      simp only [hoi]
      have hivl : j = 0 ∨ j = 1 ∨ j = 2 ∨ j = 3 ∨ j = 4 ∨ j = 5 ∨ j = 6 ∨ j = 7 ∨ j = 8 ∨ j = 9 ∨ j = 10 ∨ j = 11 := by omega
      rcases hivl with rfl | rfl | rfl | rfl | rfl | rfl | rfl | rfl | rfl | rfl | rfl | rfl <;> exact fun _ _ _ h => h
     ·rw [if_neg e, if_neg e]; exact fun _ _ _ h => h
   ·have he : i = l.length := by omega
    repeat' (first | refine un_a ?_ | (refine st_a (fun K hK => ?_); and_intros; (all_goals first | (refine hK _ ?_; clear hK K) | exact auto_cl | skip)) | (refine if_a (fun hb => ?_) (fun hb => ?_); all_goals try exact bad_a) | (refine ret_a ?_; (try clear hB KB); (try clear hK K)))
    have e1 : (biasM s l).images.length = s.images.length + 2 := by show (bImgs s).length = _; rw [bImgs, List.length_append]; rfl
    have e2 : (biasM s l).ops.length = s.ops.length := bAt_len s l _
    rw [e1, e2, hend i (.inr he) hi2]
    refine ⟨⟨_, rfl, rfl, fun _ _ _ _ => PV.le_refl _⟩, ?_⟩
    and_intros
    all_goals first | exact .inl rfl | trivial | skip
  ·have he : i = s.ops.length := by omega
   repeat' (first | refine un_a ?_ | (refine st_a (fun K hK => ?_); and_intros; (all_goals first | (refine hK _ ?_; clear hK K) | exact auto_cl | skip)) | (refine if_a (fun hb => ?_) (fun hb => ?_); all_goals try exact bad_a) | (refine ret_a ?_; (try clear hB KB); (try clear hK K)))
   have e1 : (biasM s l).images.length = s.images.length + 2 := by show (bImgs s).length = _; rw [bImgs, List.length_append]; rfl
   have e2 : (biasM s l).ops.length = s.ops.length := bAt_len s l _
   rw [e1, e2, hend i (.inl he) hi2]
   refine ⟨⟨_, rfl, rfl, fun _ _ _ _ => PV.le_refl _⟩, ?_⟩
   and_intros
   all_goals first | exact .inl rfl | trivial | skip
theorem bias_sp (s : Script) (l : List Int) (hs : ScriptLen s) (hl : l.length ≤ 4611686018427387904) (ho : s.ops.length ≤ 4096) (hi : s.images.length ≤ 4096) :
  Pure Sg 18 [ag (scriptE s), .c (.p (ints l))] (fun x => x = .b (ag (scriptE (biasM s l)))) :=
 pure_ownK (bias_own s l hs hl ho hi) rfl
end Go.Proofs.YtlblgkelhibdoaaGreatDoor
