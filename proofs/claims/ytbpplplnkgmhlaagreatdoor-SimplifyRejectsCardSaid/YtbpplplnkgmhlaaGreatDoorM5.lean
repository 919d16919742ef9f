/- Part 5 of the proof: F24, EB, BrS, EC, D6, D7, D8, ED, EF, EG, EH, EI, J1, J0, J2. -/
import Derived.Test.YtbpplplnkgmhlaaGreatDoorM0
import Derived.Test.YtbpplplnkgmhlaaGreatDoorM1
import Derived.Test.YtbpplplnkgmhlaaGreatDoorM2
import Derived.Test.YtbpplplnkgmhlaaGreatDoorM3
import Derived.Test.YtbpplplnkgmhlaaGreatDoorM4
set_option linter.unusedSimpArgs false
set_option linter.unusedVariables false
set_option maxHeartbeats 8000000
set_option maxRecDepth 16000
namespace Go.Proofs.YtbpplplnkgmhlaaGreatDoor
open Go Go.SL
open Go.RowKit (wrap64)

theorem arr_push_junk {l jk : List Op} {x : Op} {g : Nat → Nat → PV} (hg : ∀ j, j < 12 → g 0 j = (opE x).getD j .any) :
    ∀ i, i < l.length + 1 → ∀ j, j < 12 → PV.le (appF l.length (fnOf opE (l ++ jk)) g i j) (fnOf opE (l ++ [x]) i j) := fun i hi j hj => by
  have := arr_push (enc := opE) (xs := l) (x := x) (s := 12) (g := g) hg i hi j hj
  unfold appF at this ⊢
  by_cases h : i < l.length
  · rw [if_pos h] at this ⊢
    have e : (l ++ jk).getD i default = l.getD i default := by
      rw [List.getD_eq_getElem?_getD, List.getD_eq_getElem?_getD, List.getElem?_append_left h]
    unfold fnOf at this ⊢
    rw [e]; exact this
  · rw [if_neg h] at this ⊢
    exact this
def scrO9 (s : Script) : List (Option PV) := [some (PI s.bits), some (PI s.canvas.x0), some (PI s.canvas.y0), some (PI s.canvas.x1), some (PI s.canvas.y1), some (PI s.tileW), some (PI s.tileH), some (ints s.order), some (imgL s.images), none]
attribute [local go_sem] scrO9
theorem gscript_own (s : Scene) (hs : SceneOk s) : PureOwnK Sg 13 [ag (sceneE s)] (scrO9 (gScript s)) 9 73 12 (gScript s).ops.length (fnOf opE (gScript s).ops) := by
  obtain ⟨hb, ⟨x1, x2⟩, ⟨y1, y2⟩, ⟨w1, w2⟩, ⟨v1, v2⟩, ⟨t1, t2⟩, ⟨u1, u2⟩, ho, hp, hop, hpic, hraw⟩ := hs
  have hm := gMax_u s.bits
  have hsm := gCanvas_small s
  have htw := tiles_wrap (gCanvas s) (gTileW s) (gTileH s)
  have hw0 : 1 ≤ 1 + s.w % 5 ∧ 1 + s.w % 5 ≤ 5 := by omega
  have hh0 : 1 ≤ 1 + s.h % 4 ∧ 1 + s.h % 4 ≤ 4 := by omega
  have ew : s.tileW % (1 + s.w % 5) = gTileW s - 1 := by unfold gTileW; omega
  have eh : s.tileH % (1 + s.h % 4) = gTileH s - 1 := by unfold gTileH; omega
  have bw := Int.emod_nonneg s.tileW (show 1 + s.w % 5 ≠ 0 by omega)
  have bw2 := Int.emod_lt_of_pos s.tileW (show 0 < 1 + s.w % 5 by omega)
  have bh := Int.emod_nonneg s.tileH (show 1 + s.h % 4 ≠ 0 by omega)
  have bh2 := Int.emod_lt_of_pos s.tileH (show 0 < 1 + s.h % 4 by omega)
  have hmx : Pure Sg 45 [I s.bits] (fun r => r = .b (U (gMax s.bits))) := max_spec _
  refine ownK_of Tryz.func13 rfl (rs := [.cell 2 36]) rfl rfl mixed (by decide +kernel) (Nat.le_of_ble_eq_true rfl) (argsLt_mem (by simp (maxSteps := 1000000) (disch := omega) only [go_sem])) ?_
  repeat' (first | with_reducible exact tr_a | refine un_a ?_ | ((with_reducible refine cw_stepV (id := 10) (fun K hW => ?_)); (try simp (maxSteps := 1000000) (disch := omega) only [go_sem]); (repeat' (refine And.intro ?_ ?_)); (all_goals first | (refine hK _ ?_; clear hK K) | exact auto_cl | skip)) | ((first | refine st_a (fun K hK => ?_) | refine rg_a ?_ | refine call_c (hmx) ?_ | refine gcall_c (fun hg => hmx) ?_ | refine call_c (modp_spec _ _ (by omega) (by omega)) ?_ | refine gcall_c (fun hg => modp_spec _ _ (by omega) (by omega)) ?_ | refine call_c (tiles_spec ⟨_, _, _, _⟩ _ _) ?_ | refine gcall_c (fun hg => tiles_spec ⟨_, _, _, _⟩ _ _) ?_); (repeat' (refine And.intro ?_ ?_)); (all_goals first | (refine hK _ ?_; clear hK K) | exact auto_cl | skip)) | ((first | apply cw_ite | apply cw_iteN); (case hf => rfl); (case hc => exact ev_a); (all_goals first | (intro hb; (try simp only [hbs] at hb)) | skip)) | exact atN_intro | (refine if_a (fun hb => ?_) (fun hb => ?_); (all_goals (try first | with_reducible exact True.intro | (exfalso; omega)))) | refine cw_blocks (fun KB hB => ?_) | (refine hB _ ?_; clear hB KB) | refine exit_by (S := Sg) (by assumption) ?_ | (refine ret_a ?_; (try clear hB KB); (try clear hK K)))
  refine call_as ?_ ?_ (by simp (maxSteps := 1000000) (disch := omega) only [go_sem]) (permutation_spec s.order (tilesX (gCanvas s) (gTileW s) (gTileH s) * tilesY (gCanvas s) (gTileW s) (gTileH s)) ho htw.2)
  try simp (maxSteps := 1000000) (disch := omega) only [go_sem]
  try (refine hK _ ?_; clear hK K)
  rotate_left
  · rw [← htw.1]
    have e1 : 1 + s.tileW % (1 + s.w % 5) = gTileW s := rfl
    have e2 : 1 + s.tileH % (1 + s.h % 4) = gTileH s := rfl
    simp only [e1, e2]
    rfl
  refine hW _ (mkSt [(1, .b (.c (.ptr 0 0))), (2, .b (.c (.ptr 1 0))), (3, .b (U (gMax s.bits))), (4, .b (.c (.ptr 2 0))), (7, .b (I (1 + s.w % 5))), (8, .b (I (1 + s.h % 4)))]
    [(0, .fix ((sceneE s).map CV.p)), (1, .fix ((List.range 10).map fun _ => CV.p .any)), (2, .fix [.p (PI (gScript s).bits), .p (PI (gCanvas s).x0), .p (PI (gCanvas s).y0), .p (PI (gCanvas s).x1), .p (PI (gCanvas s).y1), .p (PI (gTileW s)), .p (PI (gTileH s)), .p (ints (gScript s).order), .p Nil, .p Nil])] 3) ?_ ?_
  · clear hW
    refine le_a [(1, some 1), (2, some 2)] ?_ ?_
    repeat' (refine And.intro ?_ ?_)
    all_goals first | exact le_cl | skip
  clear hW
  refine cw_assoc ?_
  refine cw_step fun K hK => ?_
  simp (maxSteps := 1000000) (disch := omega) only [go_sem]
  repeat' (refine And.intro ?_ ?_)
  all_goals first | (refine hK _ ?_; clear hK K) | exact auto_cl | skip
  refine cw_blocksV fun KB hV => ?_
  refine cw_loop (X := Nat) (fun i => mkSt [(1, .b (.c (.ptr 0 0))), (2, .b (.c (.ptr 1 0))), (3, .b (U (gMax s.bits))), (4, .b (.c (.ptr 2 0))), (7, .b (I (1 + s.w % 5))), (8, .b (I (1 + s.h % 4))), (12, .b (I i))]
    [(0, .fix ((sceneE s).map CV.p)), (1, .fix ((List.range 10).map fun _ => CV.p .any)), (2, .fix [.p (PI (gScript s).bits), .p (PI (gCanvas s).x0), .p (PI (gCanvas s).y0), .p (PI (gCanvas s).x1), .p (PI (gCanvas s).y1), .p (PI (gTileW s)), .p (PI (gTileH s)), .p (ints (gScript s).order), .own 3 i, .p Nil]),
     (3, .arr 79 28 i (fnOf imageE ((gImages0 s).take i)))] 4) (fun i => i ≤ s.pics.length ∧ i ≤ 4) (fun i => 4 - i) 0 ?_ ?_ ?_
  · omega
  · refine le_a [(1, some 1), (2, some 2), (3, none)] ?_ ?_
    repeat' (refine And.intro ?_ ?_)
    all_goals first | exact le_cl | skip
  · rintro i ⟨hi, hi4⟩
    have him : i < s.pics.length → PicOk (s.pics.getD i default) := hpic i
    repeat' (first | with_reducible exact tr_a | ((first | ((with_reducible refine cw_stepDK (id := 14) [] (by decide +kernel) (by decide +kernel) ?_ (fun K hK => ?_)); exact wf_a) | ((with_reducible refine cw_lastDK (id := 14) [] (by decide +kernel) (by decide +kernel) ?_ (fun K hK => ?_)); exact wf_a)); (try simp (maxSteps := 1000000) (disch := omega) only [go_sem]); (repeat' (refine And.intro ?_ ?_)); (all_goals first | (refine hK _ (by simp (maxSteps := 1000000) (disch := omega) only [go_sem]) ?_; clear hK K) | exact auto_cl | skip)) | refine un_a ?_ | ((first | refine st_a (fun K hK => ?_) | refine rg_a ?_); (repeat' (refine And.intro ?_ ?_)); (all_goals first | (refine hK _ ?_; clear hK K) | exact auto_cl | skip)) | ((first | apply cw_ite | apply cw_iteN); (case hf => rfl); (case hc => exact ev_a); (all_goals first | (intro hb; (try simp only [hbs] at hb)) | skip)) | exact atN_intro | (refine if_a (fun hb => ?_) (fun hb => ?_); (all_goals (try first | with_reducible exact True.intro | (exfalso; omega)))) | refine cw_blocks (fun KB hB => ?_) | (refine hB _ ?_; clear hB KB) | refine exit_by (S := Sg) (by assumption) ?_ | (refine ret_a ?_; (try clear hB KB); (try clear hK K)))
    · refine call_eq (image_spec (s.pics.getD (i : Int).toNat default) (gCanvas s) (gMax s.bits) (by rw [Int.toNat_natCast]; exact hpic i (by omega)) hsm (by unfold u16; omega)) (by simp (maxSteps := 1000000) (disch := omega) only [go_sem]) ?_
      try simp (maxSteps := 1000000) (disch := omega) only [go_sem]
      repeat' (refine And.intro ?_ ?_)
      all_goals first | (refine hK _ ?_; clear hK K) | exact auto_cl | skip
      refine hK _ trivial ?_
      clear hK
      repeat' (first | with_reducible exact tr_a | refine un_a ?_ | ((first | refine st_a (fun K hK => ?_) | refine rg_a ?_); (repeat' (refine And.intro ?_ ?_)); (all_goals first | (refine hK _ ?_; clear hK K) | exact auto_cl | skip)) | ((first | apply cw_ite | apply cw_iteN); (case hf => rfl); (case hc => exact ev_a); (all_goals first | (intro hb; (try simp only [hbs] at hb)) | skip)) | exact atN_intro | (refine if_a (fun hb => ?_) (fun hb => ?_); (all_goals (try first | with_reducible exact True.intro | (exfalso; omega)))) | refine cw_blocks (fun KB hB => ?_) | (refine hB _ ?_; clear hB KB) | refine exit_by (S := Sg) (by assumption) ?_ | (refine ret_a ?_; (try clear hB KB); (try clear hK K)))
      rw [thenQ_normal]
      refine wk_loop (i + 1) ?_ (by omega) (by omega)
      have hl1 : ((gImages0 s).take i).length = i := by simp [gImages0]; omega
      have he : (gImages0 s).take (i + 1) = (gImages0 s).take i ++ [gImage (s.pics.getD i default) (gCanvas s) (gMax s.bits)] := by
        have h1 : i < (s.pics.take 4).length := by rw [List.length_take]; omega
        have h2 : i < s.pics.length := by omega
        simp only [gImages0, ← List.map_take]
        rw [List.take_add_one, List.map_append, List.getElem?_eq_getElem h1, List.getD_eq_getElem?_getD, List.getElem?_eq_getElem h2, List.getElem_take]
        rfl
      refine le_a [(1, some 1), (2, some 2), (3, some 5)] ?_ ?_
      repeat' (refine And.intro ?_ ?_)
      all_goals first | exact le_cl | skip
      have key := fun g hg => arr_push (enc := imageE) (xs := (gImages0 s).take i) (x := gImage (s.pics.getD i default) (gCanvas s) (gMax s.bits)) (s := 28) (g := g) hg
      simp only [hl1, ← he] at key
      refine .inr (key _ fun j hj => ?_)
      simp only [Int.toNat_natCast]
      have hivl : j = 0 ∨ j = 1 ∨ j = 2 ∨ j = 3 ∨ j = 4 ∨ j = 5 ∨ j = 6 ∨ j = 7 ∨ j = 8 ∨ j = 9 ∨ j = 10 ∨ j = 11 ∨ j = 12 ∨ j = 13 ∨ j = 14 ∨ j = 15 ∨ j = 16 ∨ j = 17 ∨ j = 18 ∨ j = 19 ∨ j = 20 ∨ j = 21 ∨ j = 22 ∨ j = 23 ∨ j = 24 ∨ j = 25 ∨ j = 26 ∨ j = 27 := by omega
      rcases hivl with rfl | rfl | rfl | rfl | rfl | rfl | rfl | rfl | rfl | rfl | rfl | rfl | rfl | rfl | rfl | rfl | rfl | rfl | rfl | rfl | rfl | rfl | rfl | rfl | rfl | rfl | rfl | rfl <;> rfl
    · have hn0 : i = (gImages0 s).length := by simp [gImages0]; omega
      refine hV _ (mkSt [(1, .b (.c (.ptr 0 0))), (2, .b (.c (.ptr 1 0))), (3, .b (U (gMax s.bits))), (4, .b (.c (.ptr 2 0))), (7, .b (I (1 + s.w % 5))), (8, .b (I (1 + s.h % 4)))]
        [(0, .fix ((sceneE s).map CV.p)), (1, .fix ((List.range 10).map fun _ => CV.p .any)), (2, .fix [.p (PI (gScript s).bits), .p (PI (gCanvas s).x0), .p (PI (gCanvas s).y0), .p (PI (gCanvas s).x1), .p (PI (gCanvas s).y1), .p (PI (gTileW s)), .p (PI (gTileH s)), .p (ints (gScript s).order), .own 3 (gImages0 s).length, .p Nil]), (3, .arr 79 28 (gImages0 s).length (fnOf imageE (gImages0 s)))] 4) ?_ ?_
      · rw [hn0, List.take_of_length_le (Nat.le_refl _)]
        refine le_a [(1, some 1), (2, some 2), (3, some 3)] ?_ ?_
        repeat' (refine And.intro ?_ ?_)
        all_goals first | exact le_cl | skip
      clear hV hn0 him
      refine cw_assoc ?_
      refine cw_step fun K hK => ?_
      simp (maxSteps := 1000000) (disch := omega) only [go_sem]
      repeat' (refine And.intro ?_ ?_)
      all_goals first | (refine hK _ ?_; clear hK K) | exact auto_cl | skip
      refine cw_ifM (t := (((gImages0 s).length : Int) == 0)) (mkSt [(1, .b (.c (.ptr 0 0))), (2, .b (.c (.ptr 1 0))), (3, .b (U (gMax s.bits))), (4, .b (.c (.ptr 2 0)))]
        [(0, .fix ((sceneE s).map CV.p)), (1, .fix ((List.range 10).map fun _ => CV.p .any)), (2, .fix [.p (PI (gScript s).bits), .p (PI (gCanvas s).x0), .p (PI (gCanvas s).y0), .p (PI (gCanvas s).x1), .p (PI (gCanvas s).y1), .p (PI (gTileW s)), .p (PI (gTileH s)), .p (ints (gScript s).order), .p (imgL (gImages s)), .p Nil])] 3) ?_ ?_ ?_ ?_
      · simp (maxSteps := 1000000) (disch := omega) only [go_sem]
      · intro hb
        have h0 : (gImages0 s).length = 0 := by simpa using hb
        have hi1 : gImages s = [solidOf (1 + s.w % 5) (1 + s.h % 4) ⟨gMax s.bits, 0, 0, gMax s.bits, gMax s.bits⟩] := by rw [gImages, if_pos h0]
        repeat' (first | with_reducible exact tr_a | ((first | ((with_reducible refine cw_stepDK (id := 16) [] (by decide +kernel) (by decide +kernel) ?_ (fun K hK => ?_)); exact wf_a) | ((with_reducible refine cw_lastDK (id := 16) [] (by decide +kernel) (by decide +kernel) ?_ (fun K hK => ?_)); exact wf_a)); (try simp (maxSteps := 1000000) (disch := omega) only [go_sem]); (repeat' (refine And.intro ?_ ?_)); (all_goals first | (refine hK _ (by simp (maxSteps := 1000000) (disch := omega) only [go_sem]) ?_; clear hK K) | exact auto_cl | skip)) | refine un_a ?_ | ((first | refine st_a (fun K hK => ?_) | refine rg_a ?_ | refine call_c (solid_spec (1 + s.w % 5) (1 + s.h % 4) ⟨gMax s.bits, 0, 0, gMax s.bits, gMax s.bits⟩) ?_ | refine gcall_c (fun hg => solid_spec (1 + s.w % 5) (1 + s.h % 4) ⟨gMax s.bits, 0, 0, gMax s.bits, gMax s.bits⟩) ?_); (repeat' (refine And.intro ?_ ?_)); (all_goals first | (refine hK _ ?_; clear hK K) | exact auto_cl | skip)) | ((first | apply cw_ite | apply cw_iteN); (case hf => rfl); (case hc => exact ev_a); (all_goals first | (intro hb; (try simp only [hbs] at hb)) | skip)) | exact atN_intro | (refine if_a (fun hb => ?_) (fun hb => ?_); (all_goals (try first | with_reducible exact True.intro | (exfalso; omega)))) | refine cw_blocks (fun KB hB => ?_) | (refine hB _ ?_; clear hB KB) | refine exit_by (S := Sg) (by assumption) ?_ | (refine ret_a ?_; (try clear hB KB); (try clear hK K)))
        refine hK _ trivial ?_
        clear hK
        rw [thenQ_normal, hi1]
        refine ⟨_, ?_, rfl⟩
        refine le_a [(1, some 1), (2, some 2)] ?_ ?_
        repeat' (refine And.intro ?_ ?_)
        all_goals first | exact le_cl | skip
        have h00 : gImages0 s = [] := List.eq_nil_of_length_eq_zero h0
        rw [h00]
        intro a ha j hj
        have : a = 0 := by simpa using ha
        subst this
        have hivl : j = 0 ∨ j = 1 ∨ j = 2 ∨ j = 3 ∨ j = 4 ∨ j = 5 ∨ j = 6 ∨ j = 7 ∨ j = 8 ∨ j = 9 ∨ j = 10 ∨ j = 11 ∨ j = 12 ∨ j = 13 ∨ j = 14 ∨ j = 15 ∨ j = 16 ∨ j = 17 ∨ j = 18 ∨ j = 19 ∨ j = 20 ∨ j = 21 ∨ j = 22 ∨ j = 23 ∨ j = 24 ∨ j = 25 ∨ j = 26 ∨ j = 27 := by omega
        rcases hivl with rfl | rfl | rfl | rfl | rfl | rfl | rfl | rfl | rfl | rfl | rfl | rfl | rfl | rfl | rfl | rfl | rfl | rfl | rfl | rfl | rfl | rfl | rfl | rfl | rfl | rfl | rfl | rfl <;> exact PV.le_refl _
      · intro hb
        have h0 : ¬ (gImages0 s).length = 0 := by simpa using hb
        have hi1 : gImages s = gImages0 s := by rw [gImages, if_neg h0]
        refine cw_skip ?_
        rw [thenQ_normal, hi1]
        refine ⟨_, ?_, rfl⟩
        refine le_a [(1, some 1), (2, some 2)] ?_ ?_
        repeat' (refine And.intro ?_ ?_)
        all_goals first | exact le_cl | skip
        exact fun _ _ _ _ => PV.le_refl _
      have h3m : u16 (gMax s.bits) := by unfold u16; omega
      have him1 : 1 ≤ (gImages s).length ∧ (gImages s).length ≤ 4 := by
        unfold gImages
        split
        · simp
        · have : (gImages0 s).length ≤ 4 := by simp [gImages0]; omega
          omega
      refine cw_step fun K hK => ?_
      simp (maxSteps := 1000000) (disch := omega) only [go_sem]
      repeat' (refine And.intro ?_ ?_)
      all_goals first | (refine hK _ ?_; clear hK K) | exact auto_cl | skip
      refine cw_assoc ?_
      refine cw_step fun K hK => ?_
      simp (maxSteps := 1000000) (disch := omega) only [go_sem]
      repeat' (refine And.intro ?_ ?_)
      all_goals first | (refine hK _ ?_; clear hK K) | exact auto_cl | skip
      refine cw_blocksV fun KB2 hV2 => ?_
      refine cw_loop (X := Nat × List Op × List Op × List Op) (fun x => mkSt [(1, .b (.c (.ptr 0 0))), (2, .b (.c (.ptr 1 0))), (3, .b (U (gMax s.bits))), (4, .b (.c (.ptr 2 0))), (13, .b (.c (.own 4 x.2.2.1.length))), (14, .b (I x.1))]
        [(0, .fix ((sceneE s).map CV.p)), (1, .fix ((List.range 10).map fun _ => CV.p .any)), (2, .fix [.p (PI (gScript s).bits), .p (PI (gCanvas s).x0), .p (PI (gCanvas s).y0), .p (PI (gCanvas s).x1), .p (PI (gCanvas s).y1), .p (PI (gTileW s)), .p (PI (gTileH s)), .p (ints (gScript s).order), .p (imgL (gImages s)), .own 3 x.2.1.length]),
         (3, .arr 73 12 x.2.1.length (fnOf opE x.2.1)), (4, .arr 73 12 (x.2.2.1.length + x.2.2.2.length) (fnOf opE (x.2.2.1 ++ x.2.2.2)))] 5)
        (fun x => x.1 ≤ s.ops.length ∧ x.1 ≤ 9 ∧ (s.ops.take x.1).foldl (gStep (gImages s).length (gCanvas s) (gMax s.bits)) ([], []) = (x.2.1, x.2.2.1) ∧ x.2.1.length ≤ x.1 ∧ x.2.2.1.length ≤ x.1) (fun x => 9 - x.1) (0, [], [], []) ?_ ?_ ?_
      · exact ⟨by omega, by omega, rfl, Nat.le_refl _, Nat.le_refl _⟩
      · refine le_a [(1, some 1), (2, some 2), (3, none), (4, none)] ?_ ?_
        repeat' (refine And.intro ?_ ?_)
        all_goals first | exact le_cl | skip
      · rintro ⟨i, ops, l, jk⟩ ⟨hi, hi9, hf, ho1, hl1⟩
        dsimp only at hi hi9 hf ho1 hl1 ⊢
        have hstep : ∀ (hlt : i < s.ops.length) (q : List Op × List Op), gStep (gImages s).length (gCanvas s) (gMax s.bits) (ops, l) (s.ops.getD i default) = q → (s.ops.take (i + 1)).foldl (gStep (gImages s).length (gCanvas s) (gMax s.bits)) ([], []) = q := by
          rintro hlt q rfl
          rw [List.take_add_one, List.getElem?_eq_getElem hlt, List.foldl_append, hf, List.getD_eq_getElem?_getD, List.getElem?_eq_getElem hlt]
          rfl
        by_cases hc : i < s.ops.length ∧ i < 9
        · by_cases hk0 : (s.ops.getD i default).kind % 8 = 0 ∧ 0 < l.length
          · have hkT : ((s.ops.getD i default).kind % 8 == 0 && decide ((l.length : Int) > 0)) = true := by
              simp only [Bool.and_eq_true, beq_iff_eq, decide_eq_true_eq]; omega
            repeat' (first | with_reducible exact tr_a | refine dec_a hkT ?_ | refine un_a ?_ | ((first | refine st_a (fun K hK => ?_) | refine rg_a ?_ | refine call_c (modp_spec _ _ (by omega) (by omega)) ?_ | refine gcall_c (fun hg => modp_spec _ _ (by omega) (by omega)) ?_); (repeat' (refine And.intro ?_ ?_)); (all_goals first | (refine hK _ ?_; clear hK K) | exact auto_cl | skip)) | ((first | apply cw_ite | apply cw_iteN); (case hf => rfl); (case hc => exact ev_a); (all_goals first | (intro hb; (try simp only [hbs] at hb)) | skip)) | exact atN_intro | (refine if_a (fun hb => ?_) (fun hb => ?_); (all_goals (try first | with_reducible exact True.intro | (exfalso; omega)))) | refine cw_blocks (fun KB hB => ?_) | (refine hB _ ?_; clear hB KB) | refine exit_by (S := Sg) (by assumption) ?_ | (refine ret_a ?_; (try clear hB KB); (try clear hK K)))
            rw [thenQ_normal]
            have hp := hk0.2
            have hne : l ≠ [] := fun h => by rw [h] at hp; simp at hp
            have hj : l.dropLast ++ (l.getLast hne :: jk) = l ++ jk := by
              conv => rhs; rw [← List.dropLast_concat_getLast hne]
              simp
            refine wk_loop (i + 1, ops ++ [popOp], l.dropLast, l.getLast hne :: jk) ?_ ⟨by dsimp only; omega, by dsimp only; omega, hstep hc.1 _ (by rw [gStep, if_pos hk0]), by simp; omega, by rw [List.length_dropLast]; dsimp only; omega⟩ (by dsimp only; omega)
            dsimp only
            rw [hj]
            refine le_a [(1, some 1), (2, some 2), (3, some 6), (4, some 4)] ?_ ?_
            repeat' (refine And.intro ?_ ?_)
            all_goals first | exact le_cl | skip
            · rw [List.length_dropLast]; omega
            · simp
            · simp
            · refine .inr fun a ha j hj => arr_push (fun j hj => ?_) a ha j hj
              have hivl : j = 0 ∨ j = 1 ∨ j = 2 ∨ j = 3 ∨ j = 4 ∨ j = 5 ∨ j = 6 ∨ j = 7 ∨ j = 8 ∨ j = 9 ∨ j = 10 ∨ j = 11 := by omega
              rcases hivl with rfl | rfl | rfl | rfl | rfl | rfl | rfl | rfl | rfl | rfl | rfl | rfl <;> rfl
            · rw [List.length_dropLast]; omega
          · have hkF : ((s.ops.getD i default).kind % 8 == 0 && decide ((l.length : Int) > 0)) = false := by
              rw [Bool.eq_false_iff]
              intro h
              simp only [Bool.and_eq_true, beq_iff_eq, decide_eq_true_eq] at h
              exact hk0 ⟨h.1, by omega⟩
            have hraw1 : RawOk (s.ops.getD (i : Int).toNat default) := hraw i hc.1
            have hcb : -2000000000 ≤ (gCanvas s).x0 ∧ (gCanvas s).x0 ≤ 2000000000 ∧ -2000000000 ≤ (gCanvas s).y0 ∧ (gCanvas s).y0 ≤ 2000000000 := by
              unfold gCanvas
              dsimp only
              omega
            repeat' (first | with_reducible exact tr_a | refine dec_a hkF ?_ | refine un_a ?_ | ((first | refine st_a (fun K hK => ?_) | refine rg_a ?_ | refine call_c (modp_spec _ _ (by omega) (by omega)) ?_ | refine gcall_c (fun hg => modp_spec _ _ (by omega) (by omega)) ?_); (repeat' (refine And.intro ?_ ?_)); (all_goals first | (refine hK _ ?_; clear hK K) | exact auto_cl | skip)) | ((first | apply cw_ite | apply cw_iteN); (case hf => rfl); (case hc => exact ev_a); (all_goals first | (intro hb; (try simp only [hbs] at hb)) | skip)) | exact atN_intro | (refine if_a (fun hb => ?_) (fun hb => ?_); (all_goals (try first | with_reducible exact True.intro | (exfalso; omega)))) | refine cw_blocks (fun KB hB => ?_) | (refine hB _ ?_; clear hB KB) | refine exit_by (S := Sg) (by assumption) ?_ | (refine ret_a ?_; (try clear hB KB); (try clear hK K)))
            any_goals (focus (simp only [beq_eq_false_iff_ne, ne_eq]; omega))
            any_goals (focus (rintro ⟨q1, q2⟩; refine ⟨⟨q1, q2⟩, ?_⟩; simp only [beq_eq_false_iff_ne, ne_eq] at q1; omega))
            repeat' (first | with_reducible exact tr_a | ((first | ((with_reducible refine cw_stepDK (id := 27) [] (by decide +kernel) (by decide +kernel) ?_ (fun K hK => ?_)); exact wf_a) | ((with_reducible refine cw_lastDK (id := 27) [] (by decide +kernel) (by decide +kernel) ?_ (fun K hK => ?_)); exact wf_a)); (try simp (maxSteps := 1000000) (disch := omega) only [go_sem]); (repeat' (refine And.intro ?_ ?_)); (all_goals first | (refine hK _ (by simp (maxSteps := 1000000) (disch := omega) only [go_sem]) ?_; clear hK K) | exact auto_cl | skip)) | refine un_a ?_ | ((first | refine st_a (fun K hK => ?_) | refine rg_a ?_ | refine call_c (op_spec _ _ _ (gCanvas s) _ (gMax s.bits) hraw1 (by omega) (by omega) hcb.1 hcb.2.1 hcb.2.2.1 hcb.2.2.2 h3m) ?_ | refine gcall_c (fun hg => op_spec _ _ _ (gCanvas s) _ (gMax s.bits) hraw1 (by omega) (by omega) hcb.1 hcb.2.1 hcb.2.2.1 hcb.2.2.2 h3m) ?_); (repeat' (refine And.intro ?_ ?_)); (all_goals first | (refine hK _ ?_; clear hK K) | exact auto_cl | skip)) | ((first | apply cw_ite | apply cw_iteN); (case hf => rfl); (case hc => exact ev_a); (all_goals first | (intro hb; (try simp only [hbs] at hb)) | skip)) | exact atN_intro | (refine if_a (fun hb => ?_) (fun hb => ?_); (all_goals (try first | with_reducible exact True.intro | (exfalso; omega)))) | refine cw_blocks (fun KB hB => ?_) | (refine hB _ ?_; clear hB KB) | refine exit_by (S := Sg) (by assumption) ?_ | (refine ret_a ?_; (try clear hB KB); (try clear hK K)))
            refine hK _ trivial ?_
            clear hK
            have hfr : ((l.length : Int) == 0 || ((l ++ jk).getD ((l.length : Int) - 1).toNat default).isolated && !((l ++ jk).getD ((l.length : Int) - 1).toNat default).knockout) = ctxOk l := by
              cases hl0 : l with
              | nil => rfl
              | cons a r =>
                rw [← hl0]
                have hpos : 0 < l.length := by rw [hl0]; simp
                have e1 : ((l.length : Int) - 1).toNat = l.length - 1 := by omega
                have e2 : (l ++ jk).getD (l.length - 1) default = l.getD (l.length - 1) default := by
                  rw [List.getD_eq_getElem?_getD, List.getD_eq_getElem?_getD, List.getElem?_append_left (by omega)]
                have e3 : ((l.length : Int) == 0) = false := beq_eq_false_iff_ne.2 (by omega)
                have e4 : l.isEmpty = false := by rw [hl0]; rfl
                rw [e1, e2, e3, ctxOk, e4]
            generalize hO : gOp (s.ops.getD i default) (decide ((s.ops.getD i default).kind % 8 < 3)) (gImages s).length (gCanvas s).x0 (gCanvas s).y0 (ctxOk l) (gMax s.bits) = O at *
            by_cases hp : (s.ops.getD i default).kind % 8 < 3
            · have gk : ∀ f x y, ((gOp (s.ops.getD i default) (decide ((s.ops.getD i default).kind % 8 < 3)) (gImages s).length x y f (gMax s.bits)).kind == 2) = true := fun f x y => by rw [decide_eq_true hp]; rfl
              repeat' (first | with_reducible exact tr_a | refine dec_a gk ?_ | refine un_a ?_ | ((first | refine st_a (fun K hK => ?_) | refine rg_a ?_); (repeat' (refine And.intro ?_ ?_)); (all_goals first | (refine hK _ ?_; clear hK K) | exact auto_cl | skip)) | ((first | apply cw_ite | apply cw_iteN); (case hf => rfl); (case hc => exact ev_a); (all_goals first | (intro hb; (try simp only [hbs] at hb)) | skip)) | exact atN_intro | (refine if_a (fun hb => ?_) (fun hb => ?_); (all_goals (try first | with_reducible exact True.intro | (exfalso; omega)))) | refine cw_blocks (fun KB hB => ?_) | (refine hB _ ?_; clear hB KB) | refine exit_by (S := Sg) (by assumption) ?_ | (refine ret_a ?_; (try clear hB KB); (try clear hK K)))
              rw [thenQ_normal]
              simp only [hfr, Int.toNat_natCast, hO]
              refine wk_loop (i + 1, ops ++ [O], l ++ [O], []) ?_ ⟨by dsimp only; omega, by dsimp only; omega, hstep hc.1 _ (by rw [gStep, if_neg hk0, if_pos hp]; dsimp only; rw [hO]), by simp; omega, by simp; omega⟩ (by dsimp only; omega)
              simp only [List.append_nil, List.length_nil, Nat.add_zero]
              refine le_a [(1, some 1), (2, some 2), (3, some 7), (4, some 9)] ?_ ?_
              repeat' (refine And.intro ?_ ?_)
              all_goals first | exact le_cl | skip
              · simp
              · simp
              · simp
              · refine .inr fun a ha j hj => arr_push (fun j hj => ?_) a ha j hj
                have hivl : j = 0 ∨ j = 1 ∨ j = 2 ∨ j = 3 ∨ j = 4 ∨ j = 5 ∨ j = 6 ∨ j = 7 ∨ j = 8 ∨ j = 9 ∨ j = 10 ∨ j = 11 := by omega
                rcases hivl with rfl | rfl | rfl | rfl | rfl | rfl | rfl | rfl | rfl | rfl | rfl | rfl <;> rfl
              · simp
              · refine .inr fun a ha j hj => arr_push_junk (fun j hj => ?_) a ha j hj
                have hivl : j = 0 ∨ j = 1 ∨ j = 2 ∨ j = 3 ∨ j = 4 ∨ j = 5 ∨ j = 6 ∨ j = 7 ∨ j = 8 ∨ j = 9 ∨ j = 10 ∨ j = 11 := by omega
                rcases hivl with rfl | rfl | rfl | rfl | rfl | rfl | rfl | rfl | rfl | rfl | rfl | rfl <;> rfl
            · have gk : ∀ f x y, ((gOp (s.ops.getD i default) (decide ((s.ops.getD i default).kind % 8 < 3)) (gImages s).length x y f (gMax s.bits)).kind == 2) = false := fun f x y => by rw [decide_eq_false hp]; rfl
              repeat' (first | with_reducible exact tr_a | refine dec_a gk ?_ | refine un_a ?_ | ((first | refine st_a (fun K hK => ?_) | refine rg_a ?_); (repeat' (refine And.intro ?_ ?_)); (all_goals first | (refine hK _ ?_; clear hK K) | exact auto_cl | skip)) | ((first | apply cw_ite | apply cw_iteN); (case hf => rfl); (case hc => exact ev_a); (all_goals first | (intro hb; (try simp only [hbs] at hb)) | skip)) | exact atN_intro | (refine if_a (fun hb => ?_) (fun hb => ?_); (all_goals (try first | with_reducible exact True.intro | (exfalso; omega)))) | refine cw_blocks (fun KB hB => ?_) | (refine hB _ ?_; clear hB KB) | refine exit_by (S := Sg) (by assumption) ?_ | (refine ret_a ?_; (try clear hB KB); (try clear hK K)))
              rw [thenQ_normal]
              simp only [hfr, Int.toNat_natCast, hO]
              refine wk_loop (i + 1, ops ++ [O], l, jk) ?_ ⟨by dsimp only; omega, by dsimp only; omega, hstep hc.1 _ (by rw [gStep, if_neg hk0, if_neg hp]; dsimp only; rw [hO]), by simp; omega, by dsimp only; omega⟩ (by dsimp only; omega)
              dsimp only
              refine le_a [(1, some 1), (2, some 2), (3, some 7), (4, some 4)] ?_ ?_
              repeat' (refine And.intro ?_ ?_)
              all_goals first | exact le_cl | skip
              · simp
              · simp
              · refine .inr fun a ha j hj => arr_push (fun j hj => ?_) a ha j hj
                have hivl : j = 0 ∨ j = 1 ∨ j = 2 ∨ j = 3 ∨ j = 4 ∨ j = 5 ∨ j = 6 ∨ j = 7 ∨ j = 8 ∨ j = 9 ∨ j = 10 ∨ j = 11 := by omega
                rcases hivl with rfl | rfl | rfl | rfl | rfl | rfl | rfl | rfl | rfl | rfl | rfl | rfl <;> rfl
        · repeat' (first | with_reducible exact tr_a | refine un_a ?_ | ((first | refine st_a (fun K hK => ?_) | refine rg_a ?_); (repeat' (refine And.intro ?_ ?_)); (all_goals first | (refine hK _ ?_; clear hK K) | exact auto_cl | skip)) | ((first | apply cw_ite | apply cw_iteN); (case hf => rfl); (case hc => exact ev_a); (all_goals first | (intro hb; (try simp only [hbs] at hb)) | skip)) | exact atN_intro | (refine if_a (fun hb => ?_) (fun hb => ?_); (all_goals (try first | with_reducible exact True.intro | (exfalso; omega)))) | refine cw_blocks (fun KB hB => ?_) | (refine hB _ ?_; clear hB KB) | refine exit_by (S := Sg) (by assumption) ?_ | (refine ret_a ?_; (try clear hB KB); (try clear hK K)))
          have hc2 : i = s.ops.length ∨ i = 9 := by omega
          have hfin : gOps s = (ops, l) := by
            rw [gOps, ← hf]
            rcases hc2 with h | h
            · rw [h, List.take_of_length_le (Nat.le_refl _), List.take_of_length_le (by omega)]
            · rw [h]
          refine hV2 _ (mkSt [(1, .b (.c (.ptr 0 0))), (2, .b (.c (.ptr 1 0))), (4, .b (.c (.ptr 2 0))), (13, .b (.c (.own 4 l.length)))]
            [(0, .fix ((sceneE s).map CV.p)), (1, .fix ((List.range 10).map fun _ => CV.p .any)), (2, .fix [.p (PI (gScript s).bits), .p (PI (gCanvas s).x0), .p (PI (gCanvas s).y0), .p (PI (gCanvas s).x1), .p (PI (gCanvas s).y1), .p (PI (gTileW s)), .p (PI (gTileH s)), .p (ints (gScript s).order), .p (imgL (gImages s)), .own 3 ops.length]),
             (3, .arr 73 12 ops.length (fnOf opE ops)), (4, .arr 73 12 (l.length + jk.length) (fnOf opE (l ++ jk)))] 5) ?_ ?_
          · refine le_a [(1, some 1), (2, some 2), (3, some 3), (4, some 4)] ?_ ?_
            repeat' (refine And.intro ?_ ?_)
            all_goals first | exact le_cl | skip
          clear hV2 hraw hstep hf
          refine cw_assoc ?_
          refine cw_step fun K hK => ?_
          simp (maxSteps := 1000000) (disch := omega) only [go_sem]
          repeat' (refine And.intro ?_ ?_)
          all_goals first | (refine hK _ ?_; clear hK K) | exact auto_cl | skip
          refine cw_blocks fun KB3 hB3 => ?_
          refine cw_loop (X := Nat) (fun k => mkSt [(1, .b (.c (.ptr 0 0))), (2, .b (.c (.ptr 1 0))), (4, .b (.c (.ptr 2 0))), (13, .b (.c (.own 4 l.length))), (19, .b (I k))]
            [(0, .fix ((sceneE s).map CV.p)), (1, .fix ((List.range 10).map fun _ => CV.p .any)), (2, .fix [.p (PI (gScript s).bits), .p (PI (gCanvas s).x0), .p (PI (gCanvas s).y0), .p (PI (gCanvas s).x1), .p (PI (gCanvas s).y1), .p (PI (gTileW s)), .p (PI (gTileH s)), .p (ints (gScript s).order), .p (imgL (gImages s)), .own 3 (ops.length + k)]),
             (3, .arr 73 12 (ops.length + k) (fnOf opE (ops ++ List.replicate k popOp))), (4, .arr 73 12 (l.length + jk.length) (fnOf opE (l ++ jk)))] 5) (fun k => k ≤ l.length) (fun k => l.length - k) 0 ?_ ?_ ?_
          · omega
          · refine le_a [(1, some 1), (2, some 2), (3, some 3), (4, some 4)] ?_ ?_
            repeat' (refine And.intro ?_ ?_)
            all_goals first | exact le_cl | skip
            exact .inl (by rw [List.replicate_zero, List.append_nil])
          · intro k hk
            repeat' (first | with_reducible exact tr_a | refine un_a ?_ | ((first | refine st_a (fun K hK => ?_) | refine rg_a ?_); (repeat' (refine And.intro ?_ ?_)); (all_goals first | (refine hK _ ?_; clear hK K) | exact auto_cl | skip)) | ((first | apply cw_ite | apply cw_iteN); (case hf => rfl); (case hc => exact ev_a); (all_goals first | (intro hb; (try simp only [hbs] at hb)) | skip)) | exact atN_intro | (refine if_a (fun hb => ?_) (fun hb => ?_); (all_goals (try first | with_reducible exact True.intro | (exfalso; omega)))) | refine cw_blocks (fun KB hB => ?_) | (refine hB _ ?_; clear hB KB) | refine exit_by (S := Sg) (by assumption) ?_ | (refine ret_a ?_; (try clear hB KB); (try clear hK K)))
            · rw [thenQ_normal]
              refine wk_loop (k + 1) ?_ (by omega) (by omega)
              have hl1 : (ops ++ List.replicate k popOp).length = ops.length + k := by simp
              have he : (ops ++ List.replicate k popOp) ++ [popOp] = ops ++ List.replicate (k + 1) popOp := by rw [List.append_assoc, List.replicate_succ']
              refine le_a [(1, some 1), (2, some 2), (3, some 6), (4, some 4)] ?_ ?_
              repeat' (refine And.intro ?_ ?_)
              all_goals first | exact le_cl | skip
              have key := fun g hg => arr_push (enc := opE) (xs := ops ++ List.replicate k popOp) (x := popOp) (s := 12) (g := g) hg
              simp only [hl1, he] at key
              refine .inr (key _ fun j hj => ?_)
              have hivl : j = 0 ∨ j = 1 ∨ j = 2 ∨ j = 3 ∨ j = 4 ∨ j = 5 ∨ j = 6 ∨ j = 7 ∨ j = 8 ∨ j = 9 ∨ j = 10 ∨ j = 11 := by omega
              rcases hivl with rfl | rfl | rfl | rfl | rfl | rfl | rfl | rfl | rfl | rfl | rfl | rfl <;> rfl
            · have hk2 : k = l.length := by omega
              have e2 : ops ++ List.replicate k popOp = (gScript s).ops := by
                rw [hk2]
                show _ = (gOps s).1 ++ List.replicate (gOps s).2.length popOp
                rw [hfin]
              have e1 : ops.length + k = (gScript s).ops.length := by rw [← e2]; simp
              rw [e1, e2]
              refine ⟨⟨_, rfl, rfl, fun _ _ _ _ => PV.le_refl _⟩, ?_⟩
              repeat' (refine And.intro ?_ ?_)
              all_goals first | exact .inl rfl | trivial | skip
theorem gscript_spec (s : Scene) (hs : SceneOk s) : Pure Sg 13 [ag (sceneE s)] (fun r => r = .b (ag (scriptE (gScript s)))) :=
  pure_ownK (gscript_own s hs) rfl
end Go.Proofs.YtbpplplnkgmhlaaGreatDoor

/- Bias: the walk. -/
set_option maxHeartbeats 2000000
set_option maxRecDepth 16000
namespace Go.Proofs.YtbpplplnkgmhlaaGreatDoor
open Go Go.SL
open Go.RowKit (wrap64)
attribute [local go_sem] Int.toNat_natCast zerosB

def bMost (b : Int) : Int := if b = 16 then 65535 else 255
def bMid (b : Int) : Int := IntKind.u16.wrap ((bMost b).tdiv 2)
def bW (s : Script) : Int := IntKind.i64.wrap (IntKind.i64.wrap (s.canvas.x1 - s.canvas.x0) + 2)
def bH (s : Script) : Int := IntKind.i64.wrap (IntKind.i64.wrap (s.canvas.y1 - s.canvas.y0) + 1)
def bCover (s : Script) : Image := solidOf (bW s) (bH s) ⟨bMid s.bits, 0, bMost s.bits, bMost s.bits, bMost s.bits⟩
def bDot (s : Script) : Image := solidOf 1 1 ⟨0, 0, 0, 0, bMost s.bits⟩
def bImgs (s : Script) : List Image := s.images ++ [bCover s, bDot s]
def bX (s : Script) (v : Int) : Int := IntKind.i64.wrap (s.canvas.x0 - gMod (IntKind.i64.wrap (v.tdiv 16)) 3)
def bOp (s : Script) (v : Int) (o : Op) : Op :=
  if o.kind = 3 then o
  else if gMod v 16 = 0 ∨ gMod v 16 = 1 then { o with mask := (bImgs s).length - 1, maskX := bX s v, maskY := s.canvas.y0 }
  else if gMod v 16 = 2 then { o with mask := (bImgs s).length, maskX := s.canvas.x0, maskY := s.canvas.y0 }
  else if gMod v 16 = 3 ∨ gMod v 16 = 4 then (if o.kind = 1 then { o with image := (bImgs s).length - 2, x := bX s v, y := s.canvas.y0, opacity := bMost s.bits, mask := 0, maskX := 0, maskY := 0, mode := 1 } else o)
  else if gMod v 16 = 5 ∨ gMod v 16 = 6 ∨ gMod v 16 = 7 then
    (if gMod (IntKind.i64.wrap (v.tdiv 16)) 2 = 0 then { o with opacity := bMost s.bits, mask := 0, maskX := 0, maskY := 0, mode := 1, operator := 4 } else { o with opacity := bMost s.bits, mask := 0, maskX := 0, maskY := 0 })
  else if gMod v 16 = 8 then { o with opacity := 0 }
  else o
def bAt (s : Script) (l : List Int) (i : Nat) : List Op := (List.range s.ops.length).map fun a => if a < i then bOp s (l.getD a 0) (opAt s.ops a) else opAt s.ops a
def biasM (s : Script) (l : List Int) : Script := { s with images := bImgs s, ops := bAt s l l.length }
theorem img_app {l : List Image} {c d : Image} {g : Nat → Nat → PV} (h0 : ∀ j, j < 28 → PV.le (g 0 j) ((imageE c).getD j .any)) (h1 : ∀ j, j < 28 → PV.le (g 1 j) ((imageE d).getD j .any)) : ∀ a, a < l.length + 2 → ∀ j, j < 28 → PV.le (appF l.length (fnOf imageE l) g a j) (fnOf imageE (l ++ [c, d]) a j) := fun a ha j hj => by
  unfold appF
  by_cases h : a < l.length
  · rw [if_pos h]
    have e : fnOf imageE l a j = fnOf imageE (l ++ [c, d]) a j := congrArg (fun o => (imageE o).getD j .any) (show l.getD a default = (l ++ [c, d]).getD a default by rw [List.getD_eq_getElem?_getD, List.getD_eq_getElem?_getD, List.getElem?_append_left h])
    rw [e]; exact fun _ _ _ h => h
  · rw [if_neg h]
    have hv : a = l.length ∨ a = l.length + 1 := by omega
    rcases hv with rfl | rfl
    · have e : fnOf imageE (l ++ [c, d]) l.length j = (imageE c).getD j .any := congrArg (fun o => (imageE o).getD j .any) (show (l ++ [c, d]).getD l.length default = c by rw [List.getD_eq_getElem?_getD, List.getElem?_append_right (Nat.le_refl _), Nat.sub_self]; rfl)
      rw [e, Nat.sub_self]; exact h0 j hj
    · have e : fnOf imageE (l ++ [c, d]) (l.length + 1) j = (imageE d).getD j .any := congrArg (fun o => (imageE o).getD j .any) (show (l ++ [c, d]).getD (l.length + 1) default = d by rw [List.getD_eq_getElem?_getD, List.getElem?_append_right (by omega), Nat.add_sub_cancel_left]; rfl)
      rw [e, Nat.add_sub_cancel_left]; exact h1 j hj
theorem bAt_len (s : Script) (l : List Int) (i : Nat) : (bAt s l i).length = s.ops.length := by rw [bAt, List.length_map, List.length_range]
theorem bAt_at (s : Script) (l : List Int) (i : Nat) {a : Nat} (h : a < s.ops.length) : (bAt s l i).getD a default = if a < i then bOp s (l.getD a 0) (opAt s.ops a) else opAt s.ops a := by
  rw [bAt, List.getD_eq_getElem?_getD, List.getElem?_map, List.getElem?_range h]; rfl
theorem fn_bAt (s : Script) (l : List Int) (i j : Nat) {a : Nat} (h : a < s.ops.length) : fnOf opE (bAt s l i) a j = (opE (if a < i then bOp s (l.getD a 0) (opAt s.ops a) else opAt s.ops a)).getD j .any := congrArg (fun o => (opE o).getD j .any) (bAt_at s l i h)
theorem bstep (s : Script) (l : List Int) (i j : Nat) {a : Nat} (h : a < s.ops.length) : fnOf opE (bAt s l (i + 1)) a j = if a = i then (opE (bOp s (l.getD i 0) (opAt s.ops i))).getD j .any else fnOf opE (bAt s l i) a j := by
  rw [fn_bAt s l (i + 1) j h, fn_bAt s l i j h]
  by_cases e : a = i
  · rw [if_pos e, if_pos (by omega), e]
  · rw [if_neg e]
    by_cases h2 : a < i
    · rw [if_pos h2, if_pos (by omega)]
    · rw [if_neg h2, if_neg (by omega)]
theorem bAt_end (s : Script) (l : List Int) {i : Nat} (h : i = s.ops.length ∨ i = l.length) (h2 : i ≤ l.length) : bAt s l i = bAt s l l.length := by
  rcases h with h | h
  · refine List.map_congr_left fun a ha => ?_
    rw [List.mem_range] at ha
    rw [if_pos (by omega), if_pos (by omega)]
  · rw [h]
def scrO8 (s : Script) : List (Option PV) := [some (PI s.bits), some (PI s.canvas.x0), some (PI s.canvas.y0), some (PI s.canvas.x1), some (PI s.canvas.y1), some (PI s.tileW), some (PI s.tileH), some (ints s.order), none, some (opL s.ops)]
attribute [local go_sem] scrO8
theorem bias_own (s : Script) (l : List Int) (hs : ScriptLen s) (hl : l.length ≤ 4611686018427387904) (ho : s.ops.length ≤ 4096) (hi : s.images.length ≤ 4096) :
    PureOwnK Sg 23 [ag (scriptE s), .c (.p (ints l))] (scrO8 (biasM s l)) 8 79 28 (biasM s l).images.length (fnOf imageE (biasM s l).images) := by
  have hsol := solid_spec (bW s) (bH s) ⟨bMid s.bits, 0, bMost s.bits, bMost s.bits, bMost s.bits⟩
  have hdot := solid_spec 1 1 ⟨0, 0, 0, 0, bMost s.bits⟩
  refine ownK_of Tryz.func23 rfl (rs := [.cell 4 36]) rfl rfl mixed (by decide +kernel) (Nat.le_of_ble_eq_true rfl) (argsLt_mem (by simp (maxSteps := 1000000) (disch := omega) only [go_sem])) ?_
  repeat' (first | with_reducible exact tr_a | refine un_a ?_ | ((with_reducible refine cw_stepV (id := 3) (fun K hW => ?_)); (try simp (maxSteps := 1000000) (disch := omega) only [go_sem]); (repeat' (refine And.intro ?_ ?_)); (all_goals first | (refine hK _ ?_; clear hK K) | exact auto_cl | skip)) | ((first | refine st_a (fun K hK => ?_) | refine rg_a ?_); (repeat' (refine And.intro ?_ ?_)); (all_goals first | (refine hK _ ?_; clear hK K) | exact auto_cl | skip)) | ((first | apply cw_ite | apply cw_iteN); (case hf => rfl); (case hc => exact ev_a); (all_goals first | (intro hb; (try simp only [hbs] at hb)) | skip)) | exact atN_intro | (refine if_a (fun hb => ?_) (fun hb => ?_); (all_goals (try first | with_reducible exact True.intro | (exfalso; omega)))) | refine cw_blocks (fun KB hB => ?_) | (refine hB _ ?_; clear hB KB) | refine exit_by (S := Sg) (by assumption) ?_ | (refine ret_a ?_; (try clear hB KB); (try clear hK K)))
  refine hW _ (mkSt [(1, .b (.c (.p (ints l)))), (2, .b (.c (.ptr 0 0))), (4, .b (.c (.ptr 1 0))), (5, .b (U 255))] [(0, .fix [.p (PI s.bits), .p (PI s.canvas.x0), .p (PI s.canvas.y0), .p (PI s.canvas.x1), .p (PI s.canvas.y1), .p (PI s.tileW), .p (PI s.tileH), .p (ints s.order), .own 3 s.images.length, .own 2 s.ops.length]), (1, zerosB), (2, .arr 73 12 s.ops.length (fnOf opE s.ops)), (3, .arr 79 28 s.images.length (fnOf imageE s.images))] 4) ?_ ?_
  · refine le_a [(1, some 1), (2, some 2), (3, some 3)] ?_ ?_
    repeat' (refine And.intro ?_ ?_)
    all_goals first | exact le_cl | skip
  clear hW
  refine cw_assoc ?_
  refine cw_step fun K hK => ?_
  simp (maxSteps := 1000000) (disch := omega) only [go_sem]
  repeat' (refine And.intro ?_ ?_)
  all_goals first | (refine hK _ ?_; clear hK K) | exact auto_cl | skip
  refine cw_ifM (t := (s.bits == 16)) (mkSt [(1, .b (.c (.p (ints l)))), (2, .b (.c (.ptr 0 0))), (4, .b (.c (.ptr 1 0))), (5, .b (U (bMost s.bits)))] [(0, .fix [.p (PI s.bits), .p (PI s.canvas.x0), .p (PI s.canvas.y0), .p (PI s.canvas.x1), .p (PI s.canvas.y1), .p (PI s.tileW), .p (PI s.tileH), .p (ints s.order), .own 3 s.images.length, .own 2 s.ops.length]), (1, zerosB), (2, .arr 73 12 s.ops.length (fnOf opE s.ops)), (3, .arr 79 28 s.images.length (fnOf imageE s.images))] 4) ?_ ?_ ?_ ?_
  · simp (maxSteps := 1000000) (disch := omega) only [go_sem]
  · intro hb
    rw [beq_iff_eq] at hb
    rw [show bMost s.bits = 65535 from if_pos hb]
    repeat' (first | with_reducible exact tr_a | refine un_a ?_ | ((first | refine st_a (fun K hK => ?_) | refine rg_a ?_); (repeat' (refine And.intro ?_ ?_)); (all_goals first | (refine hK _ ?_; clear hK K) | exact auto_cl | skip)) | ((first | apply cw_ite | apply cw_iteN); (case hf => rfl); (case hc => exact ev_a); (all_goals first | (intro hb; (try simp only [hbs] at hb)) | skip)) | exact atN_intro | (refine if_a (fun hb => ?_) (fun hb => ?_); (all_goals (try first | with_reducible exact True.intro | (exfalso; omega)))) | refine cw_blocks (fun KB hB => ?_) | (refine hB _ ?_; clear hB KB) | refine exit_by (S := Sg) (by assumption) ?_ | (refine ret_a ?_; (try clear hB KB); (try clear hK K)))
    rw [thenQ_normal]
    refine ⟨_, ?_, rfl⟩
    refine le_a [(1, some 1), (2, some 2), (3, some 3)] ?_ ?_
    repeat' (refine And.intro ?_ ?_)
    all_goals first | exact le_cl | skip
  · intro hb
    rw [beq_eq_false_iff_ne] at hb
    rw [show bMost s.bits = 255 from if_neg hb]
    repeat' (first | with_reducible exact tr_a | refine un_a ?_ | ((first | refine st_a (fun K hK => ?_) | refine rg_a ?_); (repeat' (refine And.intro ?_ ?_)); (all_goals first | (refine hK _ ?_; clear hK K) | exact auto_cl | skip)) | ((first | apply cw_ite | apply cw_iteN); (case hf => rfl); (case hc => exact ev_a); (all_goals first | (intro hb; (try simp only [hbs] at hb)) | skip)) | exact atN_intro | (refine if_a (fun hb => ?_) (fun hb => ?_); (all_goals (try first | with_reducible exact True.intro | (exfalso; omega)))) | refine cw_blocks (fun KB hB => ?_) | (refine hB _ ?_; clear hB KB) | refine exit_by (S := Sg) (by assumption) ?_ | (refine ret_a ?_; (try clear hB KB); (try clear hK K)))
    refine ⟨_, ?_, rfl⟩
    refine le_a [(1, some 1), (2, some 2), (3, some 3)] ?_ ?_
    repeat' (refine And.intro ?_ ?_)
    all_goals first | exact le_cl | skip
  repeat' (first | with_reducible exact tr_a | refine un_a ?_ | ((with_reducible refine cw_stepV (id := 7) (fun K hW => ?_)); (try simp (maxSteps := 1000000) (disch := omega) only [go_sem]); (repeat' (refine And.intro ?_ ?_)); (all_goals first | (refine hK _ ?_; clear hK K) | exact auto_cl | skip)) | ((first | refine st_a (fun K hK => ?_) | refine rg_a ?_ | refine call_c (hsol) ?_ | refine gcall_c (fun hg => hsol) ?_); (repeat' (refine And.intro ?_ ?_)); (all_goals first | (refine hK _ ?_; clear hK K) | exact auto_cl | skip)) | ((first | apply cw_ite | apply cw_iteN); (case hf => rfl); (case hc => exact ev_a); (all_goals first | (intro hb; (try simp only [hbs] at hb)) | skip)) | exact atN_intro | (refine if_a (fun hb => ?_) (fun hb => ?_); (all_goals (try first | with_reducible exact True.intro | (exfalso; omega)))) | refine cw_blocks (fun KB hB => ?_) | (refine hB _ ?_; clear hB KB) | refine exit_by (S := Sg) (by assumption) ?_ | (refine ret_a ?_; (try clear hB KB); (try clear hK K)))
  refine hW _ (mkSt [(1, .b (.c (.p (ints l)))), (2, .b (.c (.ptr 0 0))), (4, .b (.c (.ptr 1 0))), (5, .b (U (bMost s.bits))), (8, .b (.c (.ptr 4 0)))] [(0, .fix [.p (PI s.bits), .p (PI s.canvas.x0), .p (PI s.canvas.y0), .p (PI s.canvas.x1), .p (PI s.canvas.y1), .p (PI s.tileW), .p (PI s.tileH), .p (ints s.order), .own 3 s.images.length, .own 2 s.ops.length]), (1, zerosB), (2, .arr 73 12 s.ops.length (fnOf opE s.ops)), (3, .arr 79 28 s.images.length (fnOf imageE s.images)), (4, .fix ((imageE (bCover s)).map CV.p))] 5) ?_ ?_
  · refine le_a [(1, some 1), (2, some 2), (3, some 3), (4, some 4)] ?_ ?_
    repeat' (refine And.intro ?_ ?_)
    all_goals first | exact le_cl | skip
  clear hW
  refine cw_stepR (id := 8) (.br 0 (.br 3 (.br 4 (.br 1 (.br 2 (.br 5 (.br 6 (.br 7 (.br 8 (.br 9 .leaf .nil) .nil) .nil) .nil) .nil) (.br 5 (.br 2 (.br 6 (.br 7 (.br 8 (.br 9 .leaf .nil) .nil) .nil) .nil) .nil) .nil)) (.br 2 (.br 1 (.br 5 (.br 6 (.br 7 (.br 8 (.br 9 .leaf .nil) .nil) .nil) .nil) .nil) (.br 5 (.br 1 (.br 6 (.br 7 (.br 8 (.br 9 .leaf .nil) .nil) .nil) .nil) .nil) .nil)) (.br 5 (.br 1 (.br 2 (.br 6 (.br 7 (.br 8 (.br 9 .leaf .nil) .nil) .nil) .nil) .nil) .nil) .nil))) .nil) .nil) .nil) (by decide +kernel) (by exact wf_a) (fun K0 hW => ?_)
  refine (fun (tl : ∀ st, Le st (mkSt [(1, .b (.c (.p (ints l)))), (2, .b (.c (.ptr 0 0))), (4, .b (.c (.ptr 1 0))), (5, .b (U (bMost s.bits)))] [(0, .fix [.p (PI s.bits), .p (PI s.canvas.x0), .p (PI s.canvas.y0), .p (PI s.canvas.x1), .p (PI s.canvas.y1), .p (PI s.tileW), .p (PI s.tileH), .p (ints s.order), .own 3 (s.images.length + 2), .own 2 s.ops.length]), (1, zerosB), (2, .arr 73 12 s.ops.length (fnOf opE s.ops)), (3, .arr 79 28 (s.images.length + 2) (fnOf imageE (bImgs s)))] 4) → K0 st) => ?_) (fun st hl => hW st _ hl ?_)
  · clear hW
    repeat' (first | exact tree_nil | (refine tree_br (fun K' hK' => ?_) ?_) | (refine tree_leaf (tl _ ?_); clear tl) | ((first | refine call_c (hdot) ?_ | refine gcall_c (fun hg => hdot) ?_); (try simp (maxSteps := 1000000) (disch := omega) only [go_sem]); (repeat' (refine And.intro ?_ ?_)); (all_goals first | (refine hK' _ ?_; clear hK' K') | trivial | omega | exact Nat.le_of_ble_eq_true rfl | exact auto_cl | skip)) | (simp (maxSteps := 1000000) (disch := omega) only [go_sem]; (repeat' (refine And.intro ?_ ?_)); (all_goals first | (refine hK' _ ?_; clear hK' K') | trivial | omega | exact Nat.le_of_ble_eq_true rfl | exact auto_cl | skip)))
    all_goals
      refine le_a [(1, some 1), (2, some 2), (3, some 6)] ?_ ?_
      repeat' (refine And.intro ?_ ?_)
      all_goals first | exact le_cl | skip
    all_goals
      refine .inr (img_app (fun j hj => ?_) (fun j hj => ?_))
      · skip
        have hivl : j = 0 ∨ j = 1 ∨ j = 2 ∨ j = 3 ∨ j = 4 ∨ j = 5 ∨ j = 6 ∨ j = 7 ∨ j = 8 ∨ j = 9 ∨ j = 10 ∨ j = 11 ∨ j = 12 ∨ j = 13 ∨ j = 14 ∨ j = 15 ∨ j = 16 ∨ j = 17 ∨ j = 18 ∨ j = 19 ∨ j = 20 ∨ j = 21 ∨ j = 22 ∨ j = 23 ∨ j = 24 ∨ j = 25 ∨ j = 26 ∨ j = 27 := by omega
        rcases hivl with rfl | rfl | rfl | rfl | rfl | rfl | rfl | rfl | rfl | rfl | rfl | rfl | rfl | rfl | rfl | rfl | rfl | rfl | rfl | rfl | rfl | rfl | rfl | rfl | rfl | rfl | rfl | rfl <;> (first | exact fun _ _ _ h => h | exact nil_le)
      · skip
        have hivl : j = 0 ∨ j = 1 ∨ j = 2 ∨ j = 3 ∨ j = 4 ∨ j = 5 ∨ j = 6 ∨ j = 7 ∨ j = 8 ∨ j = 9 ∨ j = 10 ∨ j = 11 ∨ j = 12 ∨ j = 13 ∨ j = 14 ∨ j = 15 ∨ j = 16 ∨ j = 17 ∨ j = 18 ∨ j = 19 ∨ j = 20 ∨ j = 21 ∨ j = 22 ∨ j = 23 ∨ j = 24 ∨ j = 25 ∨ j = 26 ∨ j = 27 := by omega
        rcases hivl with rfl | rfl | rfl | rfl | rfl | rfl | rfl | rfl | rfl | rfl | rfl | rfl | rfl | rfl | rfl | rfl | rfl | rfl | rfl | rfl | rfl | rfl | rfl | rfl | rfl | rfl | rfl | rfl <;> (first | exact fun _ _ _ h => h | exact nil_le)
  clear hW
  repeat' (first | with_reducible exact tr_a | refine un_a ?_ | ((first | refine st_a (fun K hK => ?_) | refine rg_a ?_); (repeat' (refine And.intro ?_ ?_)); (all_goals first | (refine hK _ ?_; clear hK K) | exact auto_cl | skip)) | ((first | apply cw_ite | apply cw_iteN); (case hf => rfl); (case hc => exact ev_a); (all_goals first | (intro hb; (try simp only [hbs] at hb)) | skip)) | exact atN_intro | (refine if_a (fun hb => ?_) (fun hb => ?_); (all_goals (try first | with_reducible exact True.intro | (exfalso; omega)))) | refine cw_blocks (fun KB hB => ?_) | (refine hB _ ?_; clear hB KB) | refine exit_by (S := Sg) (by assumption) ?_ | (refine ret_a ?_; (try clear hB KB); (try clear hK K)))
  refine cw_loop (X := Nat) (fun i => mkSt [(1, .b (.c (.p (ints l)))), (2, .b (.c (.ptr 0 0))), (4, .b (.c (.ptr 1 0))), (5, .b (U (bMost s.bits))), (9, .b (I (s.images.length + 2))), (10, .b (I i))] [(0, .fix [.p (PI s.bits), .p (PI s.canvas.x0), .p (PI s.canvas.y0), .p (PI s.canvas.x1), .p (PI s.canvas.y1), .p (PI s.tileW), .p (PI s.tileH), .p (ints s.order), .own 3 (s.images.length + 2), .own 2 s.ops.length]), (1, zerosB), (2, .arr 73 12 s.ops.length (fnOf opE (bAt s l i))), (3, .arr 79 28 (s.images.length + 2) (fnOf imageE (bImgs s)))] 4)
    (fun i => i ≤ s.ops.length ∧ i ≤ l.length) (fun i => s.ops.length - i) 0 ?_ ?_ ?_
  · exact ⟨Nat.zero_le _, Nat.zero_le _⟩
  · refine le_a [(1, some 1), (2, some 2), (3, some 3)] ?_ ?_
    repeat' (refine And.intro ?_ ?_)
    all_goals first | exact le_cl | skip
    refine .inr fun a ha j hj => ?_
    show PV.le (fnOf opE s.ops a j) (fnOf opE (bAt s l 0) a j)
    rw [fn_bAt s l 0 j ha, if_neg (Nat.not_lt_zero a)]
    exact fun _ _ _ h => h
  · rintro i ⟨hi1, hi2⟩
    have hend : ∀ i, (i = s.ops.length ∨ i = l.length) → i ≤ l.length → bAt s l i = bAt s l l.length := fun i h h2 => bAt_end s l h h2
    rcases Nat.lt_or_ge i s.ops.length with hlt | hge
    · rcases Nat.lt_or_ge i l.length with hll | hgl
      · have hoi : (bAt s l i).getD i default = opAt s.ops i := by rw [bAt_at s l i hlt, if_neg (Nat.lt_irrefl i)]
        have hbl : (bImgs s).length = s.images.length + 2 := by rw [bImgs, List.length_append]; rfl
        by_cases hk3 : (opAt s.ops i).kind = 3
        · have hq : (((bAt s l i).getD i default).kind == 3) = true := by rw [hoi]; exact beq_iff_eq.2 hk3
          have hop : bOp s (l.getD i 0) (opAt s.ops i) = opAt s.ops i := if_pos hk3
          repeat' (first | with_reducible exact tr_a | refine dec_a hq ?_ | refine un_a ?_ | ((first | refine st_a (fun K hK => ?_) | refine rg_a ?_ | refine call_c (mod_spec (l.getD i 0) 16 (by omega)) ?_ | refine gcall_c (fun hg => mod_spec (l.getD i 0) 16 (by omega)) ?_ | refine call_c (mod_spec (IntKind.i64.wrap ((l.getD i 0).tdiv 16)) 3 (by omega)) ?_ | refine gcall_c (fun hg => mod_spec (IntKind.i64.wrap ((l.getD i 0).tdiv 16)) 3 (by omega)) ?_ | refine call_c (mod_spec (IntKind.i64.wrap ((l.getD i 0).tdiv 16)) 2 (by omega)) ?_ | refine gcall_c (fun hg => mod_spec (IntKind.i64.wrap ((l.getD i 0).tdiv 16)) 2 (by omega)) ?_); (repeat' (refine And.intro ?_ ?_)); (all_goals first | (refine hK _ ?_; clear hK K) | exact auto_cl | skip)) | ((first | apply cw_ite | apply cw_iteN); (case hf => rfl); (case hc => exact ev_a); (all_goals first | (intro hb; (try simp only [hbs] at hb)) | skip)) | exact atN_intro | (refine if_a (fun hb => ?_) (fun hb => ?_); (all_goals (try first | with_reducible exact True.intro | (exfalso; omega)))) | refine cw_blocks (fun KB hB => ?_) | (refine hB _ ?_; clear hB KB) | refine exit_by (S := Sg) (by assumption) ?_ | (refine ret_a ?_; (try clear hB KB); (try clear hK K)))
          rw [thenQ_normal]
          refine wk_loop (i + 1) ?_ ⟨by omega, by omega⟩ (by omega)
          refine le_a [(1, some 1), (2, some 2), (3, some 3)] ?_ ?_
          repeat' (refine And.intro ?_ ?_)
          all_goals first | exact le_cl | skip
          refine .inr fun a ha j hj => ?_
          show PV.le _ (fnOf opE (bAt s l (i + 1)) a j)
          rw [bstep s l i j ha]
          by_cases e : a = i
          · rw [if_pos e, hop]
            simp only [e, hoi]
            have hivl : j = 0 ∨ j = 1 ∨ j = 2 ∨ j = 3 ∨ j = 4 ∨ j = 5 ∨ j = 6 ∨ j = 7 ∨ j = 8 ∨ j = 9 ∨ j = 10 ∨ j = 11 := by omega
            rcases hivl with rfl | rfl | rfl | rfl | rfl | rfl | rfl | rfl | rfl | rfl | rfl | rfl <;> exact fun _ _ _ h => h
          · rw [if_neg e]; exact fun _ _ _ h => h
        have hq : (((bAt s l i).getD i default).kind == 3) = false := by rw [hoi]; exact beq_eq_false_iff_ne.2 hk3
        have hbi : ((bImgs s).length : Int) = (s.images.length : Int) + 2 := by rw [hbl]; rfl
        have hv : gMod (l.getD i 0) 16 = 0 ∨ gMod (l.getD i 0) 16 = 1 ∨ gMod (l.getD i 0) 16 = 2 ∨ gMod (l.getD i 0) 16 = 3 ∨ gMod (l.getD i 0) 16 = 4 ∨ gMod (l.getD i 0) 16 = 5 ∨ gMod (l.getD i 0) 16 = 6 ∨ gMod (l.getD i 0) 16 = 7 ∨ gMod (l.getD i 0) 16 = 8 ∨
            (gMod (l.getD i 0) 16 ≠ 0 ∧ gMod (l.getD i 0) 16 ≠ 1 ∧ gMod (l.getD i 0) 16 ≠ 2 ∧ gMod (l.getD i 0) 16 ≠ 3 ∧ gMod (l.getD i 0) 16 ≠ 4 ∧ gMod (l.getD i 0) 16 ≠ 5 ∧ gMod (l.getD i 0) 16 ≠ 6 ∧ gMod (l.getD i 0) 16 ≠ 7 ∧ gMod (l.getD i 0) 16 ≠ 8) := by omega
        rcases hv with hm | hm | hm | hm | hm | hm | hm | hm | hm | ⟨n0, n1, n2, n3, n4, n5, n6, n7, n8⟩
        · have hop := show bOp s (l.getD i 0) (opAt s.ops i) = _ from (if_neg hk3).trans (if_pos (by omega))
          rw [hbi] at hop
          repeat' (first | with_reducible exact tr_a | refine dec_a (And.intro hq hm) ?_ | ((first | ((with_reducible refine cw_stepDK (id := 18) [(93, 4), (97, 3), (103, 4), (105, 8), (106, 8), (107, 8)] (by decide +kernel) (by decide +kernel) ?_ (fun K hK => ?_)); exact wf_a) | ((with_reducible refine cw_lastDK (id := 18) [(93, 4), (97, 3), (103, 4), (105, 8), (106, 8), (107, 8)] (by decide +kernel) (by decide +kernel) ?_ (fun K hK => ?_)); exact wf_a)); (try simp (maxSteps := 1000000) (disch := omega) only [go_sem]); (repeat' (refine And.intro ?_ ?_)); (all_goals first | (refine hK _ (by simp (maxSteps := 1000000) (disch := omega) only [go_sem]) ?_; clear hK K) | exact auto_cl | skip)) | refine un_a ?_ | ((first | refine st_a (fun K hK => ?_) | refine rg_a ?_ | refine call_c (mod_spec (l.getD i 0) 16 (by omega)) ?_ | refine gcall_c (fun hg => mod_spec (l.getD i 0) 16 (by omega)) ?_ | refine call_c (mod_spec (IntKind.i64.wrap ((l.getD i 0).tdiv 16)) 3 (by omega)) ?_ | refine gcall_c (fun hg => mod_spec (IntKind.i64.wrap ((l.getD i 0).tdiv 16)) 3 (by omega)) ?_ | refine call_c (mod_spec (IntKind.i64.wrap ((l.getD i 0).tdiv 16)) 2 (by omega)) ?_ | refine gcall_c (fun hg => mod_spec (IntKind.i64.wrap ((l.getD i 0).tdiv 16)) 2 (by omega)) ?_); (repeat' (refine And.intro ?_ ?_)); (all_goals first | (refine hK _ ?_; clear hK K) | exact auto_cl | skip)) | ((first | apply cw_ite | apply cw_iteN); (case hf => rfl); (case hc => exact ev_a); (all_goals first | (intro hb; (try simp only [hbs] at hb)) | skip)) | exact atN_intro | (refine if_a (fun hb => ?_) (fun hb => ?_); (all_goals (try first | with_reducible exact True.intro | (exfalso; omega)))) | refine cw_blocks (fun KB hB => ?_) | (refine hB _ ?_; clear hB KB) | refine exit_by (S := Sg) (by assumption) ?_ | (refine ret_a ?_; (try clear hB KB); (try clear hK K)))
          refine hK _ (by simp (maxSteps := 1000000) (disch := omega) only [go_sem]) ?_
          clear hK
          repeat' (first | with_reducible exact tr_a | refine dec_a (And.intro hq hm) ?_ | refine un_a ?_ | ((first | refine st_a (fun K hK => ?_) | refine rg_a ?_ | refine call_c (mod_spec (l.getD i 0) 16 (by omega)) ?_ | refine gcall_c (fun hg => mod_spec (l.getD i 0) 16 (by omega)) ?_ | refine call_c (mod_spec (IntKind.i64.wrap ((l.getD i 0).tdiv 16)) 3 (by omega)) ?_ | refine gcall_c (fun hg => mod_spec (IntKind.i64.wrap ((l.getD i 0).tdiv 16)) 3 (by omega)) ?_ | refine call_c (mod_spec (IntKind.i64.wrap ((l.getD i 0).tdiv 16)) 2 (by omega)) ?_ | refine gcall_c (fun hg => mod_spec (IntKind.i64.wrap ((l.getD i 0).tdiv 16)) 2 (by omega)) ?_); (repeat' (refine And.intro ?_ ?_)); (all_goals first | (refine hK _ ?_; clear hK K) | exact auto_cl | skip)) | ((first | apply cw_ite | apply cw_iteN); (case hf => rfl); (case hc => exact ev_a); (all_goals first | (intro hb; (try simp only [hbs] at hb)) | skip)) | exact atN_intro | (refine if_a (fun hb => ?_) (fun hb => ?_); (all_goals (try first | with_reducible exact True.intro | (exfalso; omega)))) | refine cw_blocks (fun KB hB => ?_) | (refine hB _ ?_; clear hB KB) | refine exit_by (S := Sg) (by assumption) ?_ | (refine ret_a ?_; (try clear hB KB); (try clear hK K)))
          rw [thenQ_normal]
          refine wk_loop (i + 1) ?_ ⟨by omega, by omega⟩ (by omega)
          refine le_a [(1, some 1), (2, some 2), (3, some 3)] ?_ ?_
          repeat' (refine And.intro ?_ ?_)
          all_goals first | exact le_cl | skip
          refine .inr fun a ha j hj => ?_
          show PV.le _ (fnOf opE (bAt s l (i + 1)) a j)
          rw [bstep s l i j ha]
          by_cases e : a = i
          · rw [if_pos e, if_pos e, hop]
            simp only [hoi]
            have hivl : j = 0 ∨ j = 1 ∨ j = 2 ∨ j = 3 ∨ j = 4 ∨ j = 5 ∨ j = 6 ∨ j = 7 ∨ j = 8 ∨ j = 9 ∨ j = 10 ∨ j = 11 := by omega
            rcases hivl with rfl | rfl | rfl | rfl | rfl | rfl | rfl | rfl | rfl | rfl | rfl | rfl <;> exact fun _ _ _ h => h
          · rw [if_neg e, if_neg e]; exact fun _ _ _ h => h
        · have hop := show bOp s (l.getD i 0) (opAt s.ops i) = _ from (if_neg hk3).trans (if_pos (by omega))
          rw [hbi] at hop
          repeat' (first | with_reducible exact tr_a | refine dec_a (And.intro hq hm) ?_ | ((first | ((with_reducible refine cw_stepDK (id := 18) [(93, 4), (97, 3), (103, 4), (105, 8), (106, 8), (107, 8)] (by decide +kernel) (by decide +kernel) ?_ (fun K hK => ?_)); exact wf_a) | ((with_reducible refine cw_lastDK (id := 18) [(93, 4), (97, 3), (103, 4), (105, 8), (106, 8), (107, 8)] (by decide +kernel) (by decide +kernel) ?_ (fun K hK => ?_)); exact wf_a)); (try simp (maxSteps := 1000000) (disch := omega) only [go_sem]); (repeat' (refine And.intro ?_ ?_)); (all_goals first | (refine hK _ (by simp (maxSteps := 1000000) (disch := omega) only [go_sem]) ?_; clear hK K) | exact auto_cl | skip)) | refine un_a ?_ | ((first | refine st_a (fun K hK => ?_) | refine rg_a ?_ | refine call_c (mod_spec (l.getD i 0) 16 (by omega)) ?_ | refine gcall_c (fun hg => mod_spec (l.getD i 0) 16 (by omega)) ?_ | refine call_c (mod_spec (IntKind.i64.wrap ((l.getD i 0).tdiv 16)) 3 (by omega)) ?_ | refine gcall_c (fun hg => mod_spec (IntKind.i64.wrap ((l.getD i 0).tdiv 16)) 3 (by omega)) ?_ | refine call_c (mod_spec (IntKind.i64.wrap ((l.getD i 0).tdiv 16)) 2 (by omega)) ?_ | refine gcall_c (fun hg => mod_spec (IntKind.i64.wrap ((l.getD i 0).tdiv 16)) 2 (by omega)) ?_); (repeat' (refine And.intro ?_ ?_)); (all_goals first | (refine hK _ ?_; clear hK K) | exact auto_cl | skip)) | ((first | apply cw_ite | apply cw_iteN); (case hf => rfl); (case hc => exact ev_a); (all_goals first | (intro hb; (try simp only [hbs] at hb)) | skip)) | exact atN_intro | (refine if_a (fun hb => ?_) (fun hb => ?_); (all_goals (try first | with_reducible exact True.intro | (exfalso; omega)))) | refine cw_blocks (fun KB hB => ?_) | (refine hB _ ?_; clear hB KB) | refine exit_by (S := Sg) (by assumption) ?_ | (refine ret_a ?_; (try clear hB KB); (try clear hK K)))
          refine hK _ (by simp (maxSteps := 1000000) (disch := omega) only [go_sem]) ?_
          clear hK
          repeat' (first | with_reducible exact tr_a | refine dec_a (And.intro hq hm) ?_ | refine un_a ?_ | ((first | refine st_a (fun K hK => ?_) | refine rg_a ?_ | refine call_c (mod_spec (l.getD i 0) 16 (by omega)) ?_ | refine gcall_c (fun hg => mod_spec (l.getD i 0) 16 (by omega)) ?_ | refine call_c (mod_spec (IntKind.i64.wrap ((l.getD i 0).tdiv 16)) 3 (by omega)) ?_ | refine gcall_c (fun hg => mod_spec (IntKind.i64.wrap ((l.getD i 0).tdiv 16)) 3 (by omega)) ?_ | refine call_c (mod_spec (IntKind.i64.wrap ((l.getD i 0).tdiv 16)) 2 (by omega)) ?_ | refine gcall_c (fun hg => mod_spec (IntKind.i64.wrap ((l.getD i 0).tdiv 16)) 2 (by omega)) ?_); (repeat' (refine And.intro ?_ ?_)); (all_goals first | (refine hK _ ?_; clear hK K) | exact auto_cl | skip)) | ((first | apply cw_ite | apply cw_iteN); (case hf => rfl); (case hc => exact ev_a); (all_goals first | (intro hb; (try simp only [hbs] at hb)) | skip)) | exact atN_intro | (refine if_a (fun hb => ?_) (fun hb => ?_); (all_goals (try first | with_reducible exact True.intro | (exfalso; omega)))) | refine cw_blocks (fun KB hB => ?_) | (refine hB _ ?_; clear hB KB) | refine exit_by (S := Sg) (by assumption) ?_ | (refine ret_a ?_; (try clear hB KB); (try clear hK K)))
          rw [thenQ_normal]
          refine wk_loop (i + 1) ?_ ⟨by omega, by omega⟩ (by omega)
          refine le_a [(1, some 1), (2, some 2), (3, some 3)] ?_ ?_
          repeat' (refine And.intro ?_ ?_)
          all_goals first | exact le_cl | skip
          refine .inr fun a ha j hj => ?_
          show PV.le _ (fnOf opE (bAt s l (i + 1)) a j)
          rw [bstep s l i j ha]
          by_cases e : a = i
          · rw [if_pos e, if_pos e, hop]
            simp only [hoi]
            have hivl : j = 0 ∨ j = 1 ∨ j = 2 ∨ j = 3 ∨ j = 4 ∨ j = 5 ∨ j = 6 ∨ j = 7 ∨ j = 8 ∨ j = 9 ∨ j = 10 ∨ j = 11 := by omega
            rcases hivl with rfl | rfl | rfl | rfl | rfl | rfl | rfl | rfl | rfl | rfl | rfl | rfl <;> exact fun _ _ _ h => h
          · rw [if_neg e, if_neg e]; exact fun _ _ _ h => h
        · have hop := show bOp s (l.getD i 0) (opAt s.ops i) = _ from (if_neg hk3).trans ((if_neg (by omega)).trans (if_pos hm))
          rw [hbi] at hop
          repeat' (first | with_reducible exact tr_a | refine dec_a (And.intro hq hm) ?_ | ((first | ((with_reducible refine cw_stepDK (id := 20) [(112, 4), (115, 4), (117, 8), (118, 8), (119, 8)] (by decide +kernel) (by decide +kernel) ?_ (fun K hK => ?_)); exact wf_a) | ((with_reducible refine cw_lastDK (id := 20) [(112, 4), (115, 4), (117, 8), (118, 8), (119, 8)] (by decide +kernel) (by decide +kernel) ?_ (fun K hK => ?_)); exact wf_a)); (try simp (maxSteps := 1000000) (disch := omega) only [go_sem]); (repeat' (refine And.intro ?_ ?_)); (all_goals first | (refine hK _ (by simp (maxSteps := 1000000) (disch := omega) only [go_sem]) ?_; clear hK K) | exact auto_cl | skip)) | refine un_a ?_ | ((first | refine st_a (fun K hK => ?_) | refine rg_a ?_ | refine call_c (mod_spec (l.getD i 0) 16 (by omega)) ?_ | refine gcall_c (fun hg => mod_spec (l.getD i 0) 16 (by omega)) ?_ | refine call_c (mod_spec (IntKind.i64.wrap ((l.getD i 0).tdiv 16)) 3 (by omega)) ?_ | refine gcall_c (fun hg => mod_spec (IntKind.i64.wrap ((l.getD i 0).tdiv 16)) 3 (by omega)) ?_ | refine call_c (mod_spec (IntKind.i64.wrap ((l.getD i 0).tdiv 16)) 2 (by omega)) ?_ | refine gcall_c (fun hg => mod_spec (IntKind.i64.wrap ((l.getD i 0).tdiv 16)) 2 (by omega)) ?_); (repeat' (refine And.intro ?_ ?_)); (all_goals first | (refine hK _ ?_; clear hK K) | exact auto_cl | skip)) | ((first | apply cw_ite | apply cw_iteN); (case hf => rfl); (case hc => exact ev_a); (all_goals first | (intro hb; (try simp only [hbs] at hb)) | skip)) | exact atN_intro | (refine if_a (fun hb => ?_) (fun hb => ?_); (all_goals (try first | with_reducible exact True.intro | (exfalso; omega)))) | refine cw_blocks (fun KB hB => ?_) | (refine hB _ ?_; clear hB KB) | refine exit_by (S := Sg) (by assumption) ?_ | (refine ret_a ?_; (try clear hB KB); (try clear hK K)))
          rw [thenQ_normal]
          refine wk_loop (i + 1) ?_ ⟨by omega, by omega⟩ (by omega)
          refine le_a [(1, some 1), (2, some 2), (3, some 3)] ?_ ?_
          repeat' (refine And.intro ?_ ?_)
          all_goals first | exact le_cl | skip
          refine .inr fun a ha j hj => ?_
          show PV.le _ (fnOf opE (bAt s l (i + 1)) a j)
          rw [bstep s l i j ha]
          by_cases e : a = i
          · rw [if_pos e, if_pos e, hop]
            simp only [hoi]
            have hivl : j = 0 ∨ j = 1 ∨ j = 2 ∨ j = 3 ∨ j = 4 ∨ j = 5 ∨ j = 6 ∨ j = 7 ∨ j = 8 ∨ j = 9 ∨ j = 10 ∨ j = 11 := by omega
            rcases hivl with rfl | rfl | rfl | rfl | rfl | rfl | rfl | rfl | rfl | rfl | rfl | rfl <;> exact fun _ _ _ h => h
          · rw [if_neg e, if_neg e]; exact fun _ _ _ h => h
        · by_cases hk1 : (opAt s.ops i).kind = 1
          · have hop := show bOp s (l.getD i 0) (opAt s.ops i) = _ from (if_neg hk3).trans ((if_neg (by omega)).trans ((if_neg (by omega)).trans ((if_pos (by omega)).trans (if_pos hk1))))
            rw [hbi] at hop
            have hq1 : (((bAt s l i).getD i default).kind == 1) = true := by rw [hoi]; exact beq_iff_eq.2 hk1
            repeat' (first | with_reducible exact tr_a | refine dec_a (And.intro hq (And.intro hm hq1)) ?_ | ((first | ((with_reducible refine cw_stepDK (id := 24) [(129, 4), (133, 3), (139, 4), (141, 8), (142, 8), (143, 8)] (by decide +kernel) (by decide +kernel) ?_ (fun K hK => ?_)); exact wf_a) | ((with_reducible refine cw_lastDK (id := 24) [(129, 4), (133, 3), (139, 4), (141, 8), (142, 8), (143, 8)] (by decide +kernel) (by decide +kernel) ?_ (fun K hK => ?_)); exact wf_a)); (try simp (maxSteps := 1000000) (disch := omega) only [go_sem]); (repeat' (refine And.intro ?_ ?_)); (all_goals first | (refine hK _ (by simp (maxSteps := 1000000) (disch := omega) only [go_sem]) ?_; clear hK K) | exact auto_cl | skip)) | refine un_a ?_ | ((first | refine st_a (fun K hK => ?_) | refine rg_a ?_ | refine call_c (mod_spec (l.getD i 0) 16 (by omega)) ?_ | refine gcall_c (fun hg => mod_spec (l.getD i 0) 16 (by omega)) ?_ | refine call_c (mod_spec (IntKind.i64.wrap ((l.getD i 0).tdiv 16)) 3 (by omega)) ?_ | refine gcall_c (fun hg => mod_spec (IntKind.i64.wrap ((l.getD i 0).tdiv 16)) 3 (by omega)) ?_ | refine call_c (mod_spec (IntKind.i64.wrap ((l.getD i 0).tdiv 16)) 2 (by omega)) ?_ | refine gcall_c (fun hg => mod_spec (IntKind.i64.wrap ((l.getD i 0).tdiv 16)) 2 (by omega)) ?_); (repeat' (refine And.intro ?_ ?_)); (all_goals first | (refine hK _ ?_; clear hK K) | exact auto_cl | skip)) | ((first | apply cw_ite | apply cw_iteN); (case hf => rfl); (case hc => exact ev_a); (all_goals first | (intro hb; (try simp only [hbs] at hb)) | skip)) | exact atN_intro | (refine if_a (fun hb => ?_) (fun hb => ?_); (all_goals (try first | with_reducible exact True.intro | (exfalso; omega)))) | refine cw_blocks (fun KB hB => ?_) | (refine hB _ ?_; clear hB KB) | refine exit_by (S := Sg) (by assumption) ?_ | (refine ret_a ?_; (try clear hB KB); (try clear hK K)))
            refine hK _ (by simp (maxSteps := 1000000) (disch := omega) only [go_sem]) ?_
            clear hK
            repeat' (first | with_reducible exact tr_a | refine dec_a (And.intro hq (And.intro hm hq1)) ?_ | refine un_a ?_ | ((first | refine st_a (fun K hK => ?_) | refine rg_a ?_ | refine call_c (mod_spec (l.getD i 0) 16 (by omega)) ?_ | refine gcall_c (fun hg => mod_spec (l.getD i 0) 16 (by omega)) ?_ | refine call_c (mod_spec (IntKind.i64.wrap ((l.getD i 0).tdiv 16)) 3 (by omega)) ?_ | refine gcall_c (fun hg => mod_spec (IntKind.i64.wrap ((l.getD i 0).tdiv 16)) 3 (by omega)) ?_ | refine call_c (mod_spec (IntKind.i64.wrap ((l.getD i 0).tdiv 16)) 2 (by omega)) ?_ | refine gcall_c (fun hg => mod_spec (IntKind.i64.wrap ((l.getD i 0).tdiv 16)) 2 (by omega)) ?_); (repeat' (refine And.intro ?_ ?_)); (all_goals first | (refine hK _ ?_; clear hK K) | exact auto_cl | skip)) | ((first | apply cw_ite | apply cw_iteN); (case hf => rfl); (case hc => exact ev_a); (all_goals first | (intro hb; (try simp only [hbs] at hb)) | skip)) | exact atN_intro | (refine if_a (fun hb => ?_) (fun hb => ?_); (all_goals (try first | with_reducible exact True.intro | (exfalso; omega)))) | refine cw_blocks (fun KB hB => ?_) | (refine hB _ ?_; clear hB KB) | refine exit_by (S := Sg) (by assumption) ?_ | (refine ret_a ?_; (try clear hB KB); (try clear hK K)))
            rw [thenQ_normal]
            refine wk_loop (i + 1) ?_ ⟨by omega, by omega⟩ (by omega)
            refine le_a [(1, some 1), (2, some 2), (3, some 3)] ?_ ?_
            repeat' (refine And.intro ?_ ?_)
            all_goals first | exact le_cl | skip
            refine .inr fun a ha j hj => ?_
            show PV.le _ (fnOf opE (bAt s l (i + 1)) a j)
            rw [bstep s l i j ha]
            by_cases e : a = i
            · rw [if_pos e, if_pos e, hop]
              simp only [hoi]
              have hivl : j = 0 ∨ j = 1 ∨ j = 2 ∨ j = 3 ∨ j = 4 ∨ j = 5 ∨ j = 6 ∨ j = 7 ∨ j = 8 ∨ j = 9 ∨ j = 10 ∨ j = 11 := by omega
              rcases hivl with rfl | rfl | rfl | rfl | rfl | rfl | rfl | rfl | rfl | rfl | rfl | rfl <;> exact fun _ _ _ h => h
            · rw [if_neg e, if_neg e]; exact fun _ _ _ h => h
          · have hop := show bOp s (l.getD i 0) (opAt s.ops i) = _ from (if_neg hk3).trans ((if_neg (by omega)).trans ((if_neg (by omega)).trans ((if_pos (by omega)).trans (if_neg hk1))))
            have hq1 : (((bAt s l i).getD i default).kind == 1) = false := by rw [hoi]; exact beq_eq_false_iff_ne.2 hk1
            repeat' (first | with_reducible exact tr_a | refine dec_a (And.intro hq (And.intro hm hq1)) ?_ | refine un_a ?_ | ((first | refine st_a (fun K hK => ?_) | refine rg_a ?_ | refine call_c (mod_spec (l.getD i 0) 16 (by omega)) ?_ | refine gcall_c (fun hg => mod_spec (l.getD i 0) 16 (by omega)) ?_ | refine call_c (mod_spec (IntKind.i64.wrap ((l.getD i 0).tdiv 16)) 3 (by omega)) ?_ | refine gcall_c (fun hg => mod_spec (IntKind.i64.wrap ((l.getD i 0).tdiv 16)) 3 (by omega)) ?_ | refine call_c (mod_spec (IntKind.i64.wrap ((l.getD i 0).tdiv 16)) 2 (by omega)) ?_ | refine gcall_c (fun hg => mod_spec (IntKind.i64.wrap ((l.getD i 0).tdiv 16)) 2 (by omega)) ?_); (repeat' (refine And.intro ?_ ?_)); (all_goals first | (refine hK _ ?_; clear hK K) | exact auto_cl | skip)) | ((first | apply cw_ite | apply cw_iteN); (case hf => rfl); (case hc => exact ev_a); (all_goals first | (intro hb; (try simp only [hbs] at hb)) | skip)) | exact atN_intro | (refine if_a (fun hb => ?_) (fun hb => ?_); (all_goals (try first | with_reducible exact True.intro | (exfalso; omega)))) | refine cw_blocks (fun KB hB => ?_) | (refine hB _ ?_; clear hB KB) | refine exit_by (S := Sg) (by assumption) ?_ | (refine ret_a ?_; (try clear hB KB); (try clear hK K)))
            rw [thenQ_normal]
            refine wk_loop (i + 1) ?_ ⟨by omega, by omega⟩ (by omega)
            refine le_a [(1, some 1), (2, some 2), (3, some 3)] ?_ ?_
            repeat' (refine And.intro ?_ ?_)
            all_goals first | exact le_cl | skip
            refine .inr fun a ha j hj => ?_
            show PV.le _ (fnOf opE (bAt s l (i + 1)) a j)
            rw [bstep s l i j ha]
            by_cases e : a = i
            · rw [if_pos e, if_pos e, hop]
              simp only [hoi]
              have hivl : j = 0 ∨ j = 1 ∨ j = 2 ∨ j = 3 ∨ j = 4 ∨ j = 5 ∨ j = 6 ∨ j = 7 ∨ j = 8 ∨ j = 9 ∨ j = 10 ∨ j = 11 := by omega
              rcases hivl with rfl | rfl | rfl | rfl | rfl | rfl | rfl | rfl | rfl | rfl | rfl | rfl <;> exact fun _ _ _ h => h
            · rw [if_neg e, if_neg e]; exact fun _ _ _ h => h
        · by_cases hk1 : (opAt s.ops i).kind = 1
          · have hop := show bOp s (l.getD i 0) (opAt s.ops i) = _ from (if_neg hk3).trans ((if_neg (by omega)).trans ((if_neg (by omega)).trans ((if_pos (by omega)).trans (if_pos hk1))))
            rw [hbi] at hop
            have hq1 : (((bAt s l i).getD i default).kind == 1) = true := by rw [hoi]; exact beq_iff_eq.2 hk1
            repeat' (first | with_reducible exact tr_a | refine dec_a (And.intro hq (And.intro hm hq1)) ?_ | ((first | ((with_reducible refine cw_stepDK (id := 24) [(129, 4), (133, 3), (139, 4), (141, 8), (142, 8), (143, 8)] (by decide +kernel) (by decide +kernel) ?_ (fun K hK => ?_)); exact wf_a) | ((with_reducible refine cw_lastDK (id := 24) [(129, 4), (133, 3), (139, 4), (141, 8), (142, 8), (143, 8)] (by decide +kernel) (by decide +kernel) ?_ (fun K hK => ?_)); exact wf_a)); (try simp (maxSteps := 1000000) (disch := omega) only [go_sem]); (repeat' (refine And.intro ?_ ?_)); (all_goals first | (refine hK _ (by simp (maxSteps := 1000000) (disch := omega) only [go_sem]) ?_; clear hK K) | exact auto_cl | skip)) | refine un_a ?_ | ((first | refine st_a (fun K hK => ?_) | refine rg_a ?_ | refine call_c (mod_spec (l.getD i 0) 16 (by omega)) ?_ | refine gcall_c (fun hg => mod_spec (l.getD i 0) 16 (by omega)) ?_ | refine call_c (mod_spec (IntKind.i64.wrap ((l.getD i 0).tdiv 16)) 3 (by omega)) ?_ | refine gcall_c (fun hg => mod_spec (IntKind.i64.wrap ((l.getD i 0).tdiv 16)) 3 (by omega)) ?_ | refine call_c (mod_spec (IntKind.i64.wrap ((l.getD i 0).tdiv 16)) 2 (by omega)) ?_ | refine gcall_c (fun hg => mod_spec (IntKind.i64.wrap ((l.getD i 0).tdiv 16)) 2 (by omega)) ?_); (repeat' (refine And.intro ?_ ?_)); (all_goals first | (refine hK _ ?_; clear hK K) | exact auto_cl | skip)) | ((first | apply cw_ite | apply cw_iteN); (case hf => rfl); (case hc => exact ev_a); (all_goals first | (intro hb; (try simp only [hbs] at hb)) | skip)) | exact atN_intro | (refine if_a (fun hb => ?_) (fun hb => ?_); (all_goals (try first | with_reducible exact True.intro | (exfalso; omega)))) | refine cw_blocks (fun KB hB => ?_) | (refine hB _ ?_; clear hB KB) | refine exit_by (S := Sg) (by assumption) ?_ | (refine ret_a ?_; (try clear hB KB); (try clear hK K)))
            refine hK _ (by simp (maxSteps := 1000000) (disch := omega) only [go_sem]) ?_
            clear hK
            repeat' (first | with_reducible exact tr_a | refine dec_a (And.intro hq (And.intro hm hq1)) ?_ | refine un_a ?_ | ((first | refine st_a (fun K hK => ?_) | refine rg_a ?_ | refine call_c (mod_spec (l.getD i 0) 16 (by omega)) ?_ | refine gcall_c (fun hg => mod_spec (l.getD i 0) 16 (by omega)) ?_ | refine call_c (mod_spec (IntKind.i64.wrap ((l.getD i 0).tdiv 16)) 3 (by omega)) ?_ | refine gcall_c (fun hg => mod_spec (IntKind.i64.wrap ((l.getD i 0).tdiv 16)) 3 (by omega)) ?_ | refine call_c (mod_spec (IntKind.i64.wrap ((l.getD i 0).tdiv 16)) 2 (by omega)) ?_ | refine gcall_c (fun hg => mod_spec (IntKind.i64.wrap ((l.getD i 0).tdiv 16)) 2 (by omega)) ?_); (repeat' (refine And.intro ?_ ?_)); (all_goals first | (refine hK _ ?_; clear hK K) | exact auto_cl | skip)) | ((first | apply cw_ite | apply cw_iteN); (case hf => rfl); (case hc => exact ev_a); (all_goals first | (intro hb; (try simp only [hbs] at hb)) | skip)) | exact atN_intro | (refine if_a (fun hb => ?_) (fun hb => ?_); (all_goals (try first | with_reducible exact True.intro | (exfalso; omega)))) | refine cw_blocks (fun KB hB => ?_) | (refine hB _ ?_; clear hB KB) | refine exit_by (S := Sg) (by assumption) ?_ | (refine ret_a ?_; (try clear hB KB); (try clear hK K)))
            rw [thenQ_normal]
            refine wk_loop (i + 1) ?_ ⟨by omega, by omega⟩ (by omega)
            refine le_a [(1, some 1), (2, some 2), (3, some 3)] ?_ ?_
            repeat' (refine And.intro ?_ ?_)
            all_goals first | exact le_cl | skip
            refine .inr fun a ha j hj => ?_
            show PV.le _ (fnOf opE (bAt s l (i + 1)) a j)
            rw [bstep s l i j ha]
            by_cases e : a = i
            · rw [if_pos e, if_pos e, hop]
              simp only [hoi]
              have hivl : j = 0 ∨ j = 1 ∨ j = 2 ∨ j = 3 ∨ j = 4 ∨ j = 5 ∨ j = 6 ∨ j = 7 ∨ j = 8 ∨ j = 9 ∨ j = 10 ∨ j = 11 := by omega
              rcases hivl with rfl | rfl | rfl | rfl | rfl | rfl | rfl | rfl | rfl | rfl | rfl | rfl <;> exact fun _ _ _ h => h
            · rw [if_neg e, if_neg e]; exact fun _ _ _ h => h
          · have hop := show bOp s (l.getD i 0) (opAt s.ops i) = _ from (if_neg hk3).trans ((if_neg (by omega)).trans ((if_neg (by omega)).trans ((if_pos (by omega)).trans (if_neg hk1))))
            have hq1 : (((bAt s l i).getD i default).kind == 1) = false := by rw [hoi]; exact beq_eq_false_iff_ne.2 hk1
            repeat' (first | with_reducible exact tr_a | refine dec_a (And.intro hq (And.intro hm hq1)) ?_ | refine un_a ?_ | ((first | refine st_a (fun K hK => ?_) | refine rg_a ?_ | refine call_c (mod_spec (l.getD i 0) 16 (by omega)) ?_ | refine gcall_c (fun hg => mod_spec (l.getD i 0) 16 (by omega)) ?_ | refine call_c (mod_spec (IntKind.i64.wrap ((l.getD i 0).tdiv 16)) 3 (by omega)) ?_ | refine gcall_c (fun hg => mod_spec (IntKind.i64.wrap ((l.getD i 0).tdiv 16)) 3 (by omega)) ?_ | refine call_c (mod_spec (IntKind.i64.wrap ((l.getD i 0).tdiv 16)) 2 (by omega)) ?_ | refine gcall_c (fun hg => mod_spec (IntKind.i64.wrap ((l.getD i 0).tdiv 16)) 2 (by omega)) ?_); (repeat' (refine And.intro ?_ ?_)); (all_goals first | (refine hK _ ?_; clear hK K) | exact auto_cl | skip)) | ((first | apply cw_ite | apply cw_iteN); (case hf => rfl); (case hc => exact ev_a); (all_goals first | (intro hb; (try simp only [hbs] at hb)) | skip)) | exact atN_intro | (refine if_a (fun hb => ?_) (fun hb => ?_); (all_goals (try first | with_reducible exact True.intro | (exfalso; omega)))) | refine cw_blocks (fun KB hB => ?_) | (refine hB _ ?_; clear hB KB) | refine exit_by (S := Sg) (by assumption) ?_ | (refine ret_a ?_; (try clear hB KB); (try clear hK K)))
            rw [thenQ_normal]
            refine wk_loop (i + 1) ?_ ⟨by omega, by omega⟩ (by omega)
            refine le_a [(1, some 1), (2, some 2), (3, some 3)] ?_ ?_
            repeat' (refine And.intro ?_ ?_)
            all_goals first | exact le_cl | skip
            refine .inr fun a ha j hj => ?_
            show PV.le _ (fnOf opE (bAt s l (i + 1)) a j)
            rw [bstep s l i j ha]
            by_cases e : a = i
            · rw [if_pos e, if_pos e, hop]
              simp only [hoi]
              have hivl : j = 0 ∨ j = 1 ∨ j = 2 ∨ j = 3 ∨ j = 4 ∨ j = 5 ∨ j = 6 ∨ j = 7 ∨ j = 8 ∨ j = 9 ∨ j = 10 ∨ j = 11 := by omega
              rcases hivl with rfl | rfl | rfl | rfl | rfl | rfl | rfl | rfl | rfl | rfl | rfl | rfl <;> exact fun _ _ _ h => h
            · rw [if_neg e, if_neg e]; exact fun _ _ _ h => h
        · by_cases hz : gMod (IntKind.i64.wrap ((l.getD i 0).tdiv 16)) 2 = 0
          · have hop := show bOp s (l.getD i 0) (opAt s.ops i) = _ from (if_neg hk3).trans ((if_neg (by omega)).trans ((if_neg (by omega)).trans ((if_neg (by omega)).trans ((if_pos (by omega)).trans (if_pos hz)))))
            have hq1 : (gMod (IntKind.i64.wrap ((l.getD i 0).tdiv 16)) 2 == 0) = true := beq_iff_eq.2 hz
            repeat' (first | with_reducible exact tr_a | refine dec_a (And.intro hq (And.intro hm hq1)) ?_ | refine un_a ?_ | ((first | refine st_a (fun K hK => ?_) | refine rg_a ?_ | refine call_c (mod_spec (l.getD i 0) 16 (by omega)) ?_ | refine gcall_c (fun hg => mod_spec (l.getD i 0) 16 (by omega)) ?_ | refine call_c (mod_spec (IntKind.i64.wrap ((l.getD i 0).tdiv 16)) 3 (by omega)) ?_ | refine gcall_c (fun hg => mod_spec (IntKind.i64.wrap ((l.getD i 0).tdiv 16)) 3 (by omega)) ?_ | refine call_c (mod_spec (IntKind.i64.wrap ((l.getD i 0).tdiv 16)) 2 (by omega)) ?_ | refine gcall_c (fun hg => mod_spec (IntKind.i64.wrap ((l.getD i 0).tdiv 16)) 2 (by omega)) ?_); (repeat' (refine And.intro ?_ ?_)); (all_goals first | (refine hK _ ?_; clear hK K) | exact auto_cl | skip)) | ((first | apply cw_ite | apply cw_iteN); (case hf => rfl); (case hc => exact ev_a); (all_goals first | (intro hb; (try simp only [hbs] at hb)) | skip)) | exact atN_intro | (refine if_a (fun hb => ?_) (fun hb => ?_); (all_goals (try first | with_reducible exact True.intro | (exfalso; omega)))) | refine cw_blocks (fun KB hB => ?_) | (refine hB _ ?_; clear hB KB) | refine exit_by (S := Sg) (by assumption) ?_ | (refine ret_a ?_; (try clear hB KB); (try clear hK K)))
            rw [thenQ_normal]
            refine wk_loop (i + 1) ?_ ⟨by omega, by omega⟩ (by omega)
            refine le_a [(1, some 1), (2, some 2), (3, some 3)] ?_ ?_
            repeat' (refine And.intro ?_ ?_)
            all_goals first | exact le_cl | skip
            refine .inr fun a ha j hj => ?_
            show PV.le _ (fnOf opE (bAt s l (i + 1)) a j)
            rw [bstep s l i j ha]
            by_cases e : a = i
            · rw [if_pos e, if_pos e, hop]
              simp only [hoi]
              have hivl : j = 0 ∨ j = 1 ∨ j = 2 ∨ j = 3 ∨ j = 4 ∨ j = 5 ∨ j = 6 ∨ j = 7 ∨ j = 8 ∨ j = 9 ∨ j = 10 ∨ j = 11 := by omega
              rcases hivl with rfl | rfl | rfl | rfl | rfl | rfl | rfl | rfl | rfl | rfl | rfl | rfl <;> exact fun _ _ _ h => h
            · rw [if_neg e, if_neg e]; exact fun _ _ _ h => h
          · have hop := show bOp s (l.getD i 0) (opAt s.ops i) = _ from (if_neg hk3).trans ((if_neg (by omega)).trans ((if_neg (by omega)).trans ((if_neg (by omega)).trans ((if_pos (by omega)).trans (if_neg hz)))))
            have hq1 : (gMod (IntKind.i64.wrap ((l.getD i 0).tdiv 16)) 2 == 0) = false := beq_eq_false_iff_ne.2 hz
            repeat' (first | with_reducible exact tr_a | refine dec_a (And.intro hq (And.intro hm hq1)) ?_ | refine un_a ?_ | ((first | refine st_a (fun K hK => ?_) | refine rg_a ?_ | refine call_c (mod_spec (l.getD i 0) 16 (by omega)) ?_ | refine gcall_c (fun hg => mod_spec (l.getD i 0) 16 (by omega)) ?_ | refine call_c (mod_spec (IntKind.i64.wrap ((l.getD i 0).tdiv 16)) 3 (by omega)) ?_ | refine gcall_c (fun hg => mod_spec (IntKind.i64.wrap ((l.getD i 0).tdiv 16)) 3 (by omega)) ?_ | refine call_c (mod_spec (IntKind.i64.wrap ((l.getD i 0).tdiv 16)) 2 (by omega)) ?_ | refine gcall_c (fun hg => mod_spec (IntKind.i64.wrap ((l.getD i 0).tdiv 16)) 2 (by omega)) ?_); (repeat' (refine And.intro ?_ ?_)); (all_goals first | (refine hK _ ?_; clear hK K) | exact auto_cl | skip)) | ((first | apply cw_ite | apply cw_iteN); (case hf => rfl); (case hc => exact ev_a); (all_goals first | (intro hb; (try simp only [hbs] at hb)) | skip)) | exact atN_intro | (refine if_a (fun hb => ?_) (fun hb => ?_); (all_goals (try first | with_reducible exact True.intro | (exfalso; omega)))) | refine cw_blocks (fun KB hB => ?_) | (refine hB _ ?_; clear hB KB) | refine exit_by (S := Sg) (by assumption) ?_ | (refine ret_a ?_; (try clear hB KB); (try clear hK K)))
            rw [thenQ_normal]
            refine wk_loop (i + 1) ?_ ⟨by omega, by omega⟩ (by omega)
            refine le_a [(1, some 1), (2, some 2), (3, some 3)] ?_ ?_
            repeat' (refine And.intro ?_ ?_)
            all_goals first | exact le_cl | skip
            refine .inr fun a ha j hj => ?_
            show PV.le _ (fnOf opE (bAt s l (i + 1)) a j)
            rw [bstep s l i j ha]
            by_cases e : a = i
            · rw [if_pos e, if_pos e, hop]
              simp only [hoi]
              have hivl : j = 0 ∨ j = 1 ∨ j = 2 ∨ j = 3 ∨ j = 4 ∨ j = 5 ∨ j = 6 ∨ j = 7 ∨ j = 8 ∨ j = 9 ∨ j = 10 ∨ j = 11 := by omega
              rcases hivl with rfl | rfl | rfl | rfl | rfl | rfl | rfl | rfl | rfl | rfl | rfl | rfl <;> exact fun _ _ _ h => h
            · rw [if_neg e, if_neg e]; exact fun _ _ _ h => h
        · by_cases hz : gMod (IntKind.i64.wrap ((l.getD i 0).tdiv 16)) 2 = 0
          · have hop := show bOp s (l.getD i 0) (opAt s.ops i) = _ from (if_neg hk3).trans ((if_neg (by omega)).trans ((if_neg (by omega)).trans ((if_neg (by omega)).trans ((if_pos (by omega)).trans (if_pos hz)))))
            have hq1 : (gMod (IntKind.i64.wrap ((l.getD i 0).tdiv 16)) 2 == 0) = true := beq_iff_eq.2 hz
            repeat' (first | with_reducible exact tr_a | refine dec_a (And.intro hq (And.intro hm hq1)) ?_ | refine un_a ?_ | ((first | refine st_a (fun K hK => ?_) | refine rg_a ?_ | refine call_c (mod_spec (l.getD i 0) 16 (by omega)) ?_ | refine gcall_c (fun hg => mod_spec (l.getD i 0) 16 (by omega)) ?_ | refine call_c (mod_spec (IntKind.i64.wrap ((l.getD i 0).tdiv 16)) 3 (by omega)) ?_ | refine gcall_c (fun hg => mod_spec (IntKind.i64.wrap ((l.getD i 0).tdiv 16)) 3 (by omega)) ?_ | refine call_c (mod_spec (IntKind.i64.wrap ((l.getD i 0).tdiv 16)) 2 (by omega)) ?_ | refine gcall_c (fun hg => mod_spec (IntKind.i64.wrap ((l.getD i 0).tdiv 16)) 2 (by omega)) ?_); (repeat' (refine And.intro ?_ ?_)); (all_goals first | (refine hK _ ?_; clear hK K) | exact auto_cl | skip)) | ((first | apply cw_ite | apply cw_iteN); (case hf => rfl); (case hc => exact ev_a); (all_goals first | (intro hb; (try simp only [hbs] at hb)) | skip)) | exact atN_intro | (refine if_a (fun hb => ?_) (fun hb => ?_); (all_goals (try first | with_reducible exact True.intro | (exfalso; omega)))) | refine cw_blocks (fun KB hB => ?_) | (refine hB _ ?_; clear hB KB) | refine exit_by (S := Sg) (by assumption) ?_ | (refine ret_a ?_; (try clear hB KB); (try clear hK K)))
            rw [thenQ_normal]
            refine wk_loop (i + 1) ?_ ⟨by omega, by omega⟩ (by omega)
            refine le_a [(1, some 1), (2, some 2), (3, some 3)] ?_ ?_
            repeat' (refine And.intro ?_ ?_)
            all_goals first | exact le_cl | skip
            refine .inr fun a ha j hj => ?_
            show PV.le _ (fnOf opE (bAt s l (i + 1)) a j)
            rw [bstep s l i j ha]
            by_cases e : a = i
            · rw [if_pos e, if_pos e, hop]
              simp only [hoi]
              have hivl : j = 0 ∨ j = 1 ∨ j = 2 ∨ j = 3 ∨ j = 4 ∨ j = 5 ∨ j = 6 ∨ j = 7 ∨ j = 8 ∨ j = 9 ∨ j = 10 ∨ j = 11 := by omega
              rcases hivl with rfl | rfl | rfl | rfl | rfl | rfl | rfl | rfl | rfl | rfl | rfl | rfl <;> exact fun _ _ _ h => h
            · rw [if_neg e, if_neg e]; exact fun _ _ _ h => h
          · have hop := show bOp s (l.getD i 0) (opAt s.ops i) = _ from (if_neg hk3).trans ((if_neg (by omega)).trans ((if_neg (by omega)).trans ((if_neg (by omega)).trans ((if_pos (by omega)).trans (if_neg hz)))))
            have hq1 : (gMod (IntKind.i64.wrap ((l.getD i 0).tdiv 16)) 2 == 0) = false := beq_eq_false_iff_ne.2 hz
            repeat' (first | with_reducible exact tr_a | refine dec_a (And.intro hq (And.intro hm hq1)) ?_ | refine un_a ?_ | ((first | refine st_a (fun K hK => ?_) | refine rg_a ?_ | refine call_c (mod_spec (l.getD i 0) 16 (by omega)) ?_ | refine gcall_c (fun hg => mod_spec (l.getD i 0) 16 (by omega)) ?_ | refine call_c (mod_spec (IntKind.i64.wrap ((l.getD i 0).tdiv 16)) 3 (by omega)) ?_ | refine gcall_c (fun hg => mod_spec (IntKind.i64.wrap ((l.getD i 0).tdiv 16)) 3 (by omega)) ?_ | refine call_c (mod_spec (IntKind.i64.wrap ((l.getD i 0).tdiv 16)) 2 (by omega)) ?_ | refine gcall_c (fun hg => mod_spec (IntKind.i64.wrap ((l.getD i 0).tdiv 16)) 2 (by omega)) ?_); (repeat' (refine And.intro ?_ ?_)); (all_goals first | (refine hK _ ?_; clear hK K) | exact auto_cl | skip)) | ((first | apply cw_ite | apply cw_iteN); (case hf => rfl); (case hc => exact ev_a); (all_goals first | (intro hb; (try simp only [hbs] at hb)) | skip)) | exact atN_intro | (refine if_a (fun hb => ?_) (fun hb => ?_); (all_goals (try first | with_reducible exact True.intro | (exfalso; omega)))) | refine cw_blocks (fun KB hB => ?_) | (refine hB _ ?_; clear hB KB) | refine exit_by (S := Sg) (by assumption) ?_ | (refine ret_a ?_; (try clear hB KB); (try clear hK K)))
            rw [thenQ_normal]
            refine wk_loop (i + 1) ?_ ⟨by omega, by omega⟩ (by omega)
            refine le_a [(1, some 1), (2, some 2), (3, some 3)] ?_ ?_
            repeat' (refine And.intro ?_ ?_)
            all_goals first | exact le_cl | skip
            refine .inr fun a ha j hj => ?_
            show PV.le _ (fnOf opE (bAt s l (i + 1)) a j)
            rw [bstep s l i j ha]
            by_cases e : a = i
            · rw [if_pos e, if_pos e, hop]
              simp only [hoi]
              have hivl : j = 0 ∨ j = 1 ∨ j = 2 ∨ j = 3 ∨ j = 4 ∨ j = 5 ∨ j = 6 ∨ j = 7 ∨ j = 8 ∨ j = 9 ∨ j = 10 ∨ j = 11 := by omega
              rcases hivl with rfl | rfl | rfl | rfl | rfl | rfl | rfl | rfl | rfl | rfl | rfl | rfl <;> exact fun _ _ _ h => h
            · rw [if_neg e, if_neg e]; exact fun _ _ _ h => h
        · by_cases hz : gMod (IntKind.i64.wrap ((l.getD i 0).tdiv 16)) 2 = 0
          · have hop := show bOp s (l.getD i 0) (opAt s.ops i) = _ from (if_neg hk3).trans ((if_neg (by omega)).trans ((if_neg (by omega)).trans ((if_neg (by omega)).trans ((if_pos (by omega)).trans (if_pos hz)))))
            have hq1 : (gMod (IntKind.i64.wrap ((l.getD i 0).tdiv 16)) 2 == 0) = true := beq_iff_eq.2 hz
            repeat' (first | with_reducible exact tr_a | refine dec_a (And.intro hq (And.intro hm hq1)) ?_ | refine un_a ?_ | ((first | refine st_a (fun K hK => ?_) | refine rg_a ?_ | refine call_c (mod_spec (l.getD i 0) 16 (by omega)) ?_ | refine gcall_c (fun hg => mod_spec (l.getD i 0) 16 (by omega)) ?_ | refine call_c (mod_spec (IntKind.i64.wrap ((l.getD i 0).tdiv 16)) 3 (by omega)) ?_ | refine gcall_c (fun hg => mod_spec (IntKind.i64.wrap ((l.getD i 0).tdiv 16)) 3 (by omega)) ?_ | refine call_c (mod_spec (IntKind.i64.wrap ((l.getD i 0).tdiv 16)) 2 (by omega)) ?_ | refine gcall_c (fun hg => mod_spec (IntKind.i64.wrap ((l.getD i 0).tdiv 16)) 2 (by omega)) ?_); (repeat' (refine And.intro ?_ ?_)); (all_goals first | (refine hK _ ?_; clear hK K) | exact auto_cl | skip)) | ((first | apply cw_ite | apply cw_iteN); (case hf => rfl); (case hc => exact ev_a); (all_goals first | (intro hb; (try simp only [hbs] at hb)) | skip)) | exact atN_intro | (refine if_a (fun hb => ?_) (fun hb => ?_); (all_goals (try first | with_reducible exact True.intro | (exfalso; omega)))) | refine cw_blocks (fun KB hB => ?_) | (refine hB _ ?_; clear hB KB) | refine exit_by (S := Sg) (by assumption) ?_ | (refine ret_a ?_; (try clear hB KB); (try clear hK K)))
            rw [thenQ_normal]
            refine wk_loop (i + 1) ?_ ⟨by omega, by omega⟩ (by omega)
            refine le_a [(1, some 1), (2, some 2), (3, some 3)] ?_ ?_
            repeat' (refine And.intro ?_ ?_)
            all_goals first | exact le_cl | skip
            refine .inr fun a ha j hj => ?_
            show PV.le _ (fnOf opE (bAt s l (i + 1)) a j)
            rw [bstep s l i j ha]
            by_cases e : a = i
            · rw [if_pos e, if_pos e, hop]
              simp only [hoi]
              have hivl : j = 0 ∨ j = 1 ∨ j = 2 ∨ j = 3 ∨ j = 4 ∨ j = 5 ∨ j = 6 ∨ j = 7 ∨ j = 8 ∨ j = 9 ∨ j = 10 ∨ j = 11 := by omega
              rcases hivl with rfl | rfl | rfl | rfl | rfl | rfl | rfl | rfl | rfl | rfl | rfl | rfl <;> exact fun _ _ _ h => h
            · rw [if_neg e, if_neg e]; exact fun _ _ _ h => h
          · have hop := show bOp s (l.getD i 0) (opAt s.ops i) = _ from (if_neg hk3).trans ((if_neg (by omega)).trans ((if_neg (by omega)).trans ((if_neg (by omega)).trans ((if_pos (by omega)).trans (if_neg hz)))))
            have hq1 : (gMod (IntKind.i64.wrap ((l.getD i 0).tdiv 16)) 2 == 0) = false := beq_eq_false_iff_ne.2 hz
            repeat' (first | with_reducible exact tr_a | refine dec_a (And.intro hq (And.intro hm hq1)) ?_ | refine un_a ?_ | ((first | refine st_a (fun K hK => ?_) | refine rg_a ?_ | refine call_c (mod_spec (l.getD i 0) 16 (by omega)) ?_ | refine gcall_c (fun hg => mod_spec (l.getD i 0) 16 (by omega)) ?_ | refine call_c (mod_spec (IntKind.i64.wrap ((l.getD i 0).tdiv 16)) 3 (by omega)) ?_ | refine gcall_c (fun hg => mod_spec (IntKind.i64.wrap ((l.getD i 0).tdiv 16)) 3 (by omega)) ?_ | refine call_c (mod_spec (IntKind.i64.wrap ((l.getD i 0).tdiv 16)) 2 (by omega)) ?_ | refine gcall_c (fun hg => mod_spec (IntKind.i64.wrap ((l.getD i 0).tdiv 16)) 2 (by omega)) ?_); (repeat' (refine And.intro ?_ ?_)); (all_goals first | (refine hK _ ?_; clear hK K) | exact auto_cl | skip)) | ((first | apply cw_ite | apply cw_iteN); (case hf => rfl); (case hc => exact ev_a); (all_goals first | (intro hb; (try simp only [hbs] at hb)) | skip)) | exact atN_intro | (refine if_a (fun hb => ?_) (fun hb => ?_); (all_goals (try first | with_reducible exact True.intro | (exfalso; omega)))) | refine cw_blocks (fun KB hB => ?_) | (refine hB _ ?_; clear hB KB) | refine exit_by (S := Sg) (by assumption) ?_ | (refine ret_a ?_; (try clear hB KB); (try clear hK K)))
            rw [thenQ_normal]
            refine wk_loop (i + 1) ?_ ⟨by omega, by omega⟩ (by omega)
            refine le_a [(1, some 1), (2, some 2), (3, some 3)] ?_ ?_
            repeat' (refine And.intro ?_ ?_)
            all_goals first | exact le_cl | skip
            refine .inr fun a ha j hj => ?_
            show PV.le _ (fnOf opE (bAt s l (i + 1)) a j)
            rw [bstep s l i j ha]
            by_cases e : a = i
            · rw [if_pos e, if_pos e, hop]
              simp only [hoi]
              have hivl : j = 0 ∨ j = 1 ∨ j = 2 ∨ j = 3 ∨ j = 4 ∨ j = 5 ∨ j = 6 ∨ j = 7 ∨ j = 8 ∨ j = 9 ∨ j = 10 ∨ j = 11 := by omega
              rcases hivl with rfl | rfl | rfl | rfl | rfl | rfl | rfl | rfl | rfl | rfl | rfl | rfl <;> exact fun _ _ _ h => h
            · rw [if_neg e, if_neg e]; exact fun _ _ _ h => h
        · have hop := show bOp s (l.getD i 0) (opAt s.ops i) = _ from (if_neg hk3).trans ((if_neg (by omega)).trans ((if_neg (by omega)).trans ((if_neg (by omega)).trans ((if_neg (by omega)).trans (if_pos hm)))))
          repeat' (first | with_reducible exact tr_a | refine dec_a (And.intro hq hm) ?_ | refine un_a ?_ | ((first | refine st_a (fun K hK => ?_) | refine rg_a ?_ | refine call_c (mod_spec (l.getD i 0) 16 (by omega)) ?_ | refine gcall_c (fun hg => mod_spec (l.getD i 0) 16 (by omega)) ?_ | refine call_c (mod_spec (IntKind.i64.wrap ((l.getD i 0).tdiv 16)) 3 (by omega)) ?_ | refine gcall_c (fun hg => mod_spec (IntKind.i64.wrap ((l.getD i 0).tdiv 16)) 3 (by omega)) ?_ | refine call_c (mod_spec (IntKind.i64.wrap ((l.getD i 0).tdiv 16)) 2 (by omega)) ?_ | refine gcall_c (fun hg => mod_spec (IntKind.i64.wrap ((l.getD i 0).tdiv 16)) 2 (by omega)) ?_); (repeat' (refine And.intro ?_ ?_)); (all_goals first | (refine hK _ ?_; clear hK K) | exact auto_cl | skip)) | ((first | apply cw_ite | apply cw_iteN); (case hf => rfl); (case hc => exact ev_a); (all_goals first | (intro hb; (try simp only [hbs] at hb)) | skip)) | exact atN_intro | (refine if_a (fun hb => ?_) (fun hb => ?_); (all_goals (try first | with_reducible exact True.intro | (exfalso; omega)))) | refine cw_blocks (fun KB hB => ?_) | (refine hB _ ?_; clear hB KB) | refine exit_by (S := Sg) (by assumption) ?_ | (refine ret_a ?_; (try clear hB KB); (try clear hK K)))
          rw [thenQ_normal]
          refine wk_loop (i + 1) ?_ ⟨by omega, by omega⟩ (by omega)
          refine le_a [(1, some 1), (2, some 2), (3, some 3)] ?_ ?_
          repeat' (refine And.intro ?_ ?_)
          all_goals first | exact le_cl | skip
          refine .inr fun a ha j hj => ?_
          show PV.le _ (fnOf opE (bAt s l (i + 1)) a j)
          rw [bstep s l i j ha]
          by_cases e : a = i
          · rw [if_pos e, if_pos e, hop]
            simp only [hoi]
            have hivl : j = 0 ∨ j = 1 ∨ j = 2 ∨ j = 3 ∨ j = 4 ∨ j = 5 ∨ j = 6 ∨ j = 7 ∨ j = 8 ∨ j = 9 ∨ j = 10 ∨ j = 11 := by omega
            rcases hivl with rfl | rfl | rfl | rfl | rfl | rfl | rfl | rfl | rfl | rfl | rfl | rfl <;> exact fun _ _ _ h => h
          · rw [if_neg e, if_neg e]; exact fun _ _ _ h => h
        · have hop := show bOp s (l.getD i 0) (opAt s.ops i) = _ from (if_neg hk3).trans ((if_neg (by omega)).trans ((if_neg (by omega)).trans ((if_neg (by omega)).trans ((if_neg (by omega)).trans (if_neg (by omega))))))
          have e0 := beq_eq_false_iff_ne.2 n0
          have e1 := beq_eq_false_iff_ne.2 n1
          have e2 := beq_eq_false_iff_ne.2 n2
          have e3 := beq_eq_false_iff_ne.2 n3
          have e4 := beq_eq_false_iff_ne.2 n4
          have e5 := beq_eq_false_iff_ne.2 n5
          have e6 := beq_eq_false_iff_ne.2 n6
          have e7 := beq_eq_false_iff_ne.2 n7
          have e8 := beq_eq_false_iff_ne.2 n8
          repeat' (first | with_reducible exact tr_a | refine dec_a (And.intro hq (And.intro e0 (And.intro e1 (And.intro e2 (And.intro e3 (And.intro e4 (And.intro e5 (And.intro e6 (And.intro e7 e8))))))))) ?_ | refine un_a ?_ | ((first | refine st_a (fun K hK => ?_) | refine rg_a ?_ | refine call_c (mod_spec (l.getD i 0) 16 (by omega)) ?_ | refine gcall_c (fun hg => mod_spec (l.getD i 0) 16 (by omega)) ?_ | refine call_c (mod_spec (IntKind.i64.wrap ((l.getD i 0).tdiv 16)) 3 (by omega)) ?_ | refine gcall_c (fun hg => mod_spec (IntKind.i64.wrap ((l.getD i 0).tdiv 16)) 3 (by omega)) ?_ | refine call_c (mod_spec (IntKind.i64.wrap ((l.getD i 0).tdiv 16)) 2 (by omega)) ?_ | refine gcall_c (fun hg => mod_spec (IntKind.i64.wrap ((l.getD i 0).tdiv 16)) 2 (by omega)) ?_); (repeat' (refine And.intro ?_ ?_)); (all_goals first | (refine hK _ ?_; clear hK K) | exact auto_cl | skip)) | ((first | apply cw_ite | apply cw_iteN); (case hf => rfl); (case hc => exact ev_a); (all_goals first | (intro hb; (try simp only [hbs] at hb)) | skip)) | exact atN_intro | (refine if_a (fun hb => ?_) (fun hb => ?_); (all_goals (try first | with_reducible exact True.intro | (exfalso; omega)))) | refine cw_blocks (fun KB hB => ?_) | (refine hB _ ?_; clear hB KB) | refine exit_by (S := Sg) (by assumption) ?_ | (refine ret_a ?_; (try clear hB KB); (try clear hK K)))
          rw [thenQ_normal]
          refine wk_loop (i + 1) ?_ ⟨by omega, by omega⟩ (by omega)
          refine le_a [(1, some 1), (2, some 2), (3, some 3)] ?_ ?_
          repeat' (refine And.intro ?_ ?_)
          all_goals first | exact le_cl | skip
          refine .inr fun a ha j hj => ?_
          show PV.le _ (fnOf opE (bAt s l (i + 1)) a j)
          rw [bstep s l i j ha]
          by_cases e : a = i
          · rw [if_pos e, if_pos e, hop]
            simp only [hoi]
            have hivl : j = 0 ∨ j = 1 ∨ j = 2 ∨ j = 3 ∨ j = 4 ∨ j = 5 ∨ j = 6 ∨ j = 7 ∨ j = 8 ∨ j = 9 ∨ j = 10 ∨ j = 11 := by omega
            rcases hivl with rfl | rfl | rfl | rfl | rfl | rfl | rfl | rfl | rfl | rfl | rfl | rfl <;> exact fun _ _ _ h => h
          · rw [if_neg e, if_neg e]; exact fun _ _ _ h => h
      · have he : i = l.length := by omega
        repeat' (first | with_reducible exact tr_a | refine un_a ?_ | ((first | refine st_a (fun K hK => ?_) | refine rg_a ?_); (repeat' (refine And.intro ?_ ?_)); (all_goals first | (refine hK _ ?_; clear hK K) | exact auto_cl | skip)) | ((first | apply cw_ite | apply cw_iteN); (case hf => rfl); (case hc => exact ev_a); (all_goals first | (intro hb; (try simp only [hbs] at hb)) | skip)) | exact atN_intro | (refine if_a (fun hb => ?_) (fun hb => ?_); (all_goals (try first | with_reducible exact True.intro | (exfalso; omega)))) | refine cw_blocks (fun KB hB => ?_) | (refine hB _ ?_; clear hB KB) | refine exit_by (S := Sg) (by assumption) ?_ | (refine ret_a ?_; (try clear hB KB); (try clear hK K)))
        have e1 : (biasM s l).images.length = s.images.length + 2 := by show (bImgs s).length = _; rw [bImgs, List.length_append]; rfl
        have e2 : (biasM s l).ops.length = s.ops.length := bAt_len s l _
        rw [e1, e2, hend i (.inr he) hi2]
        refine ⟨⟨_, rfl, rfl, fun _ _ _ _ => PV.le_refl _⟩, ?_⟩
        repeat' (refine And.intro ?_ ?_)
        all_goals first | exact .inl rfl | trivial | skip
    · have he : i = s.ops.length := by omega
      repeat' (first | with_reducible exact tr_a | refine un_a ?_ | ((first | refine st_a (fun K hK => ?_) | refine rg_a ?_); (repeat' (refine And.intro ?_ ?_)); (all_goals first | (refine hK _ ?_; clear hK K) | exact auto_cl | skip)) | ((first | apply cw_ite | apply cw_iteN); (case hf => rfl); (case hc => exact ev_a); (all_goals first | (intro hb; (try simp only [hbs] at hb)) | skip)) | exact atN_intro | (refine if_a (fun hb => ?_) (fun hb => ?_); (all_goals (try first | with_reducible exact True.intro | (exfalso; omega)))) | refine cw_blocks (fun KB hB => ?_) | (refine hB _ ?_; clear hB KB) | refine exit_by (S := Sg) (by assumption) ?_ | (refine ret_a ?_; (try clear hB KB); (try clear hK K)))
      have e1 : (biasM s l).images.length = s.images.length + 2 := by show (bImgs s).length = _; rw [bImgs, List.length_append]; rfl
      have e2 : (biasM s l).ops.length = s.ops.length := bAt_len s l _
      rw [e1, e2, hend i (.inl he) hi2]
      refine ⟨⟨_, rfl, rfl, fun _ _ _ _ => PV.le_refl _⟩, ?_⟩
      repeat' (refine And.intro ?_ ?_)
      all_goals first | exact .inl rfl | trivial | skip
theorem bias_sp (s : Script) (l : List Int) (hs : ScriptLen s) (hl : l.length ≤ 4611686018427387904) (ho : s.ops.length ≤ 4096) (hi : s.images.length ≤ 4096) :
    Pure Sg 23 [ag (scriptE s), .c (.p (ints l))] (fun x => x = .b (ag (scriptE (biasM s l)))) :=
  pure_ownK (bias_own s l hs hl ho hi) rfl
end Go.Proofs.YtbpplplnkgmhlaaGreatDoor

/- The given types of the scenes: whatever a row reads at them is such a scene. -/
set_option maxRecDepth 8000
namespace Go.Proofs.YtbpplplnkgmhlaaGreatDoor
open Go Go.SL

theorem wf_i64 {n : Int} (h : (Lit.int .i64 n).wf = true) : i64 n := bounds_i64 h
theorem wf_u16 {n : Int} (h : (Lit.int .u16 n).wf = true) : u16 n := bounds_u16 h
theorem all_getD {α : Type} [Inhabited α] {p : α → Prop} {l : List α} (h : ∀ x ∈ l, p x) (i : Nat) (hi : i < l.length) : p (l.getD i default) := by
  rw [List.getD_eq_getElem?_getD, List.getElem?_eq_getElem hi]
  exact h _ (List.getElem_mem _)
theorem len_le {n b : Nat} (hb : 0 < b) (h : n * b ≤ reachBytes) : n ≤ 4611686018427387904 := by
  have : n ≤ n * b := Nat.le_mul_of_pos_right _ hb
  have e : reachBytes = 140737488351232 := rfl
  omega

theorem c_int : Cdc Sg.P 3 (fun n => [PI n]) i64 := (cdc_int (k := .i64) (by kernel_rfl)).to id (fun _ => rfl) (fun _ h => wf_i64 h)
theorem c_u16 : Cdc Sg.P 49 (fun n => [PU n]) u16 := (cdc_int (k := .u16) (by kernel_rfl)).to id (fun _ => rfl) (fun _ h => wf_u16 h)
theorem c_bool : Cdc Sg.P 4 (fun b => [PB b]) (fun _ => True) := cdc_bool (by kernel_rfl)
theorem c_ints : Cdc Sg.P 22 (fun l => [ints l]) (fun l => l.length ≤ 4611686018427387904 ∧ ∀ x ∈ l, i64 x) :=
  (cdc_slice (sz := 1) (by8 := 8) (by kernel_rfl) (by kernel_rfl) (by decide) (by kernel_rfl) c_int).to id (fun _ => rfl) (fun _ h => ⟨len_le (by decide) h.1, h.2⟩)
theorem c_raw : Cdc Sg.P 103 rawE RawOk := by
  refine Cdc.to (cdc_struct ?_ ?_ (cdcL_cons c_int rfl (cdcL_cons c_int rfl (cdcL_cons c_int rfl (cdcL_cons c_int rfl (cdcL_cons c_int rfl (cdcL_cons c_int rfl (cdcL_cons c_int rfl (cdcL_cons c_int rfl (cdcL_cons c_int rfl (cdcL_cons c_int rfl (cdcL_cons c_int rfl cdcL_nil))))))))))))
    (fun (a, b, c, d, e, f, g, h, i, j, k, _) => (⟨a, b, c, d, e, f, g, h, i, j, k⟩ : Raw)) (fun _ => rfl) ?_
  · kernel_rfl
  · kernel_rfl
  · rintro _ ⟨h1, h2, h3, h4, h5, h6, h7, h8, h9, h10, h11, _⟩
    exact ⟨h1, h2, h3, h4, h5, h6, h7, h8, h9, h10, h11⟩
theorem c_n5 : Cdc Sg.P 156 n5E N5ok := by
  refine Cdc.to (cdc_struct ?_ ?_ (cdcL_cons c_int rfl (cdcL_cons c_int rfl (cdcL_cons c_int rfl (cdcL_cons c_int rfl (cdcL_cons c_int rfl cdcL_nil)))))) (fun (a, b, c, d, e, _) => (⟨a, b, c, d, e⟩ : N5)) (fun _ => rfl) ?_
  · kernel_rfl
  · kernel_rfl
  · rintro _ ⟨h1, h2, h3, h4, h5, _⟩
    exact ⟨h1, h2, h3, h4, h5⟩
theorem c_n5s : Cdc Sg.P 28 (fun l => [n5L l]) (fun l => l.length ≤ 4611686018427387904 ∧ ∀ x ∈ l, N5ok x) :=
  (cdc_slice (sz := 5) (by8 := 40) (by kernel_rfl) (by kernel_rfl) (by decide) (by kernel_rfl) c_n5).to id (fun _ => rfl) (fun _ h => ⟨len_le (by decide) h.1, h.2⟩)
theorem c_row : Cdc Sg.P 30 rowE RowOk := by
  refine Cdc.to (cdc_struct ?_ ?_ (cdcL_cons c_int rfl (cdcL_cons c_n5s rfl cdcL_nil))) (fun (a, b, _) => (⟨a, b⟩ : Row)) (fun _ => rfl) ?_
  · kernel_rfl
  · kernel_rfl
  · rintro _ ⟨h1, h2, _⟩
    exact ⟨h1, all_getD h2.2, h2.1⟩
theorem c_pic : Cdc Sg.P 100 picE PicOk := by
  refine Cdc.to (cdc_struct ?_ ?_ (cdcL_cons c_int rfl (cdcL_cons c_int rfl (cdcL_cons c_int rfl (cdcL_cons c_row rfl cdcL_nil))))) (fun (a, b, c, d, _) => (⟨a, b, c, d⟩ : Pic)) (fun _ => rfl) ?_
  · kernel_rfl
  · kernel_rfl
  · rintro _ ⟨h1, h2, h3, h4, _⟩
    exact ⟨h1, h2, h3, h4⟩
theorem c_pics : Cdc Sg.P 23 (fun l => [picL l]) (fun l => l.length ≤ 4611686018427387904 ∧ ∀ x ∈ l, PicOk x) :=
  (cdc_slice (sz := 5) (by8 := 56) (by kernel_rfl) (by kernel_rfl) (by decide) (by kernel_rfl) c_pic).to id (fun _ => rfl) (fun _ h => ⟨len_le (by decide) h.1, h.2⟩)
theorem c_raws : Cdc Sg.P 24 (fun l => [rawL l]) (fun l => l.length ≤ 4611686018427387904 ∧ ∀ x ∈ l, RawOk x) :=
  (cdc_slice (sz := 11) (by8 := 88) (by kernel_rfl) (by kernel_rfl) (by decide) (by kernel_rfl) c_raw).to id (fun _ => rfl) (fun _ h => ⟨len_le (by decide) h.1, h.2⟩)
theorem c_scene : Cdc Sg.P 26 sceneE SceneOk := by
  refine Cdc.to (cdc_struct ?_ ?_ (cdcL_cons c_int rfl (cdcL_cons c_int rfl (cdcL_cons c_int rfl (cdcL_cons c_int rfl (cdcL_cons c_int rfl (cdcL_cons c_int rfl (cdcL_cons c_int rfl (cdcL_cons c_ints rfl (cdcL_cons c_pics rfl (cdcL_cons c_raws rfl cdcL_nil)))))))))))
    (fun (a, b, c, d, e, f, g, h, i, j, _) => (⟨a, b, c, d, e, f, g, h, i, j⟩ : Scene)) (fun _ => rfl) ?_
  · kernel_rfl
  · kernel_rfl
  · rintro _ ⟨h1, h2, h3, h4, h5, h6, h7, h8, h9, h10, _⟩
    exact ⟨h1, h2, h3, h4, h5, h6, h7, h8.1, h9.1, h10.1, all_getD h9.2, all_getD h10.2⟩
theorem c_op : Cdc Sg.P 73 opE (fun o => i64 o.kind ∧ i64 o.image ∧ i64 o.x ∧ i64 o.y ∧ i64 o.mask ∧ i64 o.maskX ∧ i64 o.maskY ∧ u16 o.opacity ∧ i64 o.operator ∧ i64 o.mode) := by
  refine Cdc.to (cdc_struct ?_ ?_ (cdcL_cons c_int rfl (cdcL_cons c_int rfl (cdcL_cons c_int rfl (cdcL_cons c_int rfl (cdcL_cons c_int rfl (cdcL_cons c_int rfl (cdcL_cons c_int rfl (cdcL_cons c_u16 rfl (cdcL_cons c_int rfl (cdcL_cons c_int rfl (cdcL_cons c_bool rfl (cdcL_cons c_bool rfl cdcL_nil)))))))))))))
    (fun (a, b, c, d, e, f, g, h, i, j, k, l, _) => (⟨a, b, c, d, e, f, g, h, i, j, k, l⟩ : Op)) (fun _ => rfl) ?_
  · kernel_rfl
  · kernel_rfl
  · rintro _ ⟨h1, h2, h3, h4, h5, h6, h7, h8, h9, h10, _⟩
    exact ⟨h1, h2, h3, h4, h5, h6, h7, h8, h9, h10⟩
end Go.Proofs.YtbpplplnkgmhlaaGreatDoor

/- RulesCount and RulesKeepClear. -/
set_option maxRecDepth 8000
set_option maxHeartbeats 2000000
namespace Go.Proofs.YtbpplplnkgmhlaaGreatDoor
open Go Go.SL
open Go.RowKit (wrap64)
attribute [local go_sem] Int.toNat_natCast rxE

structure PlB (m : Image) : Prop where
  p0 : m.p0.s.length ≤ 1000000000
  p1 : m.p1.s.length ≤ 1000000000
  p2 : m.p2.s.length ≤ 1000000000
  p3 : m.p3.s.length ≤ 1000000000
  p4 : m.p4.s.length ≤ 1000000000
theorem plb_solid (w h : Int) (p : Pixel) : PlB (solidOf w h p) := ⟨Nat.zero_le _, Nat.zero_le _, Nat.zero_le _, Nat.zero_le _, Nat.zero_le _⟩
theorem plb_imageOf (w h : Int) (l : List Pixel) (hl : l.length ≤ 1000000000) : PlB (imageOf w h l) := by
  refine ⟨?_, ?_, ?_, ?_, ?_⟩ <;> (show (List.map _ l).length ≤ _; rw [List.length_map]; exact hl)
theorem plb_g (c : Scene) (i : Nat) (hi : i < (gImages c).length) : PlB ((gImages c).getD i default) := by
  have hm : (gImages c).getD i default ∈ gImages c := by
    rw [List.getD_eq_getElem?_getD, List.getElem?_eq_getElem hi]; exact List.getElem_mem _
  generalize (gImages c).getD i default = m at hm
  unfold gImages at hm
  split at hm
  · rw [List.mem_singleton.1 hm]; exact plb_solid _ _ _
  · unfold gImages0 at hm
    obtain ⟨p, hp, rfl⟩ := List.mem_map.1 hm
    unfold gImage
    split
    · exact plb_solid _ _ _
    · refine plb_imageOf _ _ _ ?_
      have := gW_le (p := p) (gCanvas_small c)
      rw [gPixels, List.length_map, List.length_range]
      omega
theorem plb_bias (c : Scene) (l : List Int) (i : Nat) (hi : i < (biasM (gScript c) l).images.length) : PlB ((biasM (gScript c) l).images.getD i default) := by
  show PlB ((bImgs (gScript c)).getD i default)
  have hl : (bImgs (gScript c)).length = (gImages c).length + 2 := by rw [bImgs, List.length_append]; rfl
  have hi : i < (bImgs (gScript c)).length := hi
  rcases Nat.lt_or_ge i (gImages c).length with h | h
  · have e : (bImgs (gScript c)).getD i default = (gImages c).getD i default := by
      show (gImages c ++ [bCover (gScript c), bDot (gScript c)]).getD i default = _
      rw [List.getD_eq_getElem?_getD, List.getD_eq_getElem?_getD, List.getElem?_append_left h]
    rw [e]; exact plb_g c i h
  · have hv : i = (gImages c).length ∨ i = (gImages c).length + 1 := by omega
    rcases hv with rfl | rfl
    · have e : (bImgs (gScript c)).getD (gImages c).length default = bCover (gScript c) := by
        show (gImages c ++ [bCover (gScript c), bDot (gScript c)]).getD (gImages c).length default = _
        rw [List.getD_eq_getElem?_getD, List.getElem?_append_right (Nat.le_refl _), Nat.sub_self]; rfl
      rw [e]; exact plb_solid _ _ _
    · have e : (bImgs (gScript c)).getD ((gImages c).length + 1) default = bDot (gScript c) := by
        show (gImages c ++ [bCover (gScript c), bDot (gScript c)]).getD ((gImages c).length + 1) default = _
        rw [List.getD_eq_getElem?_getD, List.getElem?_append_right (Nat.le_succ _), Nat.succ_sub (Nat.le_refl _), Nat.sub_self]; rfl
      rw [e]; exact plb_solid _ _ _
theorem bias_imgs (c : Scene) (l : List Int) : (biasM (gScript c) l).images.length = (gImages c).length + 2 := by
  show (bImgs (gScript c)).length = _
  rw [bImgs, List.length_append]; rfl
theorem bias_ops (c : Scene) (l : List Int) : (biasM (gScript c) l).ops.length = (gScript c).ops.length := bAt_len _ _ _
theorem sml_bias (c : Scene) (l : List Int) : Sml (biasM (gScript c) l) := by
  have hi := gImages_le c
  have hn := bias_imgs c l
  have ht := tiles_le c
  refine ⟨?_, by omega, by omega, fun i h => (plb_bias c l i h).p0, fun i h => (plb_bias c l i h).p1, fun i h => (plb_bias c l i h).p2, fun i h => (plb_bias c l i h).p3, fun i h => (plb_bias c l i h).p4⟩
  exact Nat.le_trans (gorder_len c) (by decide)
theorem len_bias (c : Scene) (l : List Int) : ScriptLen (biasM (gScript c) l) := by
  have h := gScript_len c
  have hi := gImages_le c
  have hn := bias_imgs c l
  have ho := bias_ops c l
  exact ⟨h.order, by omega, by rw [ho]; exact h.ops⟩
end Go.Proofs.YtbpplplnkgmhlaaGreatDoor

/- The boxes, as the program computes them. -/
set_option maxHeartbeats 2000000
set_option maxRecDepth 16000
namespace Go.Proofs.YtbpplplnkgmhlaaGreatDoor
open Go Go.SL
open Go.RowKit (wrap64)

def rF (l junk : List Rect) (a : Nat) : Rect := (l.reverse ++ junk).getD a zeroR
theorem rF_top {p : Rect} {t junk : List Rect} : rF (p :: t) junk t.length = p := by
  rw [rF, List.reverse_cons, List.append_assoc, List.getD_eq_getElem?_getD, List.getElem?_append_right (by simp)]
  simp
theorem rF_pop {p : Rect} {t junk : List Rect} : rF (p :: t) junk = rF t (p :: junk) := by
  funext a; rw [rF, rF, List.reverse_cons, List.append_assoc]; rfl
theorem rF_top2 {q p : Rect} {t junk : List Rect} : rF (q :: p :: t) junk t.length = p := by rw [rF_pop, rF_top]
theorem rF_top3 {q p : Rect} {t junk : List Rect} : rF (q :: p :: t) junk (t.length + 1) = q := rF_top (t := p :: t)
attribute [local go_sem] pred_cast2 Int.toNat_natCast stF_top rF_top rF_top2 rF_top3
end Go.Proofs.YtbpplplnkgmhlaaGreatDoor

/- The boxes, as the reference computes them: the same. -/
set_option maxRecDepth 8000
set_option maxHeartbeats 2000000
namespace Go.Proofs.YtbpplplnkgmhlaaGreatDoor
open Go Go.SL
open Go.RowKit (wrap64)
attribute [local go_sem] Int.toNat_natCast

end Go.Proofs.YtbpplplnkgmhlaaGreatDoor

/- What lies between two scripts: the parts of both programs. -/
set_option maxHeartbeats 2000000
set_option maxRecDepth 16000
namespace Go.Proofs.YtbpplplnkgmhlaaGreatDoor
open Go Go.SL
open Go.RowKit (wrap64)
attribute [local go_sem] Int.toNat_natCast stF_top pred_cast2

theorem op_eq {a b : Op} : a = b ↔ a.kind = b.kind ∧ a.image = b.image ∧ a.x = b.x ∧ a.y = b.y ∧ a.mask = b.mask ∧ a.maskX = b.maskX ∧ a.maskY = b.maskY ∧ a.opacity = b.opacity ∧ a.operator = b.operator ∧
    a.mode = b.mode ∧ a.isolated = b.isolated ∧ a.knockout = b.knockout := by
  cases a; cases b; simp
theorem sameOps_spec (a b : List Op) (ha : a.length ≤ 1000000) (hb : b.length ≤ 1000000) : Pure Sg 29 [.c (.p (opL a)), .c (.p (opL b))] (fun x => x = .b (B (decide (a = b)))) := by
  refine pure_of Tryz.func29 rfl (rs := [.tmp 4]) rfl rfl mixed (by decide +kernel) (Nat.le_of_ble_eq_true rfl) (argsLt_mem (by simp (maxSteps := 1000000) (disch := omega) only [go_sem])) ?_
  repeat' (first | with_reducible exact tr_a | refine un_a ?_ | ((first | refine st_a (fun K hK => ?_) | refine rg_a ?_); (repeat' (refine And.intro ?_ ?_)); (all_goals first | (refine hK _ ?_; clear hK K) | exact auto_cl | skip)) | ((first | apply cw_ite | apply cw_iteN); (case hf => rfl); (case hc => exact ev_a); (all_goals first | (intro hb; (try simp only [hbs] at hb)) | skip)) | exact atN_intro | (refine if_a (fun hb => ?_) (fun hb => ?_); (all_goals (try first | with_reducible exact True.intro | (exfalso; omega)))) | refine cw_blocks (fun KB hB => ?_) | (refine hB _ ?_; clear hB KB) | refine exit_by (S := Sg) (by assumption) ?_ | (refine ret_a ?_; (try clear hB KB); (try clear hK K)))
  · rw [decide_eq_false (fun e => by rw [e] at hb; omega)]
  refine cw_loop (X := Nat) (fun k => mkSt [(0, .b (.c (.p (opL a)))), (1, .b (.c (.p (opL b)))), (4, .b (B false)), (5, .b (I k))] [] 1) (fun k => k ≤ a.length ∧ ∀ j, j < k → opAt a j = opAt b j) (fun k => a.length - k) 0 ?_ ?_ ?_
  · exact ⟨Nat.zero_le _, fun j hj => absurd hj (Nat.not_lt_zero _)⟩
  · refine le_a [] ?_ ?_
    repeat' (refine And.intro ?_ ?_)
    all_goals first | exact le_cl | skip
  · rintro k ⟨hk, hp⟩
    repeat' (first | with_reducible exact tr_a | refine un_a ?_ | ((first | refine st_a (fun K hK => ?_) | refine rg_a ?_); (repeat' (refine And.intro ?_ ?_)); (all_goals first | (refine hK _ ?_; clear hK K) | exact auto_cl | skip)) | ((first | apply cw_ite | apply cw_iteN); (case hf => rfl); (case hc => exact ev_a); (all_goals first | (intro hb; (try simp only [hbs] at hb)) | skip)) | exact atN_intro | (refine if_a (fun hb => ?_) (fun hb => ?_); (all_goals (try first | with_reducible exact True.intro | (exfalso; omega)))) | refine cw_blocks (fun KB hB => ?_) | (refine hB _ ?_; clear hB KB) | refine exit_by (S := Sg) (by assumption) ?_ | (refine ret_a ?_; (try clear hB KB); (try clear hK K)))
    · rw [decide_eq_false]
      intro e
      subst e
      simp at hb
    · rw [thenQ_normal]
      refine wk_loop (k + 1) ?_ ⟨by omega, fun j hj => ?_⟩ (by omega)
      · refine le_a [] ?_ ?_
        repeat' (refine And.intro ?_ ?_)
        all_goals first | exact le_cl | skip
      · by_cases e : j = k
        · obtain ⟨e1, e2, e3, e4, e5, e6, e7, e8, e9, e10, e11, e12, _⟩ := hb
          rw [e]; exact op_eq.2 ⟨e1, e2, e3, e4, e5, e6, e7, e8, e9, e10, e11, e12⟩
        · exact hp j (by omega)
    · rw [decide_eq_true (opAt_ext (by omega) fun j hj => hp j (by omega))]
end Go.Proofs.YtbpplplnkgmhlaaGreatDoor

/- SimplifyReachesNormalForm. -/
set_option maxRecDepth 8000
set_option maxHeartbeats 2000000
namespace Go.Proofs.YtbpplplnkgmhlaaGreatDoor
open Go Go.SL
open Go.RowKit (wrap64)
attribute [local go_sem] Int.toNat_natCast rxE

theorem runGo_len : ∀ (f : Nat) (s : Script), (runGo f s).1.length ≤ s.ops.length
  | 0, s => Nat.le_refl _
  | f + 1, s => by
    cases hr : (redM s).head? with
    | none => rw [run_none hr]; exact Nat.le_refl _
    | some r =>
      rw [run_some hr]
      have hm := (mem_red.1 (red_head hr).1)
      exact Nat.le_trans (runGo_len f (nextS s r)) (rw_len (vops_of hm.1).wf hm.2)
end Go.Proofs.YtbpplplnkgmhlaaGreatDoor

/- What the reference of the rules looks up: frames, elements of a frame, what covers; that it is what the program looks up. Plain Lean. -/
set_option maxRecDepth 8000
set_option maxHeartbeats 2000000
namespace Go.Proofs.YtbpplplnkgmhlaaGreatDoor
open Go Go.SL

def frTo (ops : List Op) (i : Nat) : Nat → Int
  | 0 => -1
  | k + 1 => if (opAt ops k).kind = 2 ∧ i < endsM ops k then (k : Int) else frTo ops i k
def hdI (l : List Nat) : Int := match l with | [] => -1 | p :: _ => p
theorem frTo_hd {ops : List Op} {i : Nat} : ∀ {k : Nat} {L : List Nat}, L.Pairwise (fun a b => b < a) → (∀ q ∈ L, q < k) → (∀ q, q < k → (((opAt ops q).kind = 2 ∧ i < endsM ops q) ↔ q ∈ L)) → frTo ops i k = hdI L
  | 0, L, _, h, _ => by
    cases L with
    | nil => rfl
    | cons p t => exact absurd (h p (List.mem_cons_self ..)) (Nat.not_lt_zero p)
  | k + 1, L, hs, hl, hc => by
    rw [frTo]
    by_cases hk : (opAt ops k).kind = 2 ∧ i < endsM ops k
    · rw [if_pos hk]
      have hm := (hc k (Nat.lt_succ_self k)).1 hk
      cases L with
      | nil => cases hm
      | cons p t =>
        have h1 := hl p (List.mem_cons_self ..)
        have h2 : k ≤ p := by
          rcases List.mem_cons.1 hm with e | e
          · omega
          · have := (List.pairwise_cons.1 hs).1 k e; omega
        show (k : Int) = (p : Int)
        omega
    · rw [if_neg hk]
      have hn : k ∉ L := fun q => hk ((hc k (Nat.lt_succ_self k)).2 q)
      exact frTo_hd hs (fun q hq => by
        have := hl q hq
        have : q ≠ k := fun e => hn (e ▸ hq)
        omega) (fun q hq => hc q (by omega))
theorem ends_kind {ops : List Op} (W : Wf ops) {p : Nat} (hp : p < ops.length) (hk : (opAt ops p).kind = 2) : (opAt ops (endsM ops p)).kind = 3 := by
  obtain ⟨j, t, h1, h2, h3, h4⟩ := pop_of W (p := p) (ops.length - (p + 1)) (p + 1) (by omega) (by rw [stk_push hk]; exact List.mem_cons_self ..)
  rw [ends_pop W h2 h3 h4]; exact h3
theorem frTo_grp {ops : List Op} (W : Wf ops) {i : Nat} (hi : i < ops.length) : frTo ops i i = grpM ops i := by
  have hs := stk_sorted (ops := ops) i
  by_cases h3 : (opAt ops i).kind = 3
  · cases hst : stk ops i with
    | nil => exact absurd hst (W.pops i hi h3)
    | cons p t =>
      rw [hst] at hs
      have hp : p < i := stk_lt (ops := ops) (by rw [hst]; exact List.mem_cons_self ..)
      have he : endsM ops p = i := ends_pop W hi h3 hst
      have hs2 := List.pairwise_cons.1 hs
      rw [frTo_hd (L := t) hs2.2 (fun q hq => by have := hs2.1 q hq; omega)]
      · rw [grp_pop h3, topAt, stk_pop h3, hst]; rfl
      · intro q hq
        constructor
        · rintro ⟨k2, hlt⟩
          have hm := (open_iff W (i := i) (by omega) hq).2 ⟨k2, by omega⟩
          rw [hst] at hm
          rcases List.mem_cons.1 hm with e | e
          · rw [e] at hlt; omega
          · exact e
        · intro hm
          have hm2 : q ∈ stk ops i := by rw [hst]; exact List.mem_cons_of_mem _ hm
          have ho := (open_iff W (i := i) (by omega) hq).1 hm2
          refine ⟨ho.1, ?_⟩
          rcases Nat.lt_or_ge i (endsM ops q) with h | h
          · exact h
          · exfalso
            have e2 : endsM ops q = i := by omega
            -- two groups cannot end at the same place
            obtain ⟨j, u, q1, q2, q3, q4⟩ := pop_of W (p := q) (ops.length - (q + 1)) (q + 1) (by omega) (by rw [stk_push ho.1]; exact List.mem_cons_self ..)
            have e3 := ends_pop W q2 q3 q4
            have e4 : j = i := by omega
            rw [e4, hst] at q4
            have e5 : p = q := by injection q4
            have := hs2.1 q hm
            omega
  · rw [grp_no h3]
    rw [frTo_hd (L := stk ops i) hs (fun q hq => stk_lt hq)]
    · rfl
    · intro q hq
      constructor
      · rintro ⟨k2, hlt⟩
        exact (open_iff W (i := i) (by omega) hq).2 ⟨k2, by omega⟩
      · intro hm
        have ho := (open_iff W (i := i) (by omega) hq).1 hm
        refine ⟨ho.1, ?_⟩
        rcases Nat.lt_or_ge i (endsM ops q) with h | h
        · exact h
        · exfalso
          have e2 : endsM ops q = i := by omega
          have := ends_kind W (p := q) (by omega) ho.1
          rw [e2] at this
          exact h3 this

def kidL (ops : List Op) (g : Int) (i : Nat) : List Nat := (List.range i).filter fun a => decide ((opAt ops a).kind ≠ 3 ∧ grpM ops a = g)
theorem kidL_succ (ops : List Op) (g : Int) (i : Nat) : kidL ops g (i + 1) = kidL ops g i ++ if (opAt ops i).kind ≠ 3 ∧ topAt ops i = g then [i] else [] := by
  rw [kidL, List.range_succ, List.filter_append]
  congr 1
  by_cases h3 : (opAt ops i).kind = 3
  · rw [if_neg (fun q => q.1 h3), List.filter_cons_of_neg (by simp [h3])]; rfl
  · by_cases hg : topAt ops i = g
    · rw [if_pos ⟨h3, hg⟩, List.filter_cons_of_pos (by simp [h3, grp_no h3, hg])]; rfl
    · rw [if_neg (fun q => hg q.2), List.filter_cons_of_neg (by simp [h3, grp_no h3, hg])]; rfl
theorem kidL_len (ops : List Op) (g : Int) : ∀ i, (kidL ops g i).length = kidsTo ops i g
  | 0 => rfl
  | i + 1 => by
    rw [kidL_succ, List.length_append, kidL_len ops g i, kidsTo]
    split <;> rfl
theorem kidL_pre (ops : List Op) (g : Int) {i m : Nat} (h : i ≤ m) : ∃ r, kidL ops g m = kidL ops g i ++ r ∧ ∀ a ∈ r, i ≤ a := by
  induction m with
  | zero => exact ⟨[], by rw [show i = 0 by omega, List.append_nil], fun a ha => by cases ha⟩
  | succ m ih =>
    rcases Nat.lt_or_ge i (m + 1) with h1 | h1
    · obtain ⟨r, hr, hg⟩ := ih (by omega)
      rw [kidL_succ, hr, List.append_assoc]
      refine ⟨_, rfl, fun a ha => ?_⟩
      rcases List.mem_append.1 ha with ha | ha
      · exact hg a ha
      · split at ha
        · rw [List.mem_singleton.1 ha]; omega
        · cases ha
    · exact ⟨[], by rw [show i = m + 1 by omega, List.append_nil], fun a ha => by cases ha⟩
theorem kidL_mem {ops : List Op} {g : Int} {i a : Nat} : a ∈ kidL ops g i ↔ a < i ∧ (opAt ops a).kind ≠ 3 ∧ topAt ops a = g := by
  rw [kidL, List.mem_filter, List.mem_range, decide_eq_true_eq]
  constructor
  · rintro ⟨h1, h2, h3⟩; exact ⟨h1, h2, by rw [← h3, grp_no h2]⟩
  · rintro ⟨h1, h2, h3⟩; exact ⟨h1, h2, by rw [← h3, grp_no h2]⟩
theorem kidL_first {ops : List Op} {i : Nat} (hi : i < ops.length) (h3 : (opAt ops i).kind ≠ 3) : ((kidL ops (grpM ops i) ops.length).getD 0 0 == i) = firstM ops i ∧ 0 < (kidL ops (grpM ops i) ops.length).length := by
  obtain ⟨r, hr, _⟩ := kidL_pre ops (grpM ops i) (i := i + 1) (m := ops.length) hi
  rw [hr, kidL_succ, if_pos ⟨h3, (grp_no h3).symm⟩, firstM, ← kidL_len, ← grp_no h3]
  refine ⟨?_, by simp only [List.length_append, List.length_cons]; omega⟩
  cases hk : kidL ops (grpM ops i) i with
  | nil => rw [decide_eq_true ⟨h3, rfl⟩]; exact beq_self_eq_true _
  | cons a t =>
    have ha : a < i := (kidL_mem.1 (show a ∈ kidL ops (grpM ops i) i by rw [hk]; exact List.mem_cons_self ..)).1
    rw [decide_eq_false (fun q => by cases q.2)]
    exact beq_eq_false_iff_ne.2 (by show a ≠ i; omega)
theorem kidL_one {s : Script} (W : Wf s.ops) {i : Nat} (hi : i < s.ops.length) (hk : (opAt s.ops i).kind = 2) (h1 : kidsM s.ops i = 1) : kidL s.ops i s.ops.length = [i + 1] := by
  obtain ⟨he, hk3⟩ := kid_next W hi hk (by omega)
  have hel := ends_lt W hi
  have hm : i + 1 ∈ kidL s.ops i s.ops.length := kidL_mem.2 ⟨by omega, hk3, topAt_push hk⟩
  have hl : (kidL s.ops i s.ops.length).length = 1 := by rw [kidL_len]; exact h1
  cases hkl : kidL s.ops i s.ops.length with
  | nil => rw [hkl] at hm; cases hm
  | cons a t =>
    rw [hkl] at hl hm
    have ht : t = [] := List.eq_nil_of_length_eq_zero (by simpa using hl)
    subst ht
    rw [List.mem_singleton.1 hm]
theorem inside {ops : List Op} (W : Wf ops) {j m : Nat} (hj : j < ops.length) (h3 : (opAt ops j).kind ≠ 3) (h1 : j < m) (h2 : m ≤ endsM ops j) : topAt ops m ≠ topAt ops j := by
  have hel := ends_lt W hj
  have hk : (opAt ops j).kind = 2 := by
    rcases W.kinds j hj with h | h | h
    · have := ends_draw W hj h; omega
    · exact h
    · exact absurd h h3
  have hm := (open_iff W (i := m) (by omega) h1).2 ⟨hk, h2⟩
  have hlt := topAt_lt ops j
  cases hs : stk ops m with
  | nil => rw [hs] at hm; cases hm
  | cons p t =>
    have hso := stk_sorted (ops := ops) m
    rw [hs] at hm hso
    have hpj : j ≤ p := by
      rcases List.mem_cons.1 hm with e | e
      · omega
      · have := (List.pairwise_cons.1 hso).1 j e; omega
    rw [topAt_cons hs]
    omega
theorem behind {ops : List Op} (W : Wf ops) {j m : Nat} (hj : j < ops.length) (h3 : (opAt ops j).kind = 3) (h1 : j < m) (h2 : m ≤ ops.length) : topAt ops m ≠ topAt ops j := by
  cases hs : stk ops j with
  | nil => exact absurd hs (W.pops j hj h3)
  | cons p t =>
    have hp : p < j := stk_lt (ops := ops) (by rw [hs]; exact List.mem_cons_self ..)
    have hso := stk_sorted (ops := ops) j
    rw [hs] at hso
    have hout : p ∉ stk ops (j + 1) := by
      rw [stk_pop h3, hs]
      intro hc
      have := (List.pairwise_cons.1 hso).1 p hc
      omega
    have hn := stk_keep W (p := p) (i := j + 1) (by omega) hout m h1
    rw [topAt_cons hs]
    intro hc
    cases hs2 : stk ops m with
    | nil => rw [topAt_nil hs2] at hc; omega
    | cons q u =>
      rw [topAt_cons hs2] at hc
      have : q = p := by omega
      exact hn (by rw [hs2, this]; exact List.mem_cons_self ..)
def cvR (s : Script) (j : Nat) : Bool := decide ((opAt s.ops j).kind = 1) && cvM s j
theorem cdGo_any {s : Script} (W : Wf s.ops) (g : Int) : ∀ (f j : Nat), s.ops.length ≤ f + j → j ≤ s.ops.length → topAt s.ops j = g → cdGo s f j = (kidL s.ops g s.ops.length).any fun m => decide (j ≤ m) && cvR s m
  | 0, j, hf, hj, hg => by
    rw [cdGo, eq_comm, List.any_eq_false]
    intro m hm
    have := (kidL_mem.1 hm).1
    rw [decide_eq_false (by omega)]; simp
  | f + 1, j, hf, hj, hg => by
    rw [cdGo]
    rcases Nat.lt_or_ge j s.ops.length with hlt | hge
    · by_cases h3 : (opAt s.ops j).kind = 3
      · rw [decide_eq_true hlt, decide_eq_true h3]
        show false = _
        rw [eq_comm, List.any_eq_false]
        intro m hm
        obtain ⟨m1, m2, m3⟩ := kidL_mem.1 hm
        have : ¬ j ≤ m := fun hjm => by
          rcases Nat.lt_or_ge j m with h | h
          · exact behind W hlt h3 h (by omega) (by rw [m3, hg])
          · have : m = j := by omega
            rw [this] at m2; exact m2 h3
        rw [decide_eq_false this]; simp
      · rw [decide_eq_true hlt, decide_eq_false h3]
        have hel := ends_lt W hlt
        have heg := ends_ge W hlt
        have ih := cdGo_any W g f (endsM s.ops j + 1) (by omega) (by omega) (by rw [topAt_of (stk_ends W hlt h3)]; exact hg)
        rw [ih]
        show (cvR s j || _) = _
        rw [Bool.eq_iff_iff, Bool.or_eq_true, List.any_eq_true, List.any_eq_true]
        constructor
        · rintro (h | ⟨m, hm, h⟩)
          · exact ⟨j, kidL_mem.2 ⟨hlt, h3, hg⟩, by rw [decide_eq_true (Nat.le_refl j), h]; rfl⟩
          · rw [Bool.and_eq_true, decide_eq_true_eq] at h
            exact ⟨m, hm, by rw [decide_eq_true (by omega), h.2]; rfl⟩
        · rintro ⟨m, hm, h⟩
          rw [Bool.and_eq_true, decide_eq_true_eq] at h
          obtain ⟨m1, m2, m3⟩ := kidL_mem.1 hm
          rcases Nat.lt_or_ge j m with h4 | h4
          · rcases Nat.lt_or_ge (endsM s.ops j) m with h5 | h5
            · exact .inr ⟨m, hm, by rw [decide_eq_true (by omega), h.2]; rfl⟩
            · exact absurd (by rw [m3, hg]) (inside W hlt h3 h4 h5)
          · have : m = j := by omega
            rw [this] at h; exact .inl h.2
    · rw [decide_eq_false (by omega)]
      show false = _
      rw [eq_comm, List.any_eq_false]
      intro m hm
      have := (kidL_mem.1 hm).1
      rw [decide_eq_false (by omega)]; simp
theorem cdM_any {s : Script} (W : Wf s.ops) {i : Nat} (hi : i < s.ops.length) (h3 : (opAt s.ops i).kind ≠ 3) : cdM s i = (kidL s.ops (grpM s.ops i) s.ops.length).any fun m => decide (i < m) && cvR s m := by
  have hel := ends_lt W hi
  have heg := ends_ge W hi
  rw [cdM, cdGo_any W (topAt s.ops i) s.ops.length (endsM s.ops i + 1) (by omega) (by omega) (topAt_of (stk_ends W hi h3)), grp_no h3]
  rw [Bool.eq_iff_iff, List.any_eq_true, List.any_eq_true]
  constructor
  · rintro ⟨m, hm, h⟩
    rw [Bool.and_eq_true, decide_eq_true_eq] at h
    exact ⟨m, hm, by rw [decide_eq_true (by omega), h.2]; rfl⟩
  · rintro ⟨m, hm, h⟩
    rw [Bool.and_eq_true, decide_eq_true_eq] at h
    obtain ⟨m1, m2, m3⟩ := kidL_mem.1 hm
    refine ⟨m, hm, ?_⟩
    rcases Nat.lt_or_ge (endsM s.ops i) m with h5 | h5
    · rw [decide_eq_true (by omega), h.2]; rfl
    · exact absurd m3 (inside W hi h3 h.1 h5)
end Go.Proofs.YtbpplplnkgmhlaaGreatDoor

/- Covers and empty groups, as the reference asks for them. Plain Lean. -/
set_option maxRecDepth 8000
set_option maxHeartbeats 2000000
namespace Go.Proofs.YtbpplplnkgmhlaaGreatDoor
open Go Go.SL

theorem canvas_ok {s : Script} (V : VOps s) : emptyR s.canvas = false := by
  have h := V.frame
  unfold frameM at h
  split at h
  · cases h
  split at h
  · cases h
  · rename_i h2
    cases he : emptyR s.canvas with
    | true => exact absurd (.inl he) h2
    | false => rfl
theorem covers_zero {c : Rect} (hc : emptyR c = false) : coversR zeroR c = decide (zeroR = c) := by
  rw [decide_eq_false (fun e => by rw [← e] at hc; exact absurd hc (by decide)), coversR, hc, empty_zero]
  rfl
theorem covers_eq {a c : Rect} (hc : emptyR c = false) : coversR (isect a c) c = decide (isect a c = c) := by
  unfold isect
  split
  · exact covers_zero hc
  · unfold cleanR
    split
    · exact covers_zero hc
    · rename_i hm
      rw [Bool.not_eq_true] at hm
      rw [coversR, hc, hm, Bool.eq_iff_iff]
      simp only [Bool.false_or, Bool.not_false, Bool.true_and, Bool.and_eq_true, decide_eq_true_eq]
      cases c with
      | mk x0 y0 x1 y1 =>
        simp only [Rect.mk.injEq]
        omega
theorem covers_image {s : Script} (V : VOps s) (o : Op) : coversR (imageRectM s o) s.canvas = decide (imageRectM s o = s.canvas) := by
  have hc := canvas_ok V
  unfold imageRectM
  split
  · unfold placedM
    split
    · exact covers_zero hc
    split
    · exact covers_zero hc
    · exact covers_eq hc
  · exact covers_zero hc
theorem kids_zero {s : Script} (W : Wf s.ops) {i : Nat} (hi : i < s.ops.length) (hk : (opAt s.ops i).kind = 2) : decide (kidsM s.ops i = 0) = decide (endsM s.ops i = i + 1) := by
  have hel := ends_lt W hi
  have hep := ends_push W hi hk
  by_cases h : endsM s.ops i = i + 1
  · rw [decide_eq_true h]
    refine decide_eq_true ?_
    rcases Nat.eq_zero_or_pos (kidsM s.ops i) with h0 | h0
    · exact h0
    · have := (kid_next W hi hk h0).1; omega
  · rw [decide_eq_false h]
    refine decide_eq_false (fun h0 => ?_)
    have h3 : (opAt s.ops (i + 1)).kind ≠ 3 := fun h3 => h (ends_pop W (by omega) h3 (stk_push hk))
    have hm : i + 1 ∈ kidL s.ops i s.ops.length := kidL_mem.2 ⟨by omega, h3, topAt_push hk⟩
    have hl := kidL_len s.ops i s.ops.length
    have h0 : kidsTo s.ops s.ops.length i = 0 := h0
    rw [h0] at hl
    rw [List.eq_nil_of_length_eq_zero hl] at hm
    cases hm
end Go.Proofs.YtbpplplnkgmhlaaGreatDoor

/- SimplifyStepByStep: the steps, one after the other. -/
set_option maxRecDepth 8000
set_option maxHeartbeats 2000000
namespace Go.Proofs.YtbpplplnkgmhlaaGreatDoor
open Go Go.SL
open Go.RowKit (wrap64)
attribute [local go_sem] Int.toNat_natCast rxE List.getD_cons_zero

theorem steps_cnt : ∀ (f : Nat) (s : Script), (runGo f s).2.length ≤ sumW wtOp s.ops
  | 0, s => Nat.zero_le _
  | f + 1, s => by
    cases hr : (redM s).head? with
    | none => rw [run_none hr]; exact Nat.zero_le _
    | some r =>
      rw [run_some hr]
      have hm := (mem_red.1 (red_head hr).1)
      have hw := wt_less (vops_of hm.1).wf hm.2
      have := steps_cnt f (nextS s r)
      have e : (nextS s r).ops = rwM s r.1.toNat r.2.toNat := rfl
      rw [e] at this
      show _ + 1 ≤ _
      omega
end Go.Proofs.YtbpplplnkgmhlaaGreatDoor

/- The rules on scripts that are not in order, and where they do not apply. -/
set_option maxHeartbeats 2000000
set_option maxRecDepth 16000
namespace Go.Proofs.YtbpplplnkgmhlaaGreatDoor
open Go Go.SL
open Go.RowKit (wrap64)
attribute [local go_sem] Int.toNat_natCast vP vf0 vf1 vf2 vf3 vf4 vf5 vf6 vf7 vf8 vf9 vf10 vf11 vf12 vf13 vf14 rxE tiF1 tiF2 tiF3 flR0 flR1 elR

theorem Applies_no (s : Script) (hs : ScriptLen s) (he : (opsM s).1 ≠ 0) (n i : Int) : Pure Sg 32 [ag (scriptE s), I n, I i] (fun x => x = .b (B false)) := by
  have h1 := look_no s hs he
  refine pure_of Tryz.func32 rfl (rs := [.tmp 6]) rfl rfl mixed (by decide +kernel) (Nat.le_of_ble_eq_true rfl) (argsLt_mem (by simp (maxSteps := 1000000) (disch := omega) only [go_sem])) ?_
  repeat' (first | with_reducible exact tr_a | refine un_a ?_ | ((first | refine st_a (fun K hK => ?_) | refine rg_a ?_ | refine call_c (h1) ?_ | refine gcall_c (fun hg => h1) ?_); (repeat' (refine And.intro ?_ ?_)); (all_goals first | (refine hK _ ?_; clear hK K) | exact auto_cl | skip)) | ((first | apply cw_ite | apply cw_iteN); (case hf => rfl); (case hc => exact ev_a); (all_goals first | (intro hb; (try simp only [hbs] at hb)) | skip)) | exact atN_intro | (refine if_a (fun hb => ?_) (fun hb => ?_); (all_goals (try first | with_reducible exact True.intro | (exfalso; omega)))) | refine cw_blocks (fun KB hB => ?_) | (refine hB _ ?_; clear hB KB) | refine exit_by (S := Sg) (by assumption) ?_ | (refine ret_a ?_; (try clear hB KB); (try clear hK K)))
  refine gcall_off (B false) rfl (by trivial) ?_
  simp (maxSteps := 1000000) (disch := omega) only [go_sem]
  repeat' (first | with_reducible exact tr_a | refine un_a ?_ | ((first | refine st_a (fun K hK => ?_) | refine rg_a ?_); (repeat' (refine And.intro ?_ ?_)); (all_goals first | (refine hK _ ?_; clear hK K) | exact auto_cl | skip)) | ((first | apply cw_ite | apply cw_iteN); (case hf => rfl); (case hc => exact ev_a); (all_goals first | (intro hb; (try simp only [hbs] at hb)) | skip)) | exact atN_intro | (refine if_a (fun hb => ?_) (fun hb => ?_); (all_goals (try first | with_reducible exact True.intro | (exfalso; omega)))) | refine cw_blocks (fun KB hB => ?_) | (refine hB _ ?_; clear hB KB) | refine exit_by (S := Sg) (by assumption) ?_ | (refine ret_a ?_; (try clear hB KB); (try clear hK K)))
def apAll (s : Script) (n i : Int) : Bool := decide ((opsM s).1 = 0) && apM s n i
theorem Applies_all (s : Script) (hs : ScriptLen s) (n i : Int) : Pure Sg 32 [ag (scriptE s), I n, I i] (fun x => x = .b (B (apAll s n i))) := by
  unfold apAll
  by_cases he : (opsM s).1 = 0
  · rw [decide_eq_true he]; exact Applies_sp s (vops_of he) hs n i
  · rw [decide_eq_false he]; exact Applies_no s hs he n i
theorem Rewrite_no (s : Script) (hs : ScriptLen s) (he : (opsM s).1 ≠ 0) (r : Rx) : Pure Sg 69 [ag (scriptE s), ag (rxE r)] (fun x => x = .tup [.c (.p (.val (.slice none 0 0))), I (opsM s).1]) := by
  have h1 := look_no s hs he
  have h2 := vops_spec s hs
  refine pure_of Tryz.func69 rfl (rs := [.tmp 4, .tmp 5]) rfl rfl mixed (by decide +kernel) (Nat.le_of_ble_eq_true rfl) (argsLt_mem (by simp (maxSteps := 1000000) (disch := omega) only [go_sem])) ?_
  repeat' (first | with_reducible exact tr_a | refine un_a ?_ | ((first | refine st_a (fun K hK => ?_) | refine rg_a ?_ | refine call_c (h1) ?_ | refine gcall_c (fun hg => h1) ?_ | refine call_c (h2) ?_ | refine gcall_c (fun hg => h2) ?_); (repeat' (refine And.intro ?_ ?_)); (all_goals first | (refine hK _ ?_; clear hK K) | exact auto_cl | skip)) | ((first | apply cw_ite | apply cw_iteN); (case hf => rfl); (case hc => exact ev_a); (all_goals first | (intro hb; (try simp only [hbs] at hb)) | skip)) | exact atN_intro | (refine if_a (fun hb => ?_) (fun hb => ?_); (all_goals (try first | with_reducible exact True.intro | (exfalso; omega)))) | refine cw_blocks (fun KB hB => ?_) | (refine hB _ ?_; clear hB KB) | refine exit_by (S := Sg) (by assumption) ?_ | (refine ret_a ?_; (try clear hB KB); (try clear hK K)))
theorem Rewrite_off (s : Script) (V : VOps s) (hs : ScriptLen s) (r : Rx) (ha : apM s r.1 r.2 = false) : Pure Sg 69 [ag (scriptE s), ag (rxE r)] (fun x => x = .tup [.c (.p (.val (.slice none 0 0))), I 21]) := by
  have h1 := look_spec s V hs (ops_ok V)
  have h2 := applies_sp s V hs r.1 r.2
  rw [ha] at h2
  refine pure_of Tryz.func69 rfl (rs := [.tmp 4, .tmp 5]) rfl rfl mixed (by decide +kernel) (Nat.le_of_ble_eq_true rfl) (argsLt_mem (by simp (maxSteps := 1000000) (disch := omega) only [go_sem])) ?_
  repeat' (first | with_reducible exact tr_a | refine un_a ?_ | ((first | refine st_a (fun K hK => ?_) | refine rg_a ?_ | refine call_c (h1) ?_ | refine gcall_c (fun hg => h1) ?_ | refine call_c (h2) ?_ | refine gcall_c (fun hg => h2) ?_); (repeat' (refine And.intro ?_ ?_)); (all_goals first | (refine hK _ ?_; clear hK K) | exact auto_cl | skip)) | ((first | apply cw_ite | apply cw_iteN); (case hf => rfl); (case hc => exact ev_a); (all_goals first | (intro hb; (try simp only [hbs] at hb)) | skip)) | exact atN_intro | (refine if_a (fun hb => ?_) (fun hb => ?_); (all_goals (try first | with_reducible exact True.intro | (exfalso; omega)))) | refine cw_blocks (fun KB hB => ?_) | (refine hB _ ?_; clear hB KB) | refine exit_by (S := Sg) (by assumption) ?_ | (refine ret_a ?_; (try clear hB KB); (try clear hK K)))
def zS : Script := ⟨0, zeroR, 0, 0, [], [], []⟩
def applyM (s : Script) (r : Rx) : Script × Int := if (opsM s).1 = 0 then (if apM s r.1 r.2 = true then (nextS s r, 0) else (zS, 21)) else (zS, (opsM s).1)
theorem Apply_err (s : Script) (r : Rx) (e : Int) (he : e ≠ 0) (h : Pure Sg 69 [ag (scriptE s), ag (rxE r)] (fun x => x = .tup [.c (.p (.val (.slice none 0 0))), I e])) : Pure Sg 26 [ag (scriptE s), ag (rxE r)] (fun x => x = .tup [ag (scriptE zS), I e]) := by
  refine pure_le ?_
  refine pure_of Tryz.func26 rfl (rs := [.cell 4 36, .tmp 5]) rfl rfl mixed (by decide +kernel) (Nat.le_of_ble_eq_true rfl) (argsLt_mem (by simp (maxSteps := 1000000) (disch := omega) only [go_sem])) ?_
  repeat' (first | with_reducible exact tr_a | refine un_a ?_ | ((first | refine st_a (fun K hK => ?_) | refine rg_a ?_ | refine call_c (h) ?_ | refine gcall_c (fun hg => h) ?_); (repeat' (refine And.intro ?_ ?_)); (all_goals first | (refine hK _ ?_; clear hK K) | exact auto_cl | skip)) | ((first | apply cw_ite | apply cw_iteN); (case hf => rfl); (case hc => exact ev_a); (all_goals first | (intro hb; (try simp only [hbs] at hb)) | skip)) | exact atN_intro | (refine if_a (fun hb => ?_) (fun hb => ?_); (all_goals (try first | with_reducible exact True.intro | (exfalso; omega)))) | refine cw_blocks (fun KB hB => ?_) | (refine hB _ ?_; clear hB KB) | refine exit_by (S := Sg) (by assumption) ?_ | (refine ret_a ?_; (try clear hB KB); (try clear hK K)))
  refine sle_tup ⟨ble_agg ?_, ble_rfl trivial, trivial⟩
  simp only [List.map_cons, List.map_nil, cleL_cons, cleL_nil]
  repeat' (refine And.intro ?_ ?_)
  all_goals first | exact .inl rfl | exact .inl trivial | exact .inr nil_le | trivial | skip
theorem Apply_all (s : Script) (hs : ScriptLen s) (H : Sml s) (ho : s.ops.length ≤ 1000000) (r : Rx) : Pure Sg 26 [ag (scriptE s), ag (rxE r)] (fun x => x = .tup [ag (scriptE (applyM s r).1), I (applyM s r).2]) := by
  unfold applyM
  by_cases he : (opsM s).1 = 0
  · have V := vops_of he
    rw [if_pos he]
    by_cases ha : apM s r.1 r.2 = true
    · rw [if_pos ha]
      have := rw_len V.wf ha
      exact Apply_sp s V hs H r ha (by omega)
    · rw [if_neg ha]
      rw [Bool.not_eq_true] at ha
      exact Apply_err s r 21 (by decide) (Rewrite_off s V hs r ha)
  · rw [if_neg he]
    exact Apply_err s r _ he (Rewrite_no s hs he r)
end Go.Proofs.YtbpplplnkgmhlaaGreatDoor

/- The reference's rules: the walks of what it asks of a view. -/
set_option maxHeartbeats 2000000
set_option maxRecDepth 16000
namespace Go.Proofs.YtbpplplnkgmhlaaGreatDoor
open Go Go.SL
open Go.RowKit (wrap64)
attribute [local go_sem] Int.toNat_natCast

def rvE (s : Script) : List PV := scriptE s ++ [natsF s.ops.length (endsM s.ops), .lst 1 s.ops.length (fun a _ => PI (grpM s.ops a)), PU (maxOf s.bits)]
def natL (l : List Nat) : PV := .lst 1 l.length (fun a _ => PI (l.getD a 0))
attribute [local go_sem] rvE natL List.getD_cons_zero
def zvB : Bx := .fix [.p (PI 0), .p (PI 0), .p (PI 0), .p (PI 0), .p (PI 0), .p (PI 0), .p (PI 0), .p (.val (.slice none 0 0)), .p (.val (.slice none 0 0)), .p (.val (.slice none 0 0)), .p (.val (.slice none 0 0)), .p (.val (.slice none 0 0)), .p (PU 0)]
def vwB (s : Script) : Bx := .fix [.p (PI s.bits), .p (PI s.canvas.x0), .p (PI s.canvas.y0), .p (PI s.canvas.x1), .p (PI s.canvas.y1), .p (PI s.tileW), .p (PI s.tileH), .p (ints s.order), .p (imgL s.images), .p (opL s.ops), .p (natsF s.ops.length (endsM s.ops)), .own 2 s.ops.length, .p (PU (maxOf s.bits))]
attribute [local go_sem] zvB vwB
theorem rfresh_spec (o : Int) : Pure Sg 178 [I o] (fun x => x = .b (B (freshM o))) := by
  refine pure_of Tryz.func178 rfl (rs := [.tmp 2]) rfl rfl mixed (by decide +kernel) (Nat.le_of_ble_eq_true rfl) (argsLt_mem (by simp (maxSteps := 1000000) (disch := omega) only [go_sem])) ?_
  repeat' (first | with_reducible exact tr_a | refine un_a ?_ | ((first | refine st_a (fun K hK => ?_) | refine rg_a ?_); (repeat' (refine And.intro ?_ ?_)); (all_goals first | (refine hK _ ?_; clear hK K) | exact auto_cl | skip)) | ((first | apply cw_ite | apply cw_iteN); (case hf => rfl); (case hc => exact ev_a); (all_goals first | (intro hb; (try simp only [hbs] at hb)) | skip)) | exact atN_intro | (refine if_a (fun hb => ?_) (fun hb => ?_); (all_goals (try first | with_reducible exact True.intro | (exfalso; omega)))) | refine cw_blocks (fun KB hB => ?_) | (refine hB _ ?_; clear hB KB) | refine exit_by (S := Sg) (by assumption) ?_ | (refine ret_a ?_; (try clear hB KB); (try clear hK K)))
  refine bool_eq ?_
  (try simp only [freshM, Bool.and_eq_true, Bool.or_eq_true, Bool.not_eq_true', Bool.not_eq_false', decide_eq_true_eq, decide_eq_false_iff_not, ge_iff_le, gt_iff_lt, beq_iff_eq, bne_iff_ne, ne_eq, Bool.or_eq_false_iff, Bool.and_eq_false_imp, Bool.not_true, Bool.not_false])
  try omega
theorem covers_isect {r q : Rect} (hq : emptyR q = false) : coversR r q = decide (isect r q = q) := by
  have hz : ¬ zeroR = q := fun e => by rw [← e] at hq; exact absurd hq (by decide)
  rw [coversR, hq]
  unfold isect
  cases hr : emptyR r with
  | true => rw [if_pos (.inl rfl), decide_eq_false hz]; rfl
  | false =>
    rw [if_neg (by rw [hq]; decide)]
    by_cases hc : r.x0 ≤ q.x0 ∧ r.y0 ≤ q.y0 ∧ q.x1 ≤ r.x1 ∧ q.y1 ≤ r.y1
    · have e : (⟨max r.x0 q.x0, max r.y0 q.y0, min r.x1 q.x1, min r.y1 q.y1⟩ : Rect) = q := by
        cases q with
        | mk x0 y0 x1 y1 =>
          simp only [Rect.mk.injEq] at hc ⊢
          omega
      have e2 : cleanR q = q := if_neg (by rw [hq]; decide)
      rw [e, e2, decide_eq_true hc.1, decide_eq_true hc.2.1, decide_eq_true hc.2.2.1, decide_eq_true hc.2.2.2, decide_eq_true rfl]; rfl
    · have hl : (false || !false && decide (r.x0 ≤ q.x0) && decide (r.y0 ≤ q.y0) && decide (q.x1 ≤ r.x1) && decide (q.y1 ≤ r.y1)) = false := by
        rw [Bool.eq_false_iff]
        intro h
        simp only [Bool.false_or, Bool.not_false, Bool.true_and, Bool.and_eq_true, decide_eq_true_eq] at h
        exact hc ⟨h.1.1.1, h.1.1.2, h.1.2, h.2⟩
      rw [hl, eq_comm, decide_eq_false_iff_not]
      unfold cleanR
      split
      · exact hz
      · intro h
        apply hc
        have h1 := congrArg Rect.x0 h
        have h2 := congrArg Rect.y0 h
        have h3 := congrArg Rect.x1 h
        have h4 := congrArg Rect.y1 h
        dsimp only at h1 h2 h3 h4
        omega
theorem ruleM_off {s : Script} {n : Int} {i : Nat} (h : ¬ (1 ≤ n ∧ n < 10)) : ruleM s n.toNat i = false := by
  by_cases h1 : n < 1
  · rw [show n.toNat = 0 by omega]; rfl
  · obtain ⟨k, rfl⟩ : ∃ k : Nat, n = (k : Int) + 10 := ⟨(n - 10).toNat, by omega⟩
    rw [show ((k : Int) + 10).toNat = k + 10 by omega]; rfl
theorem rect_iff (a b : Rect) : a = b ↔ a.x0 = b.x0 ∧ a.y0 = b.y0 ∧ a.x1 = b.x1 ∧ a.y1 = b.y1 := by
  cases a; cases b; simp
theorem clear_eq (p : Pixel) : (p.c0 == 0 && (p.c1 == 0 && (p.c2 == 0 && true)) && (p.a == 0 && (p.f == 0 && true))) = clearP p := by
  rw [clearP, Bool.eq_iff_iff]
  simp only [Bool.and_eq_true, beq_iff_eq, decide_eq_true_eq, and_true, and_assoc]
theorem rcoversR_spec (r q : Rect) : Pure Sg 19 [ag (rectE r), ag (rectE q)] (fun x => x = .b (B (coversR r q))) := by
  have h1 := r13empty_spec q
  have h2 := risect_spec r q
  refine pure_of Tryz.func19 rfl (rs := [.tmp 4]) rfl rfl mixed (by decide +kernel) (Nat.le_of_ble_eq_true rfl) (argsLt_mem (by simp (maxSteps := 1000000) (disch := omega) only [go_sem])) ?_
  repeat' (first | with_reducible exact tr_a | refine un_a ?_ | ((first | refine st_a (fun K hK => ?_) | refine rg_a ?_ | refine call_c (h1) ?_ | refine gcall_c (fun hg => h1) ?_ | refine call_c (h2) ?_ | refine gcall_c (fun hg => h2) ?_); (repeat' (refine And.intro ?_ ?_)); (all_goals first | (refine hK _ ?_; clear hK K) | exact auto_cl | skip)) | ((first | apply cw_ite | apply cw_iteN); (case hf => rfl); (case hc => exact ev_a); (all_goals first | (intro hb; (try simp only [hbs] at hb)) | skip)) | exact atN_intro | (refine if_a (fun hb => ?_) (fun hb => ?_); (all_goals (try first | with_reducible exact True.intro | (exfalso; omega)))) | refine cw_blocks (fun KB hB => ?_) | (refine hB _ ?_; clear hB KB) | refine exit_by (S := Sg) (by assumption) ?_ | (refine ret_a ?_; (try clear hB KB); (try clear hK K)))
  refine vb ?_
  cases hq : emptyR q with
  | true => rw [coversR, hq]; rfl
  | false =>
    rw [covers_isect hq, Bool.false_or, Bool.eq_iff_iff, decide_eq_true_eq, rect_iff]
    simp only [Bool.and_eq_true, beq_iff_eq, and_true]
theorem rlook_sp (s : Script) (V : VOps s) (hs : ScriptLen s) : Pure Sg 67 [ag (scriptE s)] (fun x => x = .tup [ag (rvE s), B true]) := by
  have h1 := checkOps_spec s hs
  have h2 := ends_spec s V
  have h3 := r01max_spec s.bits
  have he := ops_ok V
  rw [he] at h1
  have hn := V.cnt
  have W := V.wf
  refine pure_le ?_
  refine pure_of Tryz.func67 rfl (rs := [.cell 2 127, .tmp 3]) rfl rfl mixed (by decide +kernel) (Nat.le_of_ble_eq_true rfl) (argsLt_mem (by simp (maxSteps := 1000000) (disch := omega) only [go_sem])) ?_
  repeat' (first | with_reducible exact tr_a | refine un_a ?_ | ((with_reducible refine cw_stepV (id := 1) (fun K hW => ?_)); (try simp (maxSteps := 1000000) (disch := omega) only [go_sem]); (repeat' (refine And.intro ?_ ?_)); (all_goals first | (refine hK _ ?_; clear hK K) | exact auto_cl | skip)) | ((first | refine st_a (fun K hK => ?_) | refine rg_a ?_ | refine call_c (h1) ?_ | refine gcall_c (fun hg => h1) ?_); (repeat' (refine And.intro ?_ ?_)); (all_goals first | (refine hK _ ?_; clear hK K) | exact auto_cl | skip)) | ((first | apply cw_ite | apply cw_iteN); (case hf => rfl); (case hc => exact ev_a); (all_goals first | (intro hb; (try simp only [hbs] at hb)) | skip)) | exact atN_intro | (refine if_a (fun hb => ?_) (fun hb => ?_); (all_goals (try first | with_reducible exact True.intro | (exfalso; omega)))) | refine cw_blocks (fun KB hB => ?_) | (refine hB _ ?_; clear hB KB) | refine exit_by (S := Sg) (by assumption) ?_ | (refine ret_a ?_; (try clear hB KB); (try clear hK K)))
  refine hW _ (mkSt [(1, .b (.c (.ptr 0 0))), (2, .b (.c (.ptr 1 0))), (4, .b (I 0))] [(0, .fix ((scriptE s).map CV.p)), (1, zvB)] 2) ?_ ?_
  · refine le_a [(1, some 1)] ?_ ?_
    repeat' (refine And.intro ?_ ?_)
    all_goals first | exact le_cl | skip
  clear hW
  repeat' (first | with_reducible exact tr_a | refine un_a ?_ | ((first | refine st_a (fun K hK => ?_) | refine rg_a ?_); (repeat' (refine And.intro ?_ ?_)); (all_goals first | (refine hK _ ?_; clear hK K) | exact auto_cl | skip)) | ((first | apply cw_ite | apply cw_iteN); (case hf => rfl); (case hc => exact ev_a); (all_goals first | (intro hb; (try simp only [hbs] at hb)) | skip)) | exact atN_intro | (refine if_a (fun hb => ?_) (fun hb => ?_); (all_goals (try first | with_reducible exact True.intro | (exfalso; omega)))) | refine cw_blocks (fun KB hB => ?_) | (refine hB _ ?_; clear hB KB) | refine exit_by (S := Sg) (by assumption) ?_ | (refine ret_a ?_; (try clear hB KB); (try clear hK K)))
  · first | exact absurd trivial hb | exact absurd hb (by decide)
  refine cw_stepR (id := 4) (.br 0 (.br 1 (.br 2 (.br 3 (.br 4 (.br 5 (.br 6 (.br 7 .leaf .nil) .nil) .nil) (.br 6 (.br 4 (.br 5 (.br 7 .leaf .nil) .nil) .nil) .nil)) .nil) .nil) .nil) .nil) (by decide +kernel) (by exact wf_a) (fun K0 hW => ?_)
  refine (fun (tl : ∀ st, Le st (mkSt [(1, .b (.c (.ptr 0 0))), (2, .b (.c (.ptr 1 0))), (6, .b (.c (.ptr 3 0)))] [(0, .fix ((scriptE s).map CV.p)), (1, zvB), (2, .arr 3 1 s.ops.length (fun _ _ => PI 0)), (3, .fix ((scriptE s).map CV.p ++ [.p (.val (.slice none 0 0)), .own 2 s.ops.length, .p (PU 0)]))] 4) → K0 st) => ?_) (fun st hl => hW st _ hl ?_)
  · clear hW
    repeat' (first | exact tree_nil | (refine tree_br (fun K' hK' => ?_) ?_) | (refine tree_leaf (tl _ ?_); clear tl) | (simp (maxSteps := 1000000) (disch := omega) only [go_sem]; (repeat' (refine And.intro ?_ ?_)); (all_goals first | (refine hK' _ ?_; clear hK' K') | trivial | omega | exact Nat.le_of_ble_eq_true rfl | exact auto_cl | skip)))
    all_goals first | (refine le_of [(1, some 1), (2, some 2), (3, some 3)] rfl (by decide) rfl ?_ ?_; (all_goals (simp (maxSteps := 1000000) (disch := omega) only [go_sem])); (repeat' (refine And.intro ?_ ?_)); (all_goals first | rfl | omega | exact .inl rfl | trivial | skip); (all_goals (refine .inr fun a ha j hj => ?_; have h2 : j = 0 := (by omega); subst h2; exact fun _ _ _ h => h)); done) | (refine le_of [(1, some 1), (2, some 3), (3, some 2)] rfl (by decide) rfl ?_ ?_; (all_goals (simp (maxSteps := 1000000) (disch := omega) only [go_sem])); (repeat' (refine And.intro ?_ ?_)); (all_goals first | rfl | omega | exact .inl rfl | trivial | skip); (all_goals (refine .inr fun a ha j hj => ?_; have h2 : j = 0 := (by omega); subst h2; exact fun _ _ _ h => h)); done)
  clear hW
  repeat' (first | with_reducible exact tr_a | refine un_a ?_ | ((first | refine st_a (fun K hK => ?_) | refine rg_a ?_ | refine call_c (h2) ?_ | refine gcall_c (fun hg => h2) ?_ | refine call_c (h3) ?_ | refine gcall_c (fun hg => h3) ?_); (repeat' (refine And.intro ?_ ?_)); (all_goals first | (refine hK _ ?_; clear hK K) | exact auto_cl | skip)) | ((first | apply cw_ite | apply cw_iteN); (case hf => rfl); (case hc => exact ev_a); (all_goals first | (intro hb; (try simp only [hbs] at hb)) | skip)) | exact atN_intro | (refine if_a (fun hb => ?_) (fun hb => ?_); (all_goals (try first | with_reducible exact True.intro | (exfalso; omega)))) | refine cw_blocks (fun KB hB => ?_) | (refine hB _ ?_; clear hB KB) | refine exit_by (S := Sg) (by assumption) ?_ | (refine ret_a ?_; (try clear hB KB); (try clear hK K)))
  refine cw_loop (X := Nat) (fun i => mkSt [(1, .b (.c (.ptr 0 0))), (2, .b (.c (.ptr 1 0))), (6, .b (.c (.ptr 3 0))), (7, .b (I i))] [(0, .fix ((scriptE s).map CV.p)), (1, zvB), (2, .arr 3 1 s.ops.length (fun a _ => PI (if a < i then grpM s.ops a else 0))), (3, vwB s)] 4) (fun i => i ≤ s.ops.length) (fun i => s.ops.length - i) 0 ?_ ?_ ?_
  · exact Nat.zero_le _
  · refine le_a [(1, some 1), (2, some 2), (3, some 3)] ?_ ?_
    repeat' (refine And.intro ?_ ?_)
    all_goals first | exact le_cl | skip
  · intro i hi
    rcases Nat.lt_or_ge i s.ops.length with hlt | hge
    · repeat' (first | with_reducible exact tr_a | refine un_a ?_ | ((first | refine st_a (fun K hK => ?_) | refine rg_a ?_); (repeat' (refine And.intro ?_ ?_)); (all_goals first | (refine hK _ ?_; clear hK K) | exact auto_cl | skip)) | ((first | apply cw_ite | apply cw_iteN); (case hf => rfl); (case hc => exact ev_a); (all_goals first | (intro hb; (try simp only [hbs] at hb)) | skip)) | exact atN_intro | (refine if_a (fun hb => ?_) (fun hb => ?_); (all_goals (try first | with_reducible exact True.intro | (exfalso; omega)))) | refine cw_blocks (fun KB hB => ?_) | (refine hB _ ?_; clear hB KB) | refine exit_by (S := Sg) (by assumption) ?_ | (refine ret_a ?_; (try clear hB KB); (try clear hK K)))
      refine cw_loop (X := Nat) (fun k => mkSt [(1, .b (.c (.ptr 0 0))), (2, .b (.c (.ptr 1 0))), (6, .b (.c (.ptr 3 0))), (7, .b (I i)), (8, .b (I k))] [(0, .fix ((scriptE s).map CV.p)), (1, zvB), (2, .arr 3 1 s.ops.length (fun a _ => PI (if a < i then grpM s.ops a else if a = i then frTo s.ops i k else 0))), (3, vwB s)] 4) (fun k => k ≤ i) (fun k => i - k) 0 ?_ ?_ ?_
      · exact Nat.zero_le _
      · refine le_a [(1, some 1), (2, some 2), (3, some 3)] ?_ ?_
        repeat' (refine And.intro ?_ ?_)
        all_goals first | exact le_cl | skip
        refine .inr fun a ha j hj => ?_
        have h2 : j = 0 := by omega
        subst h2
        by_cases e : a = i
        · subst e
          simp only [Nat.lt_irrefl, if_true, if_false]
          exact fun _ _ _ h => h
        · simp only [e, if_false]
          exact fun _ _ _ h => h
      · intro k hk
        rcases Nat.lt_or_ge k i with hkl | hkg
        · by_cases hq : (opAt s.ops k).kind = 2 ∧ i < endsM s.ops k
          · have hb1 : ((s.ops.getD k default).kind == 2 && decide ((endsM s.ops k : Int) > (i : Int))) = true := by
              rw [Bool.and_eq_true, beq_iff_eq, decide_eq_true_eq]; exact ⟨hq.1, by omega⟩
            have hf : frTo s.ops i (k + 1) = k := if_pos hq
            repeat' (first | with_reducible exact tr_a | refine dec_a hb1 ?_ | refine un_a ?_ | ((first | refine st_a (fun K hK => ?_) | refine rg_a ?_); (repeat' (refine And.intro ?_ ?_)); (all_goals first | (refine hK _ ?_; clear hK K) | exact auto_cl | skip)) | ((first | apply cw_ite | apply cw_iteN); (case hf => rfl); (case hc => exact ev_a); (all_goals first | (intro hb; (try simp only [hbs] at hb)) | skip)) | exact atN_intro | (refine if_a (fun hb => ?_) (fun hb => ?_); (all_goals (try first | with_reducible exact True.intro | (exfalso; omega)))) | refine cw_blocks (fun KB hB => ?_) | (refine hB _ ?_; clear hB KB) | refine exit_by (S := Sg) (by assumption) ?_ | (refine ret_a ?_; (try clear hB KB); (try clear hK K)))
            rw [thenQ_normal]
            refine wk_loop (k + 1) ?_ (by omega) (by omega)
            rw [hf]
            refine le_a [(1, some 1), (2, some 2), (3, some 3)] ?_ ?_
            repeat' (refine And.intro ?_ ?_)
            all_goals first | exact le_cl | skip
            refine .inr fun a ha j hj => ?_
            have h2 : j = 0 := by omega
            subst h2
            by_cases e : a = i
            · subst e
              simp only [Nat.lt_irrefl, if_true, if_false]
              exact fun _ _ _ h => h
            · simp only [e, if_false]
              exact fun _ _ _ h => h
          · have hb1 : ((s.ops.getD k default).kind == 2 && decide ((endsM s.ops k : Int) > (i : Int))) = false := by
              rw [← Bool.not_eq_true, Bool.and_eq_true, beq_iff_eq, decide_eq_true_eq]
              exact fun h => hq ⟨h.1, by have := h.2; omega⟩
            have hf : frTo s.ops i (k + 1) = frTo s.ops i k := if_neg hq
            repeat' (first | with_reducible exact tr_a | refine dec_a hb1 ?_ | refine un_a ?_ | ((first | refine st_a (fun K hK => ?_) | refine rg_a ?_); (repeat' (refine And.intro ?_ ?_)); (all_goals first | (refine hK _ ?_; clear hK K) | exact auto_cl | skip)) | ((first | apply cw_ite | apply cw_iteN); (case hf => rfl); (case hc => exact ev_a); (all_goals first | (intro hb; (try simp only [hbs] at hb)) | skip)) | exact atN_intro | (refine if_a (fun hb => ?_) (fun hb => ?_); (all_goals (try first | with_reducible exact True.intro | (exfalso; omega)))) | refine cw_blocks (fun KB hB => ?_) | (refine hB _ ?_; clear hB KB) | refine exit_by (S := Sg) (by assumption) ?_ | (refine ret_a ?_; (try clear hB KB); (try clear hK K)))
            rw [thenQ_normal]
            refine wk_loop (k + 1) ?_ (by omega) (by omega)
            rw [hf]
            refine le_a [(1, some 1), (2, some 2), (3, some 3)] ?_ ?_
            repeat' (refine And.intro ?_ ?_)
            all_goals first | exact le_cl | skip
        · have hki : k = i := by omega
          subst hki
          have hg := frTo_grp W hlt
          repeat' (first | with_reducible exact tr_a | refine un_a ?_ | ((first | refine st_a (fun K hK => ?_) | refine rg_a ?_); (repeat' (refine And.intro ?_ ?_)); (all_goals first | (refine hK _ ?_; clear hK K) | exact auto_cl | skip)) | ((first | apply cw_ite | apply cw_iteN); (case hf => rfl); (case hc => exact ev_a); (all_goals first | (intro hb; (try simp only [hbs] at hb)) | skip)) | exact atN_intro | (refine if_a (fun hb => ?_) (fun hb => ?_); (all_goals (try first | with_reducible exact True.intro | (exfalso; omega)))) | refine cw_blocks (fun KB hB => ?_) | (refine hB _ ?_; clear hB KB) | refine exit_by (S := Sg) (by assumption) ?_ | (refine ret_a ?_; (try clear hB KB); (try clear hK K)))
          rw [thenQ_normal]
          refine wk_loop (k + 1) ?_ (by omega) (by omega)
          refine le_a [(1, some 1), (2, some 2), (3, some 3)] ?_ ?_
          repeat' (refine And.intro ?_ ?_)
          all_goals first | exact le_cl | skip
          refine .inr fun a ha j hj => ?_
          have h2 : j = 0 := by omega
          subst h2
          rw [hg]
          by_cases e : a = k
          · subst e
            rw [if_neg (Nat.lt_irrefl a), if_pos rfl, if_pos (Nat.lt_succ_self a)]
            exact fun _ _ _ h => h
          · rw [if_neg e]
            by_cases h2 : a < k
            · rw [if_pos h2, if_pos (by omega)]; exact fun _ _ _ h => h
            · rw [if_neg h2, if_neg (by omega)]; exact fun _ _ _ h => h
    · have hi2 : i = s.ops.length := by omega
      subst hi2
      repeat' (first | with_reducible exact tr_a | refine un_a ?_ | ((first | refine st_a (fun K hK => ?_) | refine rg_a ?_); (repeat' (refine And.intro ?_ ?_)); (all_goals first | (refine hK _ ?_; clear hK K) | exact auto_cl | skip)) | ((first | apply cw_ite | apply cw_iteN); (case hf => rfl); (case hc => exact ev_a); (all_goals first | (intro hb; (try simp only [hbs] at hb)) | skip)) | exact atN_intro | (refine if_a (fun hb => ?_) (fun hb => ?_); (all_goals (try first | with_reducible exact True.intro | (exfalso; omega)))) | refine cw_blocks (fun KB hB => ?_) | (refine hB _ ?_; clear hB KB) | refine exit_by (S := Sg) (by assumption) ?_ | (refine ret_a ?_; (try clear hB KB); (try clear hK K)))
      refine sle_tup ⟨ble_agg ?_, ble_rfl trivial, trivial⟩
      simp only [List.map_cons, List.map_nil, cleL_cons, cleL_nil]
      repeat' (refine And.intro ?_ ?_)
      all_goals first | exact .inl rfl | exact .inl trivial | exact .inr nil_le | trivial | skip
      refine .inr (lst_le fun a ha j hj => ?_)
      rw [if_pos ha]
theorem rkids_sp (s : Script) (V : VOps s) (g : Int) : Pure Sg 122 [ag (rvE s), I g] (fun x => x = .b (.c (.p (natL (kidL s.ops g s.ops.length))))) := by
  have hn := V.cnt
  refine pure_le ?_
  refine pure_of Tryz.func122 rfl (rs := [.tmp 4]) rfl rfl mixed (by decide +kernel) (Nat.le_of_ble_eq_true rfl) (argsLt_mem (by simp (maxSteps := 1000000) (disch := omega) only [go_sem])) ?_
  repeat' (first | with_reducible exact tr_a | refine un_a ?_ | ((first | refine st_a (fun K hK => ?_) | refine rg_a ?_); (repeat' (refine And.intro ?_ ?_)); (all_goals first | (refine hK _ ?_; clear hK K) | exact auto_cl | skip)) | ((first | apply cw_ite | apply cw_iteN); (case hf => rfl); (case hc => exact ev_a); (all_goals first | (intro hb; (try simp only [hbs] at hb)) | skip)) | exact atN_intro | (refine if_a (fun hb => ?_) (fun hb => ?_); (all_goals (try first | with_reducible exact True.intro | (exfalso; omega)))) | refine cw_blocks (fun KB hB => ?_) | (refine hB _ ?_; clear hB KB) | refine exit_by (S := Sg) (by assumption) ?_ | (refine ret_a ?_; (try clear hB KB); (try clear hK K)))
  refine cw_loop (X := Nat) (fun i => mkSt [(1, .b (I g)), (2, .b (.c (.ptr 0 0))), (5, .b (.c (.own 1 (kidL s.ops g i).length))), (6, .b (I i))] [(0, .fix ((rvE s).map CV.p)), (1, .arr 3 1 (kidL s.ops g i).length (fun a _ => PI ((kidL s.ops g i).getD a 0)))] 2) (fun i => i ≤ s.ops.length) (fun i => s.ops.length - i) 0 ?_ ?_ ?_
  · exact Nat.zero_le _
  · refine le_a [(1, none)] ?_ ?_
    repeat' (refine And.intro ?_ ?_)
    all_goals first | exact le_cl | skip
  · intro i hi
    have hkl := kidsTo_le s.ops g i
    rw [← kidL_len] at hkl
    have hsu := kidL_succ s.ops g i
    rcases Nat.lt_or_ge i s.ops.length with hlt | hge
    · by_cases hq : (opAt s.ops i).kind ≠ 3 ∧ topAt s.ops i = g
      · have hb1 : ((s.ops.getD i default).kind != 3 && grpM s.ops i == g) = true := by
          rw [Bool.and_eq_true, bne_iff_ne, beq_iff_eq, grp_no hq.1]; exact hq
        rw [if_pos hq] at hsu
        repeat' (first | with_reducible exact tr_a | refine dec_a hb1 ?_ | refine un_a ?_ | ((first | refine st_a (fun K hK => ?_) | refine rg_a ?_); (repeat' (refine And.intro ?_ ?_)); (all_goals first | (refine hK _ ?_; clear hK K) | exact auto_cl | skip)) | ((first | apply cw_ite | apply cw_iteN); (case hf => rfl); (case hc => exact ev_a); (all_goals first | (intro hb; (try simp only [hbs] at hb)) | skip)) | exact atN_intro | (refine if_a (fun hb => ?_) (fun hb => ?_); (all_goals (try first | with_reducible exact True.intro | (exfalso; omega)))) | refine cw_blocks (fun KB hB => ?_) | (refine hB _ ?_; clear hB KB) | refine exit_by (S := Sg) (by assumption) ?_ | (refine ret_a ?_; (try clear hB KB); (try clear hK K)))
        rw [thenQ_normal]
        refine wk_loop (i + 1) ?_ (by omega) (by omega)
        rw [hsu, List.length_append]
        refine le_a [(1, some 3)] ?_ ?_
        repeat' (refine And.intro ?_ ?_)
        all_goals first | exact le_cl | skip
        refine .inr fun a ha j hj => ?_
        have h2 : j = 0 := by omega
        subst h2
        unfold appF
        by_cases h : a < (kidL s.ops g i).length
        · rw [if_pos h, show (kidL s.ops g i ++ [i]).getD a 0 = (kidL s.ops g i).getD a 0 by rw [List.getD_eq_getElem?_getD, List.getD_eq_getElem?_getD, List.getElem?_append_left h]]
          exact fun _ _ _ h => h
        · have e : a = (kidL s.ops g i).length := by omega
          subst e
          rw [if_neg h, Nat.sub_self, show (kidL s.ops g i ++ [i]).getD (kidL s.ops g i).length 0 = i by rw [List.getD_eq_getElem?_getD, List.getElem?_append_right (Nat.le_refl _), Nat.sub_self]; rfl]
          exact fun _ _ _ h => h
      · have hb1 : ((s.ops.getD i default).kind != 3 && grpM s.ops i == g) = false := by
          rw [← Bool.not_eq_true, Bool.and_eq_true, bne_iff_ne, beq_iff_eq]
          intro h
          exact hq ⟨h.1, by rw [← grp_no h.1]; exact h.2⟩
        rw [if_neg hq, List.append_nil] at hsu
        repeat' (first | with_reducible exact tr_a | refine dec_a hb1 ?_ | refine un_a ?_ | ((first | refine st_a (fun K hK => ?_) | refine rg_a ?_); (repeat' (refine And.intro ?_ ?_)); (all_goals first | (refine hK _ ?_; clear hK K) | exact auto_cl | skip)) | ((first | apply cw_ite | apply cw_iteN); (case hf => rfl); (case hc => exact ev_a); (all_goals first | (intro hb; (try simp only [hbs] at hb)) | skip)) | exact atN_intro | (refine if_a (fun hb => ?_) (fun hb => ?_); (all_goals (try first | with_reducible exact True.intro | (exfalso; omega)))) | refine cw_blocks (fun KB hB => ?_) | (refine hB _ ?_; clear hB KB) | refine exit_by (S := Sg) (by assumption) ?_ | (refine ret_a ?_; (try clear hB KB); (try clear hK K)))
        rw [thenQ_normal]
        refine wk_loop (i + 1) ?_ (by omega) (by omega)
        rw [hsu]
        refine le_a [(1, some 1)] ?_ ?_
        repeat' (refine And.intro ?_ ?_)
        all_goals first | exact le_cl | skip
    · have hi2 : i = s.ops.length := by omega
      subst hi2
      repeat' (first | with_reducible exact tr_a | refine un_a ?_ | ((first | refine st_a (fun K hK => ?_) | refine rg_a ?_); (repeat' (refine And.intro ?_ ?_)); (all_goals first | (refine hK _ ?_; clear hK K) | exact auto_cl | skip)) | ((first | apply cw_ite | apply cw_iteN); (case hf => rfl); (case hc => exact ev_a); (all_goals first | (intro hb; (try simp only [hbs] at hb)) | skip)) | exact atN_intro | (refine if_a (fun hb => ?_) (fun hb => ?_); (all_goals (try first | with_reducible exact True.intro | (exfalso; omega)))) | refine cw_blocks (fun KB hB => ?_) | (refine hB _ ?_; clear hB KB) | refine exit_by (S := Sg) (by assumption) ?_ | (refine ret_a ?_; (try clear hB KB); (try clear hK K)))
      exact sle_b (ble_rfl trivial)
theorem risolated_sp (s : Script) (V : VOps s) (i : Nat) (hi : i < s.ops.length) : Pure Sg 117 [ag (rvE s), I i] (fun x => x = .b (B (isoM s i))) := by
  have hn := V.cnt
  have hg := grp_lt s.ops hi
  refine pure_of Tryz.func117 rfl (rs := [.tmp 4]) rfl rfl mixed (by decide +kernel) (Nat.le_of_ble_eq_true rfl) (argsLt_mem (by simp (maxSteps := 1000000) (disch := omega) only [go_sem])) ?_
  repeat' (first | with_reducible exact tr_a | refine un_a ?_ | ((first | refine st_a (fun K hK => ?_) | refine rg_a ?_); (repeat' (refine And.intro ?_ ?_)); (all_goals first | (refine hK _ ?_; clear hK K) | exact auto_cl | skip)) | ((first | apply cw_ite | apply cw_iteN); (case hf => rfl); (case hc => exact ev_a); (all_goals first | (intro hb; (try simp only [hbs] at hb)) | skip)) | exact atN_intro | (refine if_a (fun hb => ?_) (fun hb => ?_); (all_goals (try first | with_reducible exact True.intro | (exfalso; omega)))) | refine cw_blocks (fun KB hB => ?_) | (refine hB _ ?_; clear hB KB) | refine exit_by (S := Sg) (by assumption) ?_ | (refine ret_a ?_; (try clear hB KB); (try clear hK K)))
  rfl
theorem rknockout_sp (s : Script) (V : VOps s) (i : Nat) (hi : i < s.ops.length) : Pure Sg 118 [ag (rvE s), I i] (fun x => x = .b (B (koM s i))) := by
  have hn := V.cnt
  have hg := grp_lt s.ops hi
  refine pure_of Tryz.func118 rfl (rs := [.tmp 4]) rfl rfl mixed (by decide +kernel) (Nat.le_of_ble_eq_true rfl) (argsLt_mem (by simp (maxSteps := 1000000) (disch := omega) only [go_sem])) ?_
  repeat' (first | with_reducible exact tr_a | refine un_a ?_ | ((first | refine st_a (fun K hK => ?_) | refine rg_a ?_); (repeat' (refine And.intro ?_ ?_)); (all_goals first | (refine hK _ ?_; clear hK K) | exact auto_cl | skip)) | ((first | apply cw_ite | apply cw_iteN); (case hf => rfl); (case hc => exact ev_a); (all_goals first | (intro hb; (try simp only [hbs] at hb)) | skip)) | exact atN_intro | (refine if_a (fun hb => ?_) (fun hb => ?_); (all_goals (try first | with_reducible exact True.intro | (exfalso; omega)))) | refine cw_blocks (fun KB hB => ?_) | (refine hB _ ?_; clear hB KB) | refine exit_by (S := Sg) (by assumption) ?_ | (refine ret_a ?_; (try clear hB KB); (try clear hK K)))
  refine vb ?_
  have e : decide (grpM s.ops i ≥ 0) = !decide (grpM s.ops i < 0) := by
    by_cases h : grpM s.ops i < 0
    · rw [decide_eq_true h]; exact decide_eq_false (by omega)
    · rw [decide_eq_false h]; exact decide_eq_true (by omega)
  rw [e]; rfl
theorem rfirst_sp (s : Script) (V : VOps s) (i : Nat) (hi : i < s.ops.length) (h3 : (opAt s.ops i).kind ≠ 3) : Pure Sg 116 [ag (rvE s), I i] (fun x => x = .b (B (firstM s.ops i))) := by
  have hn := V.cnt
  obtain ⟨hf, hp⟩ := kidL_first hi h3
  have h1 := rkids_sp s V (grpM s.ops i)
  rw [← hf]
  refine pure_of Tryz.func116 rfl (rs := [.tmp 4]) rfl rfl mixed (by decide +kernel) (Nat.le_of_ble_eq_true rfl) (argsLt_mem (by simp (maxSteps := 1000000) (disch := omega) only [go_sem])) ?_
  repeat' (first | with_reducible exact tr_a | refine un_a ?_ | ((first | refine st_a (fun K hK => ?_) | refine rg_a ?_ | refine call_c (h1) ?_ | refine gcall_c (fun hg => h1) ?_); (repeat' (refine And.intro ?_ ?_)); (all_goals first | (refine hK _ ?_; clear hK K) | exact auto_cl | skip)) | ((first | apply cw_ite | apply cw_iteN); (case hf => rfl); (case hc => exact ev_a); (all_goals first | (intro hb; (try simp only [hbs] at hb)) | skip)) | exact atN_intro | (refine if_a (fun hb => ?_) (fun hb => ?_); (all_goals (try first | with_reducible exact True.intro | (exfalso; omega)))) | refine cw_blocks (fun KB hB => ?_) | (refine hB _ ?_; clear hB KB) | refine exit_by (S := Sg) (by assumption) ?_ | (refine ret_a ?_; (try clear hB KB); (try clear hK K)))
  exact vb (kbeq _ _)
theorem runscaled_sp (s : Script) (V : VOps s) (i : Nat) (hi : i < s.ops.length) : Pure Sg 73 [ag (rvE s), I i] (fun x => x = .b (B (unscM s (opAt s.ops i)))) := by
  have hn := V.cnt
  refine pure_of Tryz.func73 rfl (rs := [.tmp 4]) rfl rfl mixed (by decide +kernel) (Nat.le_of_ble_eq_true rfl) (argsLt_mem (by simp (maxSteps := 1000000) (disch := omega) only [go_sem])) ?_
  repeat' (first | with_reducible exact tr_a | refine un_a ?_ | ((first | refine st_a (fun K hK => ?_) | refine rg_a ?_); (repeat' (refine And.intro ?_ ?_)); (all_goals first | (refine hK _ ?_; clear hK K) | exact auto_cl | skip)) | ((first | apply cw_ite | apply cw_iteN); (case hf => rfl); (case hc => exact ev_a); (all_goals first | (intro hb; (try simp only [hbs] at hb)) | skip)) | exact atN_intro | (refine if_a (fun hb => ?_) (fun hb => ?_); (all_goals (try first | with_reducible exact True.intro | (exfalso; omega)))) | refine cw_blocks (fun KB hB => ?_) | (refine hB _ ?_; clear hB KB) | refine exit_by (S := Sg) (by assumption) ?_ | (refine ret_a ?_; (try clear hB KB); (try clear hK K)))
  rfl
theorem rmask_sp (s : Script) (V : VOps s) (hs : ScriptLen s) (i : Nat) (hi : i < s.ops.length) (h0 : (opAt s.ops i).mask ≠ 0) : Pure Sg 177 [ag (rvE s), I i] (fun x => x = .tup [ag (imageE (imgM s ((opAt s.ops i).mask - 1))), ag (rectE (maskRectM s (opAt s.ops i)))]) := by
  have hn := V.cnt
  have hm := V.imgs
  obtain ⟨ho, hm2⟩ := op_rng V hi
  have h2 := rmaskRect_spec s (opAt s.ops i) hs ⟨ho.1, by omega⟩
  unfold opAt at h2 h0 ho
  refine pure_of Tryz.func177 rfl (rs := [.cell 4 79, .cell 5 32]) rfl rfl mixed (by decide +kernel) (Nat.le_of_ble_eq_true rfl) (argsLt_mem (by simp (maxSteps := 1000000) (disch := omega) only [go_sem])) ?_
  repeat' (first | with_reducible exact tr_a | refine un_a ?_ | ((first | refine st_a (fun K hK => ?_) | refine rg_a ?_ | refine call_c (h2) ?_ | refine gcall_c (fun hg => h2) ?_); (repeat' (refine And.intro ?_ ?_)); (all_goals first | (refine hK _ ?_; clear hK K) | exact auto_cl | skip)) | ((first | apply cw_ite | apply cw_iteN); (case hf => rfl); (case hc => exact ev_a); (all_goals first | (intro hb; (try simp only [hbs] at hb)) | skip)) | exact atN_intro | (refine if_a (fun hb => ?_) (fun hb => ?_); (all_goals (try first | with_reducible exact True.intro | (exfalso; omega)))) | refine cw_blocks (fun KB hB => ?_) | (refine hB _ ?_; clear hB KB) | refine exit_by (S := Sg) (by assumption) ?_ | (refine ret_a ?_; (try clear hB KB); (try clear hK K)))
  rfl
theorem rvoid_sp (s : Script) (V : VOps s) (hs : ScriptLen s) (i : Nat) (hi : i < s.ops.length) : Pure Sg 174 [ag (rvE s), I i] (fun x => x = .b (B (voidM s (opAt s.ops i)))) := by
  have hn := V.cnt
  have h4 := r13empty_spec (maskRectM s (opAt s.ops i))
  refine pure_of Tryz.func174 rfl (rs := [.tmp 4]) rfl rfl mixed (by decide +kernel) (Nat.le_of_ble_eq_true rfl) (argsLt_mem (by simp (maxSteps := 1000000) (disch := omega) only [go_sem])) ?_
  repeat' (first | with_reducible exact tr_a | refine un_a ?_ | ((first | refine st_a (fun K hK => ?_) | refine rg_a ?_ | refine call_c (rmask_sp s V hs i hi (by assumption)) ?_ | refine gcall_c (fun hg => rmask_sp s V hs i hi (by assumption)) ?_ | refine call_c (h4) ?_ | refine gcall_c (fun hg => h4) ?_); (repeat' (refine And.intro ?_ ?_)); (all_goals first | (refine hK _ ?_; clear hK K) | exact auto_cl | skip)) | ((first | apply cw_ite | apply cw_iteN); (case hf => rfl); (case hc => exact ev_a); (all_goals first | (intro hb; (try simp only [hbs] at hb)) | skip)) | exact atN_intro | (refine if_a (fun hb => ?_) (fun hb => ?_); (all_goals (try first | with_reducible exact True.intro | (exfalso; omega)))) | refine cw_blocks (fun KB hB => ?_) | (refine hB _ ?_; clear hB KB) | refine exit_by (S := Sg) (by assumption) ?_ | (refine ret_a ?_; (try clear hB KB); (try clear hK K)))
  · refine vb ?_
    rw [voidM, decide_eq_true (show (opAt s.ops i).mask = 0 from hb)]; rfl
  · refine vb ?_
    have hb : ¬ (opAt s.ops i).mask = 0 := hb
    rw [voidM, smA, smB, if_neg hb, decide_eq_false hb, Bool.or_comm]; rfl
theorem rfull_sp (s : Script) (V : VOps s) (hs : ScriptLen s) (i : Nat) (hi : i < s.ops.length) : Pure Sg 120 [ag (rvE s), I i] (fun x => x = .b (B (fullM s (opAt s.ops i)))) := by
  have hn := V.cnt
  have h4 := rcoversR_spec (maskRectM s (opAt s.ops i)) s.canvas
  refine pure_of Tryz.func120 rfl (rs := [.tmp 4]) rfl rfl mixed (by decide +kernel) (Nat.le_of_ble_eq_true rfl) (argsLt_mem (by simp (maxSteps := 1000000) (disch := omega) only [go_sem])) ?_
  repeat' (first | with_reducible exact tr_a | refine un_a ?_ | ((first | refine st_a (fun K hK => ?_) | refine rg_a ?_ | refine call_c (rmask_sp s V hs i hi (by assumption)) ?_ | refine gcall_c (fun hg => rmask_sp s V hs i hi (by assumption)) ?_ | refine call_c (h4) ?_ | refine gcall_c (fun hg => h4) ?_); (repeat' (refine And.intro ?_ ?_)); (all_goals first | (refine hK _ ?_; clear hK K) | exact auto_cl | skip)) | ((first | apply cw_ite | apply cw_iteN); (case hf => rfl); (case hc => exact ev_a); (all_goals first | (intro hb; (try simp only [hbs] at hb)) | skip)) | exact atN_intro | (refine if_a (fun hb => ?_) (fun hb => ?_); (all_goals (try first | with_reducible exact True.intro | (exfalso; omega)))) | refine cw_blocks (fun KB hB => ?_) | (refine hB _ ?_; clear hB KB) | refine exit_by (S := Sg) (by assumption) ?_ | (refine ret_a ?_; (try clear hB KB); (try clear hK K)))
  · refine vb ?_
    rw [fullM, smB, decide_eq_true (show (opAt s.ops i).mask = 0 from hb)]; rfl
  · refine vb ?_
    have hb : ¬ (opAt s.ops i).mask = 0 := hb
    rw [fullM, smA, smB, if_neg hb, decide_eq_false hb]; rfl
theorem rinvisible_sp (s : Script) (V : VOps s) (hs : ScriptLen s) (i : Nat) (hi : i < s.ops.length) (h3 : (opAt s.ops i).kind ≠ 3) : Pure Sg 115 [ag (rvE s), I i] (fun x => x = .b (B (invM s i))) := by
  have hn := V.cnt
  have hm := V.imgs
  have hk := V.wf.kinds i hi
  obtain ⟨ho, hm2⟩ := op_rng V hi
  have h1 := rneutral_spec (opAt s.ops i).operator
  have h2 := rvoid_sp s V hs i hi
  have h4 := rimageRect_spec s (opAt s.ops i) hs
  have h5 := r13empty_spec (imageRectM s (opAt s.ops i))
  have hkz := fun q => kids_zero V.wf hi (show (opAt s.ops i).kind = 2 from q)
  unfold opAt at h1 h2 h4 h5 hm2 h3 hk hkz
  refine pure_of Tryz.func115 rfl (rs := [.tmp 4]) rfl rfl mixed (by decide +kernel) (Nat.le_of_ble_eq_true rfl) (argsLt_mem (by simp (maxSteps := 1000000) (disch := omega) only [go_sem])) ?_
  repeat' (first | with_reducible exact tr_a | refine un_a ?_ | ((first | refine st_a (fun K hK => ?_) | refine rg_a ?_ | refine call_c (h1) ?_ | refine gcall_c (fun hg => h1) ?_ | refine call_c (h2) ?_ | refine gcall_c (fun hg => h2) ?_ | refine call_c (h4) ?_ | refine gcall_c (fun hg => h4) ?_ | refine call_c (h5) ?_ | refine gcall_c (fun hg => h5) ?_); (repeat' (refine And.intro ?_ ?_)); (all_goals first | (refine hK _ ?_; clear hK K) | exact auto_cl | skip)) | ((first | apply cw_ite | apply cw_iteN); (case hf => rfl); (case hc => exact ev_a); (all_goals first | (intro hb; (try simp only [hbs] at hb)) | skip)) | exact atN_intro | (refine if_a (fun hb => ?_) (fun hb => ?_); (all_goals (try first | with_reducible exact True.intro | (exfalso; omega)))) | refine cw_blocks (fun KB hB => ?_) | (refine hB _ ?_; clear hB KB) | refine exit_by (S := Sg) (by assumption) ?_ | (refine ret_a ?_; (try clear hB KB); (try clear hK K)))
  · refine vb ?_
    rw [invM, opAt, hb]; rfl
  · refine vb ?_
    rw [invM, opAt, ‹neutralM _ = true›]
    rcases hb with hb | hb
    · rw [decide_eq_true hb]; rfl
    · rw [hb, Bool.or_true]; rfl
  · refine vb ?_
    obtain ⟨q1, q2⟩ := ‹_ ∧ voidM _ _ = false›
    rw [invM, opAt, ‹neutralM _ = true›, decide_eq_false q1, q2, if_pos hb, hkz hb]
    exact kbeq _ (i + 1)
  · refine vb ?_
    obtain ⟨q1, q2⟩ := ‹_ ∧ voidM _ _ = false›
    rw [invM, opAt, ‹neutralM _ = true›, decide_eq_false q1, q2, if_neg hb, clear_eq]
    rfl
theorem rcovers_sp (s : Script) (V : VOps s) (hs : ScriptLen s) (i : Nat) (hi : i < s.ops.length) (h3 : (opAt s.ops i).kind ≠ 3) : Pure Sg 176 [ag (rvE s), I i] (fun x => x = .b (B (cvR s i))) := by
  have hn := V.cnt
  have hm := V.imgs
  obtain ⟨ho, hm2⟩ := op_rng V hi
  have hc := covers_image V (opAt s.ops i)
  have h1 := rknockout_sp s V i hi
  have h2 := runscaled_sp s V i hi
  have h4 := rimageRect_spec s (opAt s.ops i) hs
  unfold opAt at h2 h4 hm2 h3 hc
  refine pure_of Tryz.func176 rfl (rs := [.tmp 4]) rfl rfl mixed (by decide +kernel) (Nat.le_of_ble_eq_true rfl) (argsLt_mem (by simp (maxSteps := 1000000) (disch := omega) only [go_sem])) ?_
  repeat' (first | with_reducible exact tr_a | refine un_a ?_ | ((first | refine st_a (fun K hK => ?_) | refine rg_a ?_ | refine call_c (h1) ?_ | refine gcall_c (fun hg => h1) ?_ | refine call_c (h2) ?_ | refine gcall_c (fun hg => h2) ?_ | refine call_c (h4) ?_ | refine gcall_c (fun hg => h4) ?_); (repeat' (refine And.intro ?_ ?_)); (all_goals first | (refine hK _ ?_; clear hK K) | exact auto_cl | skip)) | ((first | apply cw_ite | apply cw_iteN); (case hf => rfl); (case hc => exact ev_a); (all_goals first | (intro hb; (try simp only [hbs] at hb)) | skip)) | exact atN_intro | (refine if_a (fun hb => ?_) (fun hb => ?_); (all_goals (try first | with_reducible exact True.intro | (exfalso; omega)))) | refine cw_blocks (fun KB hB => ?_) | (refine hB _ ?_; clear hB KB) | refine exit_by (S := Sg) (by assumption) ?_ | (refine ret_a ?_; (try clear hB KB); (try clear hK K)))
  · refine vb ?_
    rw [cvR, opAt, decide_eq_false hb]; rfl
  · refine vb ?_
    have hk : (s.ops.getD i default).kind = 1 := by assumption
    rw [cvR, cvM, opAt, decide_eq_true hk, decide_eq_true hb.1, hb.2]; rfl
  · rename_i q1 q2
    refine vb ?_
    have e1 : (decide ((s.ops.getD i default).operator = 1) && !koM s i) = false := by
      by_cases h : (s.ops.getD i default).operator = 1
      · rw [q2 h]; simp
      · rw [decide_eq_false h]; rfl
    rw [cvR, cvM, opAt, e1, Bool.false_or, hc]
    rcases hb with (hb | hb) | hb
    · rw [hb]; simp
    · rw [show (imgM s (s.ops.getD i default).image).solid = false from hb]; simp
    · rw [decide_eq_false (show ¬ imageRectM s (s.ops.getD i default) = s.canvas from fun q => Bool.noConfusion (hb (by rw [q]) (by rw [q]) (by rw [q]) (by rw [q])))]; simp
  · rename_i q3 q2 q1
    refine vb ?_
    have e1 : (decide ((s.ops.getD i default).operator = 1) && !koM s i) = false := by rw [hb]; simp
    have e2 : imageRectM s (s.ops.getD i default) = s.canvas := (rect_iff _ _).2 ⟨q1.2.1, q1.2.2.1, q1.2.2.2.1, q1.2.2.2.2.1⟩
    rw [cvR, cvM, opAt, e1, Bool.false_or, hc, q1.1.1, show (imgM s (s.ops.getD i default).image).solid = true from q1.1.2, decide_eq_true e2, if_pos hb, decide_eq_true q3]
    rfl
  · rename_i q3 q2 q1
    refine vb ?_
    have e1 : (decide ((s.ops.getD i default).operator = 1) && !koM s i) = false := by
      by_cases h : (s.ops.getD i default).operator = 1
      · have := q2 h
        rw [hb] at this; cases this
      · rw [decide_eq_false h]; rfl
    have e2 : imageRectM s (s.ops.getD i default) = s.canvas := (rect_iff _ _).2 ⟨q1.2.1, q1.2.2.1, q1.2.2.2.1, q1.2.2.2.2.1⟩
    rw [cvR, cvM, opAt, e1, Bool.false_or, hc, q1.1.1, show (imgM s (s.ops.getD i default).image).solid = true from q1.1.2, decide_eq_true e2, if_neg (by rw [hb]; decide), decide_eq_true q3]
    rfl
theorem any_drop {L : List Nat} {p : Nat → Bool} {n : Nat} (h : n < L.length) : (L.drop n).any p = (p (L.getD n 0) || (L.drop (n + 1)).any p) := by
  rw [List.drop_eq_getElem_cons h, List.any_cons, List.getD_eq_getElem?_getD, List.getElem?_eq_getElem h]; rfl
theorem rcovered_sp (s : Script) (V : VOps s) (hs : ScriptLen s) (i : Nat) (hi : i < s.ops.length) (h3 : (opAt s.ops i).kind ≠ 3) : Pure Sg 119 [ag (rvE s), I i] (fun x => x = .b (B (cdM s i))) := by
  have hn := V.cnt
  have hc := cdM_any V.wf hi h3
  have h1 := rkids_sp s V (grpM s.ops i)
  have hm : ∀ n, n < (kidL s.ops (grpM s.ops i) s.ops.length).length → (kidL s.ops (grpM s.ops i) s.ops.length).getD n 0 < s.ops.length ∧ (opAt s.ops ((kidL s.ops (grpM s.ops i) s.ops.length).getD n 0)).kind ≠ 3 := fun n h => by
    have hq : (kidL s.ops (grpM s.ops i) s.ops.length).getD n 0 ∈ kidL s.ops (grpM s.ops i) s.ops.length := by
      rw [List.getD_eq_getElem?_getD, List.getElem?_eq_getElem h]; exact List.getElem_mem _
    exact ⟨(kidL_mem.1 hq).1, (kidL_mem.1 hq).2.1⟩
  have hl := kidsTo_le s.ops (grpM s.ops i) s.ops.length
  rw [← kidL_len] at hl
  rw [hc]
  generalize kidL s.ops (grpM s.ops i) s.ops.length = L at *
  refine pure_of Tryz.func119 rfl (rs := [.tmp 4]) rfl rfl mixed (by decide +kernel) (Nat.le_of_ble_eq_true rfl) (argsLt_mem (by simp (maxSteps := 1000000) (disch := omega) only [go_sem])) ?_
  repeat' (first | with_reducible exact tr_a | refine un_a ?_ | ((first | refine st_a (fun K hK => ?_) | refine rg_a ?_ | refine call_c (h1) ?_ | refine gcall_c (fun hg => h1) ?_); (repeat' (refine And.intro ?_ ?_)); (all_goals first | (refine hK _ ?_; clear hK K) | exact auto_cl | skip)) | ((first | apply cw_ite | apply cw_iteN); (case hf => rfl); (case hc => exact ev_a); (all_goals first | (intro hb; (try simp only [hbs] at hb)) | skip)) | exact atN_intro | (refine if_a (fun hb => ?_) (fun hb => ?_); (all_goals (try first | with_reducible exact True.intro | (exfalso; omega)))) | refine cw_blocks (fun KB hB => ?_) | (refine hB _ ?_; clear hB KB) | refine exit_by (S := Sg) (by assumption) ?_ | (refine ret_a ?_; (try clear hB KB); (try clear hK K)))
  refine cw_loop (X := Nat) (fun n => mkSt [(1, .b (I i)), (2, .b (.c (.ptr 0 0))), (5, .b (.c (.p (natL L)))), (6, .b (I n))] [(0, .fix ((rvE s).map CV.p))] 1)
    (fun n => n ≤ L.length ∧ (L.any fun m => decide (i < m) && cvR s m) = ((L.drop n).any fun m => decide (i < m) && cvR s m)) (fun n => L.length - n) 0 ?_ ?_ ?_
  · exact ⟨Nat.zero_le _, rfl⟩
  · refine le_a [] ?_ ?_
    repeat' (refine And.intro ?_ ?_)
    all_goals first | exact le_cl | skip
  · rintro n ⟨hn2, he⟩
    rcases Nat.lt_or_ge n L.length with hlt | hge
    · obtain ⟨m1, m2⟩ := hm n hlt
      rw [any_drop hlt] at he
      repeat' (first | with_reducible exact tr_a | refine un_a ?_ | ((first | refine st_a (fun K hK => ?_) | refine rg_a ?_ | refine call_c (rcovers_sp s V hs (L.getD n 0) m1 m2) ?_ | refine gcall_c (fun hg => rcovers_sp s V hs (L.getD n 0) m1 m2) ?_); (repeat' (refine And.intro ?_ ?_)); (all_goals first | (refine hK _ ?_; clear hK K) | exact auto_cl | skip)) | ((first | apply cw_ite | apply cw_iteN); (case hf => rfl); (case hc => exact ev_a); (all_goals first | (intro hb; (try simp only [hbs] at hb)) | skip)) | exact atN_intro | (refine if_a (fun hb => ?_) (fun hb => ?_); (all_goals (try first | with_reducible exact True.intro | (exfalso; omega)))) | refine cw_blocks (fun KB hB => ?_) | (refine hB _ ?_; clear hB KB) | refine exit_by (S := Sg) (by assumption) ?_ | (refine ret_a ?_; (try clear hB KB); (try clear hK K)))
      · refine vb ?_
        rw [he, show (decide (i < L.getD n 0) && cvR s (L.getD n 0)) = true by rw [hb.2, Bool.and_true]; exact decide_eq_true (by omega)]; rfl
      · rw [thenQ_normal]
        have hf : (decide (i < L.getD n 0) && cvR s (L.getD n 0)) = false := by
          by_cases hlt2 : i < L.getD n 0
          · rw [hb (by omega), Bool.and_false]
          · rw [decide_eq_false hlt2]; rfl
        rw [hf, Bool.false_or] at he
        refine wk_loop (n + 1) ?_ ⟨by omega, he⟩ (by omega)
        refine le_a [] ?_ ?_
        repeat' (refine And.intro ?_ ?_)
        all_goals first | exact le_cl | skip
    · have hi2 : n = L.length := by omega
      subst hi2
      rw [List.drop_length] at he
      repeat' (first | with_reducible exact tr_a | refine un_a ?_ | ((first | refine st_a (fun K hK => ?_) | refine rg_a ?_); (repeat' (refine And.intro ?_ ?_)); (all_goals first | (refine hK _ ?_; clear hK K) | exact auto_cl | skip)) | ((first | apply cw_ite | apply cw_iteN); (case hf => rfl); (case hc => exact ev_a); (all_goals first | (intro hb; (try simp only [hbs] at hb)) | skip)) | exact atN_intro | (refine if_a (fun hb => ?_) (fun hb => ?_); (all_goals (try first | with_reducible exact True.intro | (exfalso; omega)))) | refine cw_blocks (fun KB hB => ?_) | (refine hB _ ?_; clear hB KB) | refine exit_by (S := Sg) (by assumption) ?_ | (refine ret_a ?_; (try clear hB KB); (try clear hK K)))
      exact vb he.symm
theorem rnormal_sp (s : Script) (V : VOps s) (i : Nat) (hi : i < s.ops.length) (h3 : (opAt s.ops i).kind ≠ 3) : Pure Sg 121 [ag (rvE s), I i] (fun x => x = .b (B (nrmM s i))) := by
  have hn := V.cnt
  have h1 := risolated_sp s V i hi
  have h2 := rknockout_sp s V i hi
  have h4 := rfirst_sp s V i hi h3
  have h5 := rfresh_spec (opAt s.ops i).operator
  unfold opAt at h5
  refine pure_of Tryz.func121 rfl (rs := [.tmp 4]) rfl rfl mixed (by decide +kernel) (Nat.le_of_ble_eq_true rfl) (argsLt_mem (by simp (maxSteps := 1000000) (disch := omega) only [go_sem])) ?_
  repeat' (first | with_reducible exact tr_a | refine un_a ?_ | ((first | refine st_a (fun K hK => ?_) | refine rg_a ?_ | refine call_c (h1) ?_ | refine gcall_c (fun hg => h1) ?_ | refine call_c (h2) ?_ | refine gcall_c (fun hg => h2) ?_ | refine call_c (h4) ?_ | refine gcall_c (fun hg => h4) ?_ | refine call_c (h5) ?_ | refine gcall_c (fun hg => h5) ?_); (repeat' (refine And.intro ?_ ?_)); (all_goals first | (refine hK _ ?_; clear hK K) | exact auto_cl | skip)) | ((first | apply cw_ite | apply cw_iteN); (case hf => rfl); (case hc => exact ev_a); (all_goals first | (intro hb; (try simp only [hbs] at hb)) | skip)) | exact atN_intro | (refine if_a (fun hb => ?_) (fun hb => ?_); (all_goals (try first | with_reducible exact True.intro | (exfalso; omega)))) | refine cw_blocks (fun KB hB => ?_) | (refine hB _ ?_; clear hB KB) | refine exit_by (S := Sg) (by assumption) ?_ | (refine ret_a ?_; (try clear hB KB); (try clear hK K)))
  · rw [nrmM, hb]; rfl
  · rw [nrmM, ‹isoM s i = true›, if_pos hb]; rfl
  · rw [nrmM, ‹isoM s i = true›, if_neg (by rw [hb]; decide)]; rfl
theorem runwrap_sp (s : Script) (V : VOps s) (i : Nat) (hi : i < s.ops.length) : Pure Sg 72 [ag (rvE s), I i] (fun x => x = .b (I (if unwM s i = true then (i : Int) + 1 else -1))) := by
  have hn := V.cnt
  have h1 := rkids_sp s V i
  have h2 := runscaled_sp s V i hi
  have hkl := kidL_len s.ops i s.ops.length
  by_cases hq : ((opAt s.ops i).kind = 2 ∧ (opAt s.ops i).isolated = true) ∧ kidsM s.ops i = 1
  · have hq2 := hq
    obtain ⟨⟨q1, q2⟩, q3⟩ := hq2
    rw [kidL_one V.wf hi q1 q3] at h1
    have hel := ends_lt V.wf hi
    have hnx := (kid_next V.wf hi q1 (by omega)).1
    have h4 := runscaled_sp s V (i + 1) (by omega)
    have e1 : (s.ops.getD i default).kind = 2 := q1
    have e2 : (s.ops.getD i default).isolated = true := q2
    refine pure_of Tryz.func72 rfl (rs := [.tmp 4]) rfl rfl mixed (by decide +kernel) (Nat.le_of_ble_eq_true rfl) (argsLt_mem (by simp (maxSteps := 1000000) (disch := omega) only [go_sem])) ?_
    repeat' (first | with_reducible exact tr_a | ((first | apply cw_ifT | apply cw_condT); (case hc => exact ev_a); (case ht => (simp only [Int.toNat_natCast, Int.reduceBEq, Int.reduceBNe, Int.reduceLT, Int.reduceLE, decide_true, decide_false, dcs, e1, e2, List.length_cons, List.length_nil, Nat.zero_add, Int.natCast_one, bne_self_eq_false]; done))) | ((first | apply cw_ifF | apply cw_condF); (case hc => exact ev_a); (case ht => (simp only [Int.toNat_natCast, Int.reduceBEq, Int.reduceBNe, Int.reduceLT, Int.reduceLE, decide_true, decide_false, dcs, e1, e2, List.length_cons, List.length_nil, Nat.zero_add, Int.natCast_one, bne_self_eq_false]; done))) | ((first | ((with_reducible refine cw_stepDK (id := 4) [(34, 4), (37, 3), (39, 3)] (by decide +kernel) (by decide +kernel) ?_ (fun K hK => ?_)); exact wf_a) | ((with_reducible refine cw_lastDK (id := 4) [(34, 4), (37, 3), (39, 3)] (by decide +kernel) (by decide +kernel) ?_ (fun K hK => ?_)); exact wf_a)); (try simp (maxSteps := 1000000) (disch := omega) only [go_sem]); (repeat' (refine And.intro ?_ ?_)); (all_goals first | (refine hK _ (by simp (maxSteps := 1000000) (disch := omega) only [go_sem]) ?_; clear hK K) | exact auto_cl | skip)) | refine un_a ?_ | ((first | refine st_a (fun K hK => ?_) | refine rg_a ?_ | refine call_c (h1) ?_ | refine gcall_c (fun hg => h1) ?_ | refine call_c (h2) ?_ | refine gcall_c (fun hg => h2) ?_ | refine call_c (h4) ?_ | refine gcall_c (fun hg => h4) ?_); (repeat' (refine And.intro ?_ ?_)); (all_goals first | (refine hK _ ?_; clear hK K) | exact auto_cl | skip)) | ((first | apply cw_ite | apply cw_iteN); (case hf => rfl); (case hc => exact ev_a); (all_goals first | (intro hb; (try simp only [hbs] at hb)) | skip)) | exact atN_intro | (refine if_a (fun hb => ?_) (fun hb => ?_); (all_goals (try first | with_reducible exact True.intro | (exfalso; omega)))) | refine cw_blocks (fun KB hB => ?_) | (refine hB _ ?_; clear hB KB) | refine exit_by (S := Sg) (by assumption) ?_ | (refine ret_a ?_; (try clear hB KB); (try clear hK K)))
    · have e : ¬ unwM s i = true := fun q => by
        simp only [unwM, Bool.and_eq_true, Bool.or_eq_true, decide_eq_true_eq] at q
        obtain ⟨_, ⟨q4, q5⟩, q6⟩ := q
        rcases hb with (hb | hb) | hb
        · exact hb q4
        · exact hb q5
        · rw [hb.1, hb.2] at q6
          rcases q6 with q6 | q6 <;> cases q6
      rw [if_neg e]
    · have e : unwM s i = true := by
        simp only [unwM, Bool.and_eq_true, Bool.or_eq_true, decide_eq_true_eq]
        refine ⟨⟨⟨q1, q2⟩, q3⟩, ⟨hb.1.1, hb.1.2⟩, ?_⟩
        cases h : unscM s (opAt s.ops (i + 1)) with
        | true => exact .inl rfl
        | false => exact .inr (hb.2 h)
      rw [if_pos e]; rfl
  · rw [if_neg (fun q => hq (by
      simp only [unwM, Bool.and_eq_true, decide_eq_true_eq] at q
      exact ⟨q.1.1, q.1.2⟩))]
    have hb : ((s.ops.getD i default).kind != 2 || !(s.ops.getD i default).isolated || ((kidL s.ops i s.ops.length).length : Int) != 1) = true := by
      rw [hkl, Bool.or_eq_true, Bool.or_eq_true, bne_iff_ne, Bool.not_eq_true', bne_iff_ne]
      refine Classical.byContradiction fun h => hq ?_
      simp only [not_or, Bool.not_eq_false, Decidable.not_not] at h
      exact ⟨h.1, by have := h.2; unfold kidsM; omega⟩
    refine pure_of Tryz.func72 rfl (rs := [.tmp 4]) rfl rfl mixed (by decide +kernel) (Nat.le_of_ble_eq_true rfl) (argsLt_mem (by simp (maxSteps := 1000000) (disch := omega) only [go_sem])) ?_
    repeat' (first | with_reducible exact tr_a | refine dec_a hb ?_ | refine un_a ?_ | ((first | refine st_a (fun K hK => ?_) | refine rg_a ?_ | refine call_c (h1) ?_ | refine gcall_c (fun hg => h1) ?_); (repeat' (refine And.intro ?_ ?_)); (all_goals first | (refine hK _ ?_; clear hK K) | exact auto_cl | skip)) | ((first | apply cw_ite | apply cw_iteN); (case hf => rfl); (case hc => exact ev_a); (all_goals first | (intro hb; (try simp only [hbs] at hb)) | skip)) | exact atN_intro | (refine if_a (fun hb => ?_) (fun hb => ?_); (all_goals (try first | with_reducible exact True.intro | (exfalso; omega)))) | refine cw_blocks (fun KB hB => ?_) | (refine hB _ ?_; clear hB KB) | refine exit_by (S := Sg) (by assumption) ?_ | (refine ret_a ?_; (try clear hB KB); (try clear hK K)))
theorem rapplies_sp (s : Script) (V : VOps s) (hs : ScriptLen s) (n : Int) (i : Nat) (hi : i < s.ops.length) (h3 : (opAt s.ops i).kind ≠ 3) : Pure Sg 68 [ag (rvE s), I n, I i] (fun x => x = .b (B (ruleM s n.toNat i))) := by
  have hn := V.cnt
  have h1 := rinvisible_sp s V hs i hi h3
  have h31 := rfirst_sp s V i hi h3
  have h32 := risolated_sp s V i hi
  have h33 := rknockout_sp s V i hi
  have h4 := rcovered_sp s V hs i hi h3
  have h5 := rfull_sp s V hs i hi
  have h7 := rnormal_sp s V i hi h3
  have h8 := rkids_sp s V i
  have h9 := runwrap_sp s V i hi
  by_cases hv : n = 1 ∨ n = 2 ∨ n = 3 ∨ n = 4 ∨ n = 5 ∨ n = 6 ∨ n = 7 ∨ n = 8 ∨ n = 9
  · rcases hv with rfl | rfl | rfl | rfl | rfl | rfl | rfl | rfl | rfl
    all_goals
      refine pure_of Tryz.func68 rfl (rs := [.tmp 6]) rfl rfl mixed (by decide +kernel) (Nat.le_of_ble_eq_true rfl) (argsLt_mem (by simp (maxSteps := 1000000) (disch := omega) only [go_sem])) ?_
      repeat' (first | with_reducible exact tr_a | refine dec_a h3 ?_ | refine un_a ?_ | ((first | refine st_a (fun K hK => ?_) | refine rg_a ?_ | refine call_c (h1) ?_ | refine gcall_c (fun hg => h1) ?_ | refine call_c (h31) ?_ | refine gcall_c (fun hg => h31) ?_ | refine call_c (h32) ?_ | refine gcall_c (fun hg => h32) ?_ | refine call_c (h33) ?_ | refine gcall_c (fun hg => h33) ?_ | refine call_c (h4) ?_ | refine gcall_c (fun hg => h4) ?_ | refine call_c (h5) ?_ | refine gcall_c (fun hg => h5) ?_ | refine call_c (h7) ?_ | refine gcall_c (fun hg => h7) ?_ | refine call_c (h8) ?_ | refine gcall_c (fun hg => h8) ?_ | refine call_c (h9) ?_ | refine gcall_c (fun hg => h9) ?_); (repeat' (refine And.intro ?_ ?_)); (all_goals first | (refine hK _ ?_; clear hK K) | exact auto_cl | skip)) | ((first | apply cw_ite | apply cw_iteN); (case hf => rfl); (case hc => exact ev_a); (all_goals first | (intro hb; (try simp only [hbs] at hb)) | skip)) | exact atN_intro | (refine if_a (fun hb => ?_) (fun hb => ?_); (all_goals (try first | with_reducible exact True.intro | (exfalso; omega)))) | refine cw_blocks (fun KB hB => ?_) | (refine hB _ ?_; clear hB KB) | refine exit_by (S := Sg) (by assumption) ?_ | (refine ret_a ?_; (try clear hB KB); (try clear hK K)))
    · rfl
    · rfl
    · refine vb ?_
      show _ = nthM s i
      rw [nthM, plnM, Bool.eq_iff_iff]
      simp only [opAt, Bool.and_eq_true, Bool.or_eq_true, beq_iff_eq, Bool.not_eq_true', and_assoc, or_assoc]
      exact ⟨fun h => ⟨decide_eq_true h.2.2.2, h.1, h.2.1, h.2.2.1⟩, fun h => ⟨h.2.1, h.2.2.1, h.2.2.2, of_decide_eq_true h.1⟩⟩
    · rfl
    · rfl
    · rfl
    · rfl
    · refine vb ?_
      show _ = sngM s i
      rw [kidL_len]
      exact congrArg (fun b => _ && _ && b) (kbeq _ 1)
    · refine vb ?_
      show _ = unwM s i
      cases unwM s i with
      | true => exact decide_eq_true (by rw [if_pos rfl]; omega)
      | false => exact decide_eq_false (by rw [if_neg Bool.false_ne_true]; omega)
  · refine pure_of Tryz.func68 rfl (rs := [.tmp 6]) rfl rfl mixed (by decide +kernel) (Nat.le_of_ble_eq_true rfl) (argsLt_mem (by simp (maxSteps := 1000000) (disch := omega) only [go_sem])) ?_
    repeat' (first | with_reducible exact tr_a | refine un_a ?_ | ((first | refine st_a (fun K hK => ?_) | refine rg_a ?_ | refine call_c (h1) ?_ | refine gcall_c (fun hg => h1) ?_); (repeat' (refine And.intro ?_ ?_)); (all_goals first | (refine hK _ ?_; clear hK K) | exact auto_cl | skip)) | ((first | apply cw_ite | apply cw_iteN); (case hf => rfl); (case hc => exact ev_a); (all_goals first | (intro hb; (try simp only [hbs] at hb)) | skip)) | exact atN_intro | (refine if_a (fun hb => ?_) (fun hb => ?_); (all_goals (try first | with_reducible exact True.intro | (exfalso; omega)))) | refine cw_blocks (fun KB hB => ?_) | (refine hB _ ?_; clear hB KB) | refine exit_by (S := Sg) (by assumption) ?_ | (refine ret_a ?_; (try clear hB KB); (try clear hK K)))
    exact vb (ruleM_off fun q => hv (by omega)).symm
end Go.Proofs.YtbpplplnkgmhlaaGreatDoor

/- The reference's rules: plain facts. -/
set_option maxRecDepth 8000
set_option maxHeartbeats 2000000
namespace Go.Proofs.YtbpplplnkgmhlaaGreatDoor
open Go Go.SL

def woM (l : List Op) (a b : Nat) : List Op := l.take a ++ l.drop (b + 1)
theorem wo_len {l : List Op} {a b : Nat} (h1 : a ≤ b) (h2 : b < l.length) : (woM l a b).length = l.length - (b + 1 - a) := by
  rw [woM, List.length_append, List.length_take, List.length_drop]; omega
theorem wo_unw {s : Script} {i : Nat} (h1 : i + 1 < endsM s.ops i) (h2 : endsM s.ops i < s.ops.length) :
    woM (woM (s.ops.set (i + 1) (unwOp s i)) (endsM s.ops i) (endsM s.ops i)) i i = unwOps s i := by
  have hl : (s.ops.set (i + 1) (unwOp s i)).length = s.ops.length := List.length_set
  unfold woM unwOps
  generalize endsM s.ops i = e at *
  generalize unwOp s i = o at *
  have a1 : ((s.ops.set (i + 1) o).take e ++ (s.ops.set (i + 1) o).drop (e + 1)).take i = s.ops.take i := by
    rw [List.take_append_of_le_length (by rw [List.length_take]; omega), List.take_take, Nat.min_eq_left (by omega), List.take_set_of_le (by omega)]
  have a2 : ((s.ops.set (i + 1) o).take e ++ (s.ops.set (i + 1) o).drop (e + 1)).drop (i + 1) = ((s.ops.set (i + 1) o).take e).drop (i + 1) ++ s.ops.drop (e + 1) := by
    rw [List.drop_append_of_le_length (by rw [List.length_take]; omega), List.drop_set_of_lt (by omega)]
  have a3 : ((s.ops.set (i + 1) o).take e).drop (i + 1) = o :: (s.ops.take e).drop (i + 2) := by
    rw [List.take_set, List.drop_eq_getElem_cons (by rw [List.length_set, List.length_take]; omega), List.getElem_set_self, List.drop_set_of_lt (by omega)]
  rw [a1, a2, a3]
  simp
theorem apM_rule {s : Script} {n : Int} {i : Nat} (hi : i < s.ops.length) (h3 : (opAt s.ops i).kind ≠ 3) : apM s n i = ruleM s n.toNat i := by
  by_cases h : 1 ≤ n ∧ n < 10
  · rw [apM, decide_eq_true h.1, decide_eq_true h.2, decide_eq_true (Int.natCast_nonneg i), decide_eq_true (show (i : Int) < s.ops.length by omega), Int.toNat_natCast, decide_eq_false h3]; rfl
  · rw [ruleM_off h, apM]
    by_cases h1 : 1 ≤ n
    · rw [decide_eq_false (show ¬ n < 10 from fun q => h ⟨h1, q⟩)]; simp
    · rw [decide_eq_false h1]; rfl
theorem apM_pop {s : Script} {n : Int} {i : Nat} (h3 : (opAt s.ops i).kind = 3) : apM s n i = false := by
  rw [apM, Int.toNat_natCast, decide_eq_true h3, Bool.not_true, Bool.and_false]; rfl
theorem rxAt_pop {s : Script} {i : Nat} (h3 : (opAt s.ops i).kind = 3) (n : Nat) : rxAt s i n = [] := by
  rw [rxAt]
  have : (List.range n).filter (fun m : Nat => apM s m i) = [] := by
    rw [List.filter_eq_nil_iff]
    intro a _
    rw [apM_pop h3]; decide
  rw [this]; rfl
theorem rxAt_one (s : Script) (i : Nat) : rxAt s i 1 = [] := by
  rw [rxAt_succ, if_neg (by rw [apM]; simp)]; rfl
end Go.Proofs.YtbpplplnkgmhlaaGreatDoor

/- The reference's rules: the walks of what applies, all redexes, applying one, all steps. -/
set_option maxHeartbeats 2000000
set_option maxRecDepth 16000
namespace Go.Proofs.YtbpplplnkgmhlaaGreatDoor
open Go Go.SL
open Go.RowKit (wrap64)
attribute [local go_sem] Int.toNat_natCast rxE rvE natL zvB List.getD_cons_zero

theorem rlook_no (s : Script) (hs : ScriptLen s) (he : (opsM s).1 ≠ 0) : Pure Sg 67 [ag (scriptE s)] (fun x => x = .tup [ag [PI 0, PI 0, PI 0, PI 0, PI 0, PI 0, PI 0, .val (.slice none 0 0), .val (.slice none 0 0), .val (.slice none 0 0), .val (.slice none 0 0), .val (.slice none 0 0), PU 0], B false]) := by
  have h1 := checkOps_spec s hs
  refine pure_of Tryz.func67 rfl (rs := [.cell 2 127, .tmp 3]) rfl rfl mixed (by decide +kernel) (Nat.le_of_ble_eq_true rfl) (argsLt_mem (by simp (maxSteps := 1000000) (disch := omega) only [go_sem])) ?_
  repeat' (first | with_reducible exact tr_a | refine un_a ?_ | ((first | refine st_a (fun K hK => ?_) | refine rg_a ?_ | refine call_c (h1) ?_ | refine gcall_c (fun hg => h1) ?_); (repeat' (refine And.intro ?_ ?_)); (all_goals first | (refine hK _ ?_; clear hK K) | exact auto_cl | skip)) | ((first | apply cw_ite | apply cw_iteN); (case hf => rfl); (case hc => exact ev_a); (all_goals first | (intro hb; (try simp only [hbs] at hb)) | skip)) | exact atN_intro | (refine if_a (fun hb => ?_) (fun hb => ?_); (all_goals (try first | with_reducible exact True.intro | (exfalso; omega)))) | refine cw_blocks (fun KB hB => ?_) | (refine hB _ ?_; clear hB KB) | refine exit_by (S := Sg) (by assumption) ?_ | (refine ret_a ?_; (try clear hB KB); (try clear hK K)))
  · rfl
theorem rapplies_int (s : Script) (V : VOps s) (hs : ScriptLen s) (n i : Int) (h : (0 ≤ i ∧ i < s.ops.length) ∧ (opAt s.ops i.toNat).kind ≠ 3) : Pure Sg 68 [ag (rvE s), I n, I i] (fun x => x = .b (B (ruleM s n.toNat i.toNat))) := by
  obtain ⟨k, rfl⟩ := Int.eq_ofNat_of_zero_le h.1.1
  exact rapplies_sp s V hs n k (by omega) h.2
theorem rApplies_yes (s : Script) (V : VOps s) (hs : ScriptLen s) (n i : Int) : Pure Sg 33 [ag (scriptE s), I n, I i] (fun x => x = .b (B (apM s n i))) := by
  have hn := V.cnt
  have h1 := rlook_sp s V hs
  refine pure_of Tryz.func33 rfl (rs := [.tmp 6]) rfl rfl mixed (by decide +kernel) (Nat.le_of_ble_eq_true rfl) (argsLt_mem (by simp (maxSteps := 1000000) (disch := omega) only [go_sem])) ?_
  repeat' (first | with_reducible exact tr_a | refine un_a ?_ | ((first | refine st_a (fun K hK => ?_) | refine rg_a ?_ | refine call_c (h1) ?_ | refine gcall_c (fun hg => h1) ?_ | refine call_c (rapplies_int s V hs n i (by simpa [opAt] using hg)) ?_ | refine gcall_c (fun hg => rapplies_int s V hs n i (by simpa [opAt] using hg)) ?_); (repeat' (refine And.intro ?_ ?_)); (all_goals first | (refine hK _ ?_; clear hK K) | exact auto_cl | skip)) | ((first | apply cw_ite | apply cw_iteN); (case hf => rfl); (case hc => exact ev_a); (all_goals first | (intro hb; (try simp only [hbs] at hb)) | skip)) | exact atN_intro | (refine if_a (fun hb => ?_) (fun hb => ?_); (all_goals (try first | with_reducible exact True.intro | (exfalso; omega)))) | refine cw_blocks (fun KB hB => ?_) | (refine hB _ ?_; clear hB KB) | refine exit_by (S := Sg) (by assumption) ?_ | (refine ret_a ?_; (try clear hB KB); (try clear hK K)))
  refine vb ?_
  by_cases hr : 0 ≤ i ∧ i < s.ops.length
  · obtain ⟨k, rfl⟩ := Int.eq_ofNat_of_zero_le hr.1
    rw [show decide ((k : Int) ≥ 0) = true from decide_eq_true hr.1, decide_eq_true hr.2, Int.toNat_natCast]
    by_cases h3 : (opAt s.ops k).kind = 3
    · rw [apM_pop h3, show ((s.ops.getD k default).kind != 3) = false by rw [show (s.ops.getD k default).kind = 3 from h3]; rfl]; rfl
    · rw [apM_rule (by omega) h3, show ((s.ops.getD k default).kind != 3) = true from bne_iff_ne.2 h3]; rfl
  · have e : (decide (0 ≤ i) && decide (i < (s.ops.length : Int))) = false := by
      rw [← Bool.not_eq_true, Bool.and_eq_true, decide_eq_true_eq, decide_eq_true_eq]; exact hr
    rw [show (decide (i ≥ 0) && decide (i < (s.ops.length : Int))) = false from e, apM, Bool.and_assoc (decide (1 ≤ n) && decide (n < 10)) (decide (0 ≤ i)) (decide (i < (s.ops.length : Int))), e]
    simp only [Bool.and_false, Bool.false_and]
theorem rApplies_no (s : Script) (hs : ScriptLen s) (he : (opsM s).1 ≠ 0) (n i : Int) : Pure Sg 33 [ag (scriptE s), I n, I i] (fun x => x = .b (B false)) := by
  have h1 := rlook_no s hs he
  refine pure_of Tryz.func33 rfl (rs := [.tmp 6]) rfl rfl mixed (by decide +kernel) (Nat.le_of_ble_eq_true rfl) (argsLt_mem (by simp (maxSteps := 1000000) (disch := omega) only [go_sem])) ?_
  repeat' (first | with_reducible exact tr_a | refine un_a ?_ | ((first | refine st_a (fun K hK => ?_) | refine rg_a ?_ | refine call_c (h1) ?_ | refine gcall_c (fun hg => h1) ?_); (repeat' (refine And.intro ?_ ?_)); (all_goals first | (refine hK _ ?_; clear hK K) | exact auto_cl | skip)) | ((first | apply cw_ite | apply cw_iteN); (case hf => rfl); (case hc => exact ev_a); (all_goals first | (intro hb; (try simp only [hbs] at hb)) | skip)) | exact atN_intro | (refine if_a (fun hb => ?_) (fun hb => ?_); (all_goals (try first | with_reducible exact True.intro | (exfalso; omega)))) | refine cw_blocks (fun KB hB => ?_) | (refine hB _ ?_; clear hB KB) | refine exit_by (S := Sg) (by assumption) ?_ | (refine ret_a ?_; (try clear hB KB); (try clear hK K)))
  · exact fun h => h.elim
  refine gcall_off (B false) rfl (by trivial) ?_
  simp (maxSteps := 1000000) (disch := omega) only [go_sem]
  repeat' (first | with_reducible exact tr_a | refine un_a ?_ | ((first | refine st_a (fun K hK => ?_) | refine rg_a ?_); (repeat' (refine And.intro ?_ ?_)); (all_goals first | (refine hK _ ?_; clear hK K) | exact auto_cl | skip)) | ((first | apply cw_ite | apply cw_iteN); (case hf => rfl); (case hc => exact ev_a); (all_goals first | (intro hb; (try simp only [hbs] at hb)) | skip)) | exact atN_intro | (refine if_a (fun hb => ?_) (fun hb => ?_); (all_goals (try first | with_reducible exact True.intro | (exfalso; omega)))) | refine cw_blocks (fun KB hB => ?_) | (refine hB _ ?_; clear hB KB) | refine exit_by (S := Sg) (by assumption) ?_ | (refine ret_a ?_; (try clear hB KB); (try clear hK K)))
theorem rApplies_all (s : Script) (hs : ScriptLen s) (n i : Int) : Pure Sg 33 [ag (scriptE s), I n, I i] (fun x => x = .b (B (apAll s n i))) := by
  unfold apAll
  by_cases he : (opsM s).1 = 0
  · rw [decide_eq_true he]; exact rApplies_yes s (vops_of he) hs n i
  · rw [decide_eq_false he]; exact rApplies_no s hs he n i
theorem rRedexes_no (s : Script) (hs : ScriptLen s) (he : (opsM s).1 ≠ 0) : Pure Sg 25 [ag (scriptE s)] (fun x => x = .b (.c (.p (.lst 2 (redM s).length (fnOf rxE (redM s)))))) := by
  have h1 := rlook_no s hs he
  rw [redM, if_neg he]
  refine pure_le ?_
  refine pure_of Tryz.func25 rfl (rs := [.tmp 2]) rfl rfl mixed (by decide +kernel) (Nat.le_of_ble_eq_true rfl) (argsLt_mem (by simp (maxSteps := 1000000) (disch := omega) only [go_sem])) ?_
  repeat' (first | with_reducible exact tr_a | refine un_a ?_ | ((first | refine st_a (fun K hK => ?_) | refine rg_a ?_ | refine call_c (h1) ?_ | refine gcall_c (fun hg => h1) ?_); (repeat' (refine And.intro ?_ ?_)); (all_goals first | (refine hK _ ?_; clear hK K) | exact auto_cl | skip)) | ((first | apply cw_ite | apply cw_iteN); (case hf => rfl); (case hc => exact ev_a); (all_goals first | (intro hb; (try simp only [hbs] at hb)) | skip)) | exact atN_intro | (refine if_a (fun hb => ?_) (fun hb => ?_); (all_goals (try first | with_reducible exact True.intro | (exfalso; omega)))) | refine cw_blocks (fun KB hB => ?_) | (refine hB _ ?_; clear hB KB) | refine exit_by (S := Sg) (by assumption) ?_ | (refine ret_a ?_; (try clear hB KB); (try clear hK K)))
  refine cw_loop (X := Unit) (fun _ => mkSt [(1, .b (.c (.ptr 0 0))), (4, .b (B false)), (5, .b (.c (.p (.val (.slice none 0 0))))), (6, .b (I 0))] [(0, .fix ((scriptE s).map CV.p))] 2) (fun _ => True) (fun _ => 0) () ?_ ?_ ?_
  · trivial
  · refine le_a [] ?_ ?_
    repeat' (refine And.intro ?_ ?_)
    all_goals first | exact le_cl | skip
  · intro _ _
    repeat' (first | with_reducible exact tr_a | refine un_a ?_ | ((first | refine st_a (fun K hK => ?_) | refine rg_a ?_); (repeat' (refine And.intro ?_ ?_)); (all_goals first | (refine hK _ ?_; clear hK K) | exact auto_cl | skip)) | ((first | apply cw_ite | apply cw_iteN); (case hf => rfl); (case hc => exact ev_a); (all_goals first | (intro hb; (try simp only [hbs] at hb)) | skip)) | exact atN_intro | (refine if_a (fun hb => ?_) (fun hb => ?_); (all_goals (try first | with_reducible exact True.intro | (exfalso; omega)))) | refine cw_blocks (fun KB hB => ?_) | (refine hB _ ?_; clear hB KB) | refine exit_by (S := Sg) (by assumption) ?_ | (refine ret_a ?_; (try clear hB KB); (try clear hK K)))
    · first | exact absurd hb (by decide) | exact hb.elim | exact absurd hb.1 (by decide)
    · exact sle_b (ble_c nil_le)
theorem rRedexes_yes (s : Script) (V : VOps s) (hs : ScriptLen s) : Pure Sg 25 [ag (scriptE s)] (fun x => x = .b (.c (.p (.lst 2 (redM s).length (fnOf rxE (redM s)))))) := by
  have hn := V.cnt
  have h1 := rlook_sp s V hs
  rw [redM, if_pos (ops_ok V)]
  refine pure_le ?_
  refine pure_of Tryz.func25 rfl (rs := [.tmp 2]) rfl rfl mixed (by decide +kernel) (Nat.le_of_ble_eq_true rfl) (argsLt_mem (by simp (maxSteps := 1000000) (disch := omega) only [go_sem])) ?_
  repeat' (first | with_reducible exact tr_a | refine un_a ?_ | ((first | refine st_a (fun K hK => ?_) | refine rg_a ?_ | refine call_c (h1) ?_ | refine gcall_c (fun hg => h1) ?_); (repeat' (refine And.intro ?_ ?_)); (all_goals first | (refine hK _ ?_; clear hK K) | exact auto_cl | skip)) | ((first | apply cw_ite | apply cw_iteN); (case hf => rfl); (case hc => exact ev_a); (all_goals first | (intro hb; (try simp only [hbs] at hb)) | skip)) | exact atN_intro | (refine if_a (fun hb => ?_) (fun hb => ?_); (all_goals (try first | with_reducible exact True.intro | (exfalso; omega)))) | refine cw_blocks (fun KB hB => ?_) | (refine hB _ ?_; clear hB KB) | refine exit_by (S := Sg) (by assumption) ?_ | (refine ret_a ?_; (try clear hB KB); (try clear hK K)))
  refine cw_loop (X := Nat) (fun i => mkSt [(1, .b (.c (.ptr 0 0))), (3, .b (.c (.ptr 1 0))), (4, .b (B true)), (5, .b (.c (.own 2 (rxTo s i).length))), (6, .b (I i))]
    [(0, .fix ((scriptE s).map CV.p)), (1, .fix ((rvE s).map CV.p)), (2, .arr 61 2 (rxTo s i).length (fnOf rxE (rxTo s i)))] 3) (fun i => i ≤ s.ops.length) (fun i => s.ops.length - i) 0 ?_ ?_ ?_
  · exact Nat.zero_le _
  · refine le_a [(1, some 1), (2, none)] ?_ ?_
    repeat' (refine And.intro ?_ ?_)
    all_goals first | exact le_cl | skip
  · intro i hi
    have hl := rxTo_le s i
    rcases Nat.lt_or_ge i s.ops.length with hlt | hge
    · repeat' (first | with_reducible exact tr_a | refine un_a ?_ | ((first | refine st_a (fun K hK => ?_) | refine rg_a ?_); (repeat' (refine And.intro ?_ ?_)); (all_goals first | (refine hK _ ?_; clear hK K) | exact auto_cl | skip)) | ((first | apply cw_ite | apply cw_iteN); (case hf => rfl); (case hc => exact ev_a); (all_goals first | (intro hb; (try simp only [hbs] at hb)) | skip)) | exact atN_intro | (refine if_a (fun hb => ?_) (fun hb => ?_); (all_goals (try first | with_reducible exact True.intro | (exfalso; omega)))) | refine cw_blocks (fun KB hB => ?_) | (refine hB _ ?_; clear hB KB) | refine exit_by (S := Sg) (by assumption) ?_ | (refine ret_a ?_; (try clear hB KB); (try clear hK K)))
      refine cw_loop (X := Nat) (fun n => mkSt [(1, .b (.c (.ptr 0 0))), (3, .b (.c (.ptr 1 0))), (4, .b (B true)), (5, .b (.c (.own 2 (rxTo s i ++ rxAt s i n).length))), (6, .b (I i)), (7, .b (I n))]
        [(0, .fix ((scriptE s).map CV.p)), (1, .fix ((rvE s).map CV.p)), (2, .arr 61 2 (rxTo s i ++ rxAt s i n).length (fnOf rxE (rxTo s i ++ rxAt s i n)))] 3) (fun n => 1 ≤ n ∧ n ≤ 10) (fun n => 10 - n) 1 ?_ ?_ ?_
      · omega
      · have e0 : rxTo s i ++ rxAt s i 1 = rxTo s i := by rw [rxAt_one, List.append_nil]
        rw [e0]
        refine le_a [(1, some 1), (2, some 2)] ?_ ?_
        repeat' (refine And.intro ?_ ?_)
        all_goals first | exact le_cl | skip
      · rintro n ⟨hn1, hn10⟩
        have hl2 : (rxTo s i ++ rxAt s i n).length ≤ 10 * i + 10 := by
          have := rxAt_le s i n
          rw [List.length_append]; omega
        by_cases h3 : (opAt s.ops i).kind = 3
        · have hb1 : ((s.ops.getD i default).kind != 3) = false := by rw [show (s.ops.getD i default).kind = 3 from h3]; rfl
          have e1 : rxTo s i ++ rxAt s i n = rxTo s (i + 1) := by rw [rxTo_succ, rxAt_pop h3, rxAt_pop h3]
          rw [e1]
          repeat' (first | with_reducible exact tr_a | refine dec_a hb1 ?_ | refine un_a ?_ | ((first | refine st_a (fun K hK => ?_) | refine rg_a ?_); (repeat' (refine And.intro ?_ ?_)); (all_goals first | (refine hK _ ?_; clear hK K) | exact auto_cl | skip)) | ((first | apply cw_ite | apply cw_iteN); (case hf => rfl); (case hc => exact ev_a); (all_goals first | (intro hb; (try simp only [hbs] at hb)) | skip)) | exact atN_intro | (refine if_a (fun hb => ?_) (fun hb => ?_); (all_goals (try first | with_reducible exact True.intro | (exfalso; omega)))) | refine cw_blocks (fun KB hB => ?_) | (refine hB _ ?_; clear hB KB) | refine exit_by (S := Sg) (by assumption) ?_ | (refine ret_a ?_; (try clear hB KB); (try clear hK K)))
          rw [thenQ_normal]
          refine wk_loop (i + 1) ?_ (by omega) (by omega)
          refine le_a [(1, some 1), (2, some 2)] ?_ ?_
          repeat' (refine And.intro ?_ ?_)
          all_goals first | exact le_cl | skip
        · have hb1 : ((s.ops.getD i default).kind != 3) = true := bne_iff_ne.2 h3
          rcases Nat.lt_or_ge n 10 with hnl | hng
          · have har := apM_rule (s := s) (n := (n : Int)) hlt h3
            rw [Int.toNat_natCast] at har
            have hb2 : decide ((n : Int) ≤ 9) = true := decide_eq_true (by omega)
            by_cases ha : ruleM s n i = true
            · repeat' (first | with_reducible exact tr_a | refine dec_a (And.intro hb1 (And.intro hb2 ha)) ?_ | refine un_a ?_ | ((first | refine st_a (fun K hK => ?_) | refine rg_a ?_ | refine call_c (rapplies_sp s V hs n i hlt h3) ?_ | refine gcall_c (fun hg => rapplies_sp s V hs n i hlt h3) ?_); (repeat' (refine And.intro ?_ ?_)); (all_goals first | (refine hK _ ?_; clear hK K) | exact auto_cl | skip)) | ((first | apply cw_ite | apply cw_iteN); (case hf => rfl); (case hc => exact ev_a); (all_goals first | (intro hb; (try simp only [hbs] at hb)) | skip)) | exact atN_intro | (refine if_a (fun hb => ?_) (fun hb => ?_); (all_goals (try first | with_reducible exact True.intro | (exfalso; omega)))) | refine cw_blocks (fun KB hB => ?_) | (refine hB _ ?_; clear hB KB) | refine exit_by (S := Sg) (by assumption) ?_ | (refine ret_a ?_; (try clear hB KB); (try clear hK K)))
              rw [thenQ_normal]
              refine wk_loop (n + 1) ?_ (by omega) (by omega)
              have e : rxTo s i ++ rxAt s i (n + 1) = rxTo s i ++ rxAt s i n ++ [((n : Int), (i : Int))] := by rw [rxAt_succ, if_pos (har.trans ha), List.append_assoc]
              rw [e, show (rxTo s i ++ rxAt s i n ++ [((n : Int), (i : Int))]).length = (rxTo s i ++ rxAt s i n).length + 1 from List.length_append]
              refine le_a [(1, some 1), (2, some 4)] ?_ ?_
              repeat' (refine And.intro ?_ ?_)
              all_goals first | exact le_cl | skip
              exact .inr (rx_snoc fun j hj => by
                have hj2 : j = 0 ∨ j = 1 := by omega
                rcases hj2 with rfl | rfl <;> rfl)
            · have e : rxTo s i ++ rxAt s i (n + 1) = rxTo s i ++ rxAt s i n := by rw [rxAt_succ, if_neg (by rw [har]; exact ha), List.append_nil]
              rw [Bool.not_eq_true] at ha
              repeat' (first | with_reducible exact tr_a | refine dec_a (And.intro hb1 (And.intro hb2 ha)) ?_ | refine un_a ?_ | ((first | refine st_a (fun K hK => ?_) | refine rg_a ?_ | refine call_c (rapplies_sp s V hs n i hlt h3) ?_ | refine gcall_c (fun hg => rapplies_sp s V hs n i hlt h3) ?_); (repeat' (refine And.intro ?_ ?_)); (all_goals first | (refine hK _ ?_; clear hK K) | exact auto_cl | skip)) | ((first | apply cw_ite | apply cw_iteN); (case hf => rfl); (case hc => exact ev_a); (all_goals first | (intro hb; (try simp only [hbs] at hb)) | skip)) | exact atN_intro | (refine if_a (fun hb => ?_) (fun hb => ?_); (all_goals (try first | with_reducible exact True.intro | (exfalso; omega)))) | refine cw_blocks (fun KB hB => ?_) | (refine hB _ ?_; clear hB KB) | refine exit_by (S := Sg) (by assumption) ?_ | (refine ret_a ?_; (try clear hB KB); (try clear hK K)))
              rw [thenQ_normal]
              refine wk_loop (n + 1) ?_ (by omega) (by omega)
              rw [e]
              refine le_a [(1, some 1), (2, some 2)] ?_ ?_
              repeat' (refine And.intro ?_ ?_)
              all_goals first | exact le_cl | skip
          · have hn2 : n = 10 := by omega
            subst hn2
            repeat' (first | with_reducible exact tr_a | refine un_a ?_ | ((first | refine st_a (fun K hK => ?_) | refine rg_a ?_); (repeat' (refine And.intro ?_ ?_)); (all_goals first | (refine hK _ ?_; clear hK K) | exact auto_cl | skip)) | ((first | apply cw_ite | apply cw_iteN); (case hf => rfl); (case hc => exact ev_a); (all_goals first | (intro hb; (try simp only [hbs] at hb)) | skip)) | exact atN_intro | (refine if_a (fun hb => ?_) (fun hb => ?_); (all_goals (try first | with_reducible exact True.intro | (exfalso; omega)))) | refine cw_blocks (fun KB hB => ?_) | (refine hB _ ?_; clear hB KB) | refine exit_by (S := Sg) (by assumption) ?_ | (refine ret_a ?_; (try clear hB KB); (try clear hK K)))
            rw [thenQ_normal]
            refine wk_loop (i + 1) ?_ (by omega) (by omega)
            rw [rxTo_succ]
            refine le_a [(1, some 1), (2, some 2)] ?_ ?_
            repeat' (refine And.intro ?_ ?_)
            all_goals first | exact le_cl | skip
    · have hi2 : i = s.ops.length := by omega
      subst hi2
      repeat' (first | with_reducible exact tr_a | refine un_a ?_ | ((first | refine st_a (fun K hK => ?_) | refine rg_a ?_); (repeat' (refine And.intro ?_ ?_)); (all_goals first | (refine hK _ ?_; clear hK K) | exact auto_cl | skip)) | ((first | apply cw_ite | apply cw_iteN); (case hf => rfl); (case hc => exact ev_a); (all_goals first | (intro hb; (try simp only [hbs] at hb)) | skip)) | exact atN_intro | (refine if_a (fun hb => ?_) (fun hb => ?_); (all_goals (try first | with_reducible exact True.intro | (exfalso; omega)))) | refine cw_blocks (fun KB hB => ?_) | (refine hB _ ?_; clear hB KB) | refine exit_by (S := Sg) (by assumption) ?_ | (refine ret_a ?_; (try clear hB KB); (try clear hK K)))
      exact sle_b (ble_rfl trivial)
theorem rRedexes_sp (s : Script) (hs : ScriptLen s) : Pure Sg 25 [ag (scriptE s)] (fun x => x = .b (.c (.p (.lst 2 (redM s).length (fnOf rxE (redM s)))))) := by
  by_cases he : (opsM s).1 = 0
  · exact rRedexes_yes s (vops_of he) hs
  · exact rRedexes_no s hs he
attribute [local go_sem] tn1 Nat.sub_zero
theorem wo_fin {l : List Op} {a b : Nat} (h1 : a ≤ b) (h2 : b < l.length) : PV.le (.lst 12 (a + (l.length - (b + 1))) (appF a (fun x j => fnOf opE l (0 + x) j) (fun x j => fnOf opE l (b + 1 + x) j))) (opL (woM l a b)) := by
  have l1 : (l.take a).length = a := by rw [List.length_take]; omega
  refine opL_pt ?_ ?_
  · rw [wo_len h1 h2]; omega
  · exact app_pt l1 (fun x hx j hj => take_pt hx) (fun x hx j hj => drop_pt)
theorem without_sp (l : List Op) (a b : Nat) (h1 : a ≤ b) (h2 : b < l.length) (hl : l.length ≤ 1000000) : Pure Sg 71 [.c (.p (opL l)), I a, I b] (fun x => x = .b (.c (.p (opL (woM l a b))))) := by
  refine pure_le ?_
  refine pure_of Tryz.func71 rfl (rs := [.tmp 6]) rfl rfl mixed (by decide +kernel) (Nat.le_of_ble_eq_true rfl) (argsLt_mem (by simp (maxSteps := 1000000) (disch := omega) only [go_sem])) ?_
  repeat' (first | with_reducible exact tr_a | refine un_a ?_ | ((with_reducible refine cw_stepV (id := 0) (fun K hW => ?_)); (try simp (maxSteps := 1000000) (disch := omega) only [go_sem]); (repeat' (refine And.intro ?_ ?_)); (all_goals first | (refine hK _ ?_; clear hK K) | exact auto_cl | skip)) | ((first | refine st_a (fun K hK => ?_) | refine rg_a ?_); (repeat' (refine And.intro ?_ ?_)); (all_goals first | (refine hK _ ?_; clear hK K) | exact auto_cl | skip)) | ((first | apply cw_ite | apply cw_iteN); (case hf => rfl); (case hc => exact ev_a); (all_goals first | (intro hb; (try simp only [hbs] at hb)) | skip)) | exact atN_intro | (refine if_a (fun hb => ?_) (fun hb => ?_); (all_goals (try first | with_reducible exact True.intro | (exfalso; omega)))) | refine cw_blocks (fun KB hB => ?_) | (refine hB _ ?_; clear hB KB) | refine exit_by (S := Sg) (by assumption) ?_ | (refine ret_a ?_; (try clear hB KB); (try clear hK K)))
  refine hW _ (mkSt [(0, .b (.c (.p (opL l)))), (1, .b (I a)), (2, .b (I b))] [] 1) ?_ ?_
  · refine le_a [] ?_ ?_
    repeat' (refine And.intro ?_ ?_)
    all_goals first | exact le_cl | skip
  clear hW
  refine cw_stepR (id := 1) (.br 0 (.br 1 (.br 2 (.br 4 (.br 5 (.br 6 (.br 7 (.br 3 (.br 8 (.br 9 .leaf .nil) .nil) .nil) .nil) .nil) .nil) .nil) .nil) .nil) .nil) (by decide +kernel) (by exact wf_a) (fun K0 hW => ?_)
  refine (fun (tl : ∀ st, Le st (mkSt [(6, .b (.c (.own 1 (a + (l.length - (b + 1))))))] [(1, .arr 73 12 (a + (l.length - (b + 1))) (appF a (fun x j => fnOf opE l (0 + x) j) (fun x j => fnOf opE l (b + 1 + x) j)))] 2) → K0 st) => ?_) (fun st hl => hW st _ hl ?_)
  · clear hW
    repeat' (first | exact tree_nil | (refine tree_br (fun K' hK' => ?_) ?_) | (refine tree_leaf (tl _ ?_); clear tl) | (simp (maxSteps := 1000000) (disch := omega) only [go_sem]; (repeat' (refine And.intro ?_ ?_)); (all_goals first | (refine hK' _ ?_; clear hK' K') | trivial | omega | exact Nat.le_of_ble_eq_true rfl | exact auto_cl | skip)))
    all_goals
      refine le_a [(1, some 2)] ?_ ?_
      repeat' (refine And.intro ?_ ?_)
      all_goals first | exact le_cl | skip
  clear hW
  repeat' (first | with_reducible exact tr_a | refine un_a ?_ | ((first | refine st_a (fun K hK => ?_) | refine rg_a ?_); (repeat' (refine And.intro ?_ ?_)); (all_goals first | (refine hK _ ?_; clear hK K) | exact auto_cl | skip)) | ((first | apply cw_ite | apply cw_iteN); (case hf => rfl); (case hc => exact ev_a); (all_goals first | (intro hb; (try simp only [hbs] at hb)) | skip)) | exact atN_intro | (refine if_a (fun hb => ?_) (fun hb => ?_); (all_goals (try first | with_reducible exact True.intro | (exfalso; omega)))) | refine cw_blocks (fun KB hB => ?_) | (refine hB _ ?_; clear hB KB) | refine exit_by (S := Sg) (by assumption) ?_ | (refine ret_a ?_; (try clear hB KB); (try clear hK K)))
  exact sle_b (ble_c (wo_fin h1 h2))
end Go.Proofs.YtbpplplnkgmhlaaGreatDoor
