/- Part 6 of the proof: J3, J4, BrP, KA. -/
import Derived.Test.YtbpplplnkgmhlaaGreatDoorM0
import Derived.Test.YtbpplplnkgmhlaaGreatDoorM1
import Derived.Test.YtbpplplnkgmhlaaGreatDoorM2
import Derived.Test.YtbpplplnkgmhlaaGreatDoorM3
import Derived.Test.YtbpplplnkgmhlaaGreatDoorM4
import Derived.Test.YtbpplplnkgmhlaaGreatDoorM5
/- The reference's rules: applying one, all steps. -/
set_option linter.unusedSimpArgs false
set_option linter.unusedVariables false
set_option maxHeartbeats 2000000
set_option maxRecDepth 16000
namespace Go.Proofs.YtbpplplnkgmhlaaGreatDoor
open Go Go.SL
open Go.RowKit (wrap64)
attribute [local go_sem] Int.toNat_natCast rxE rvE natL zerosB List.getD_cons_zero

def sub1 (l : List Op) (i : Nat) (o : Op) (a j : Nat) : PV := if a = i then (opE o).getD j .any else fnOf opE l a j
theorem sub1_eq {l : List Op} {i : Nat} {o : Op} {j : Nat} : sub1 l i o i j = (opE o).getD j .any := if_pos rfl
theorem sub1_ne {l : List Op} {i : Nat} {o : Op} {a j : Nat} (h : a ≠ i) : sub1 l i o a j = fnOf opE l a j := if_neg h
theorem sub1_pt {l : List Op} {i a j : Nat} {o : Op} (hi : i < l.length) : fnOf opE (l.set i o) a j = sub1 l i o a j := by
  show (opE ((l.set i o).getD a default)).getD j .any = _
  rw [show (l.set i o).getD a default = opAt (l.set i o) a from rfl, opAt_set, sub1]
  by_cases h : a = i
  · rw [if_pos ⟨h.symm, h ▸ hi⟩, if_pos h]
  · rw [if_neg (fun q => h q.1.symm), if_neg h]; rfl
attribute [local go_sem] sub1_eq sub1_ne tn1 List.length_set
theorem rApply_no (s : Script) (hs : ScriptLen s) (he : (opsM s).1 ≠ 0) (r : Rx) : Pure Sg 27 [ag (scriptE s), ag (rxE r)] (fun x => x = .tup [ag (scriptE zS), I (opsM s).1]) := by
  have h1 := checkOps_spec s hs
  refine pure_le ?_
  refine pure_of Tryz.func27 rfl (rs := [.cell 4 36, .tmp 5]) rfl rfl mixed (by decide +kernel) (Nat.le_of_ble_eq_true rfl) (argsLt_mem (by simp (maxSteps := 1000000) (disch := omega) only [go_sem])) ?_
  repeat' (first | with_reducible exact tr_a | refine un_a ?_ | ((first | refine st_a (fun K hK => ?_) | refine rg_a ?_ | refine call_c (h1) ?_ | refine gcall_c (fun hg => h1) ?_); (repeat' (refine And.intro ?_ ?_)); (all_goals first | (refine hK _ ?_; clear hK K) | exact auto_cl | skip)) | ((first | apply cw_ite | apply cw_iteN); (case hf => rfl); (case hc => exact ev_a); (all_goals first | (intro hb; (try simp only [hbs] at hb)) | skip)) | exact atN_intro | (refine if_a (fun hb => ?_) (fun hb => ?_); (all_goals (try first | with_reducible exact True.intro | (exfalso; omega)))) | refine cw_blocks (fun KB hB => ?_) | (refine hB _ ?_; clear hB KB) | refine exit_by (S := Sg) (by assumption) ?_ | (refine ret_a ?_; (try clear hB KB); (try clear hK K)))
  refine sle_tup ⟨ble_agg ?_, ble_rfl trivial, trivial⟩
  simp only [List.map_cons, List.map_nil, cleL_cons, cleL_nil]
  repeat' (refine And.intro ?_ ?_)
  all_goals first | exact .inl rfl | exact .inl trivial | exact .inr nil_le | trivial | skip
theorem rApply_off (s : Script) (V : VOps s) (hs : ScriptLen s) (r : Rx) (ha : apM s r.1 r.2 = false) : Pure Sg 27 [ag (scriptE s), ag (rxE r)] (fun x => x = .tup [ag (scriptE zS), I 21]) := by
  have h1 := checkOps_spec s hs
  have h2 := rApplies_yes s V hs r.1 r.2
  rw [ops_ok V] at h1
  rw [ha] at h2
  refine pure_le ?_
  refine pure_of Tryz.func27 rfl (rs := [.cell 4 36, .tmp 5]) rfl rfl mixed (by decide +kernel) (Nat.le_of_ble_eq_true rfl) (argsLt_mem (by simp (maxSteps := 1000000) (disch := omega) only [go_sem])) ?_
  repeat' (first | with_reducible exact tr_a | refine un_a ?_ | ((first | refine st_a (fun K hK => ?_) | refine rg_a ?_ | refine call_c (h1) ?_ | refine gcall_c (fun hg => h1) ?_ | refine call_c (h2) ?_ | refine gcall_c (fun hg => h2) ?_); (repeat' (refine And.intro ?_ ?_)); (all_goals first | (refine hK _ ?_; clear hK K) | exact auto_cl | skip)) | ((first | apply cw_ite | apply cw_iteN); (case hf => rfl); (case hc => exact ev_a); (all_goals first | (intro hb; (try simp only [hbs] at hb)) | skip)) | exact atN_intro | (refine if_a (fun hb => ?_) (fun hb => ?_); (all_goals (try first | with_reducible exact True.intro | (exfalso; omega)))) | refine cw_blocks (fun KB hB => ?_) | (refine hB _ ?_; clear hB KB) | refine exit_by (S := Sg) (by assumption) ?_ | (refine ret_a ?_; (try clear hB KB); (try clear hK K)))
  · first | exact absurd trivial hb | exact absurd hb (by decide)
  refine sle_tup ⟨ble_agg ?_, ble_rfl trivial, trivial⟩
  simp only [List.map_cons, List.map_nil, cleL_cons, cleL_nil]
  repeat' (refine And.intro ?_ ?_)
  all_goals first | exact .inl rfl | exact .inl trivial | exact .inr nil_le | trivial | skip
theorem rApply_yes (s : Script) (V : VOps s) (hs : ScriptLen s) (r : Rx) (ha : apM s r.1 r.2 = true) : Pure Sg 27 [ag (scriptE s), ag (rxE r)] (fun x => x = .tup [ag (scriptE (nextS s r)), I 0]) := by
  have hn := V.cnt
  have W := V.wf
  have h1 := checkOps_spec s hs
  have h2 := rApplies_yes s V hs r.1 r.2
  rw [ops_ok V] at h1
  rw [ha] at h2
  have hlk := rlook_sp s V hs
  obtain ⟨n, i⟩ := r
  dsimp only at ha h2 ⊢
  obtain ⟨⟨g1, g2⟩, g3, g4, g5, g6⟩ := apM_lt ha
  obtain ⟨k, rfl⟩ := Int.eq_ofNat_of_zero_le g3
  have hi : k < s.ops.length := g4
  have hel := ends_lt W hi
  have heg := ends_ge W hi
  have hwo := without_sp s.ops k (endsM s.ops k) heg hel (by omega)
  have hv : n = 1 ∨ n = 2 ∨ n = 3 ∨ n = 4 ∨ n = 5 ∨ n = 6 ∨ n = 7 ∨ n = 8 ∨ n = 9 := by omega
  refine pure_le ?_
  refine pure_of Tryz.func27 rfl (rs := [.cell 4 36, .tmp 5]) rfl rfl mixed (by decide +kernel) (Nat.le_of_ble_eq_true rfl) (argsLt_mem (by simp (maxSteps := 1000000) (disch := omega) only [go_sem])) ?_
  repeat' (first | with_reducible exact tr_a | refine un_a ?_ | ((with_reducible refine cw_stepV (id := 9) (fun K hW => ?_)); (try simp (maxSteps := 1000000) (disch := omega) only [go_sem]); (repeat' (refine And.intro ?_ ?_)); (all_goals first | (refine hK _ ?_; clear hK K) | exact auto_cl | skip)) | ((first | refine st_a (fun K hK => ?_) | refine rg_a ?_ | refine call_c (h1) ?_ | refine gcall_c (fun hg => h1) ?_ | refine call_c (h2) ?_ | refine gcall_c (fun hg => h2) ?_ | refine call_c (hlk) ?_ | refine gcall_c (fun hg => hlk) ?_); (repeat' (refine And.intro ?_ ?_)); (all_goals first | (refine hK _ ?_; clear hK K) | exact auto_cl | skip)) | ((first | apply cw_ite | apply cw_iteN); (case hf => rfl); (case hc => exact ev_a); (all_goals first | (intro hb; (try simp only [hbs] at hb)) | skip)) | exact atN_intro | (refine if_a (fun hb => ?_) (fun hb => ?_); (all_goals (try first | with_reducible exact True.intro | (exfalso; omega)))) | refine cw_blocks (fun KB hB => ?_) | (refine hB _ ?_; clear hB KB) | refine exit_by (S := Sg) (by assumption) ?_ | (refine ret_a ?_; (try clear hB KB); (try clear hK K)))
  · first | exact absurd trivial hb | exact absurd hb (by decide)
  · first | exact absurd trivial hb | exact absurd hb (by decide)
  by_cases h4 : n ≤ 4
  · refine hW _ (mkSt [(2, .b (.c (.ptr 0 0))), (3, .b (.c (.ptr 1 0))), (4, .b (.c (.ptr 2 0))), (8, .b (.c (.ptr 3 0))), (10, .b (I k)), (11, .b (.c (.p (opL s.ops)))), (41, .b (I n))] [(0, .fix ((scriptE s).map CV.p)), (1, .fix [.p (PI n), .p (PI k)]), (2, zerosB), (3, .fix ((rvE s).map CV.p))] 5) ?_ ?_
    · refine le_a [(1, some 1), (2, some 2), (3, some 3)] ?_ ?_
      repeat' (refine And.intro ?_ ?_)
      all_goals first | exact le_cl | skip
      exact fun i hi j hj => fun _ _ _ h => h
    clear hW
    have hv : n = 1 ∨ n = 2 ∨ n = 3 ∨ n = 4 := by omega
    rcases hv with rfl | rfl | rfl | rfl
    all_goals
      repeat' (first | with_reducible exact tr_a | refine dec_a hn ?_ | refine un_a ?_ | ((first | refine st_a (fun K hK => ?_) | refine rg_a ?_ | refine call_c (hwo) ?_ | refine gcall_c (fun hg => hwo) ?_); (repeat' (refine And.intro ?_ ?_)); (all_goals first | (refine hK _ ?_; clear hK K) | exact auto_cl | skip)) | ((first | apply cw_ite | apply cw_iteN); (case hf => rfl); (case hc => exact ev_a); (all_goals first | (intro hb; (try simp only [hbs] at hb)) | skip)) | exact atN_intro | (refine if_a (fun hb => ?_) (fun hb => ?_); (all_goals (try first | with_reducible exact True.intro | (exfalso; omega)))) | refine cw_blocks (fun KB hB => ?_) | (refine hB _ ?_; clear hB KB) | refine exit_by (S := Sg) (by assumption) ?_ | (refine ret_a ?_; (try clear hB KB); (try clear hK K)))
    all_goals
      refine sle_tup ⟨ble_agg ?_, ble_rfl trivial, trivial⟩
      simp only [List.map_cons, List.map_nil, cleL_cons, cleL_nil]
      repeat' (refine And.intro ?_ ?_)
      all_goals first | exact .inl rfl | exact .inl trivial | exact .inr nil_le | trivial | skip
  refine hW _ (mkSt [(2, .b (.c (.ptr 0 0))), (3, .b (.c (.ptr 1 0))), (4, .b (.c (.ptr 2 0))), (8, .b (.c (.ptr 3 0))), (10, .b (I k)), (11, .b (.c (.own 4 s.ops.length))), (41, .b (I n))] [(0, .fix ((scriptE s).map CV.p)), (1, .fix [.p (PI n), .p (PI k)]), (2, zerosB), (3, .fix ((rvE s).map CV.p)), (4, .arr 73 12 s.ops.length (fnOf opE s.ops))] 5) ?_ ?_
  · refine le_a [(1, some 1), (2, some 2), (3, some 3), (4, some 4)] ?_ ?_
    repeat' (refine And.intro ?_ ?_)
    all_goals first | exact le_cl | skip
  clear hW
  have hv : n = 5 ∨ n = 6 ∨ n = 7 ∨ n = 8 ∨ n = 9 := by omega
  rcases hv with rfl | rfl | rfl | rfl | rfl
  · skip
    repeat' (first | with_reducible exact tr_a | refine dec_a hn ?_ | refine un_a ?_ | ((first | refine st_a (fun K hK => ?_) | refine rg_a ?_ | refine call_c (hwo) ?_ | refine gcall_c (fun hg => hwo) ?_); (repeat' (refine And.intro ?_ ?_)); (all_goals first | (refine hK _ ?_; clear hK K) | exact auto_cl | skip)) | ((first | apply cw_ite | apply cw_iteN); (case hf => rfl); (case hc => exact ev_a); (all_goals first | (intro hb; (try simp only [hbs] at hb)) | skip)) | exact atN_intro | (refine if_a (fun hb => ?_) (fun hb => ?_); (all_goals (try first | with_reducible exact True.intro | (exfalso; omega)))) | refine cw_blocks (fun KB hB => ?_) | (refine hB _ ?_; clear hB KB) | refine exit_by (S := Sg) (by assumption) ?_ | (refine ret_a ?_; (try clear hB KB); (try clear hK K)))
    refine sle_tup ⟨ble_agg ?_, ble_rfl trivial, trivial⟩
    simp only [List.map_cons, List.map_nil, cleL_cons, cleL_nil]
    repeat' (refine And.intro ?_ ?_)
    all_goals first | exact .inl rfl | exact .inl trivial | exact .inr nil_le | trivial | skip
    refine .inr (show PV.le _ (opL (s.ops.set k (chgOp 5 (opAt s.ops k)))) from set_le hi (fun j hj => ?_) (fun a ha j => ?_))
    · rw [if_pos rfl]
      have hivl : j = 0 ∨ j = 1 ∨ j = 2 ∨ j = 3 ∨ j = 4 ∨ j = 5 ∨ j = 6 ∨ j = 7 ∨ j = 8 ∨ j = 9 ∨ j = 10 ∨ j = 11 := by omega
      rcases hivl with rfl | rfl | rfl | rfl | rfl | rfl | rfl | rfl | rfl | rfl | rfl | rfl <;> rfl
    · simp only [if_neg ha]
      rfl
  · skip
    repeat' (first | with_reducible exact tr_a | refine dec_a hn ?_ | refine un_a ?_ | ((first | refine st_a (fun K hK => ?_) | refine rg_a ?_ | refine call_c (hwo) ?_ | refine gcall_c (fun hg => hwo) ?_); (repeat' (refine And.intro ?_ ?_)); (all_goals first | (refine hK _ ?_; clear hK K) | exact auto_cl | skip)) | ((first | apply cw_ite | apply cw_iteN); (case hf => rfl); (case hc => exact ev_a); (all_goals first | (intro hb; (try simp only [hbs] at hb)) | skip)) | exact atN_intro | (refine if_a (fun hb => ?_) (fun hb => ?_); (all_goals (try first | with_reducible exact True.intro | (exfalso; omega)))) | refine cw_blocks (fun KB hB => ?_) | (refine hB _ ?_; clear hB KB) | refine exit_by (S := Sg) (by assumption) ?_ | (refine ret_a ?_; (try clear hB KB); (try clear hK K)))
    refine sle_tup ⟨ble_agg ?_, ble_rfl trivial, trivial⟩
    simp only [List.map_cons, List.map_nil, cleL_cons, cleL_nil]
    repeat' (refine And.intro ?_ ?_)
    all_goals first | exact .inl rfl | exact .inl trivial | exact .inr nil_le | trivial | skip
    refine .inr (show PV.le _ (opL (s.ops.set k (chgOp 6 (opAt s.ops k)))) from set_le hi (fun j hj => ?_) (fun a ha j => ?_))
    · rw [if_pos rfl]
      have hivl : j = 0 ∨ j = 1 ∨ j = 2 ∨ j = 3 ∨ j = 4 ∨ j = 5 ∨ j = 6 ∨ j = 7 ∨ j = 8 ∨ j = 9 ∨ j = 10 ∨ j = 11 := by omega
      rcases hivl with rfl | rfl | rfl | rfl | rfl | rfl | rfl | rfl | rfl | rfl | rfl | rfl <;> rfl
    · simp only [if_neg ha]
      rfl
  · skip
    repeat' (first | with_reducible exact tr_a | refine dec_a hn ?_ | refine un_a ?_ | ((first | refine st_a (fun K hK => ?_) | refine rg_a ?_ | refine call_c (hwo) ?_ | refine gcall_c (fun hg => hwo) ?_); (repeat' (refine And.intro ?_ ?_)); (all_goals first | (refine hK _ ?_; clear hK K) | exact auto_cl | skip)) | ((first | apply cw_ite | apply cw_iteN); (case hf => rfl); (case hc => exact ev_a); (all_goals first | (intro hb; (try simp only [hbs] at hb)) | skip)) | exact atN_intro | (refine if_a (fun hb => ?_) (fun hb => ?_); (all_goals (try first | with_reducible exact True.intro | (exfalso; omega)))) | refine cw_blocks (fun KB hB => ?_) | (refine hB _ ?_; clear hB KB) | refine exit_by (S := Sg) (by assumption) ?_ | (refine ret_a ?_; (try clear hB KB); (try clear hK K)))
    refine sle_tup ⟨ble_agg ?_, ble_rfl trivial, trivial⟩
    simp only [List.map_cons, List.map_nil, cleL_cons, cleL_nil]
    repeat' (refine And.intro ?_ ?_)
    all_goals first | exact .inl rfl | exact .inl trivial | exact .inr nil_le | trivial | skip
    refine .inr (show PV.le _ (opL (s.ops.set k (chgOp 7 (opAt s.ops k)))) from set_le hi (fun j hj => ?_) (fun a ha j => ?_))
    · rw [if_pos rfl]
      have hivl : j = 0 ∨ j = 1 ∨ j = 2 ∨ j = 3 ∨ j = 4 ∨ j = 5 ∨ j = 6 ∨ j = 7 ∨ j = 8 ∨ j = 9 ∨ j = 10 ∨ j = 11 := by omega
      rcases hivl with rfl | rfl | rfl | rfl | rfl | rfl | rfl | rfl | rfl | rfl | rfl | rfl <;> rfl
    · simp only [if_neg ha]
      rfl
  · skip
    repeat' (first | with_reducible exact tr_a | refine dec_a hn ?_ | refine un_a ?_ | ((first | refine st_a (fun K hK => ?_) | refine rg_a ?_ | refine call_c (hwo) ?_ | refine gcall_c (fun hg => hwo) ?_); (repeat' (refine And.intro ?_ ?_)); (all_goals first | (refine hK _ ?_; clear hK K) | exact auto_cl | skip)) | ((first | apply cw_ite | apply cw_iteN); (case hf => rfl); (case hc => exact ev_a); (all_goals first | (intro hb; (try simp only [hbs] at hb)) | skip)) | exact atN_intro | (refine if_a (fun hb => ?_) (fun hb => ?_); (all_goals (try first | with_reducible exact True.intro | (exfalso; omega)))) | refine cw_blocks (fun KB hB => ?_) | (refine hB _ ?_; clear hB KB) | refine exit_by (S := Sg) (by assumption) ?_ | (refine ret_a ?_; (try clear hB KB); (try clear hK K)))
    refine sle_tup ⟨ble_agg ?_, ble_rfl trivial, trivial⟩
    simp only [List.map_cons, List.map_nil, cleL_cons, cleL_nil]
    repeat' (refine And.intro ?_ ?_)
    all_goals first | exact .inl rfl | exact .inl trivial | exact .inr nil_le | trivial | skip
    refine .inr (show PV.le _ (opL (s.ops.set k (chgOp 8 (opAt s.ops k)))) from set_le hi (fun j hj => ?_) (fun a ha j => ?_))
    · rw [if_pos rfl]
      have hivl : j = 0 ∨ j = 1 ∨ j = 2 ∨ j = 3 ∨ j = 4 ∨ j = 5 ∨ j = 6 ∨ j = 7 ∨ j = 8 ∨ j = 9 ∨ j = 10 ∨ j = 11 := by omega
      rcases hivl with rfl | rfl | rfl | rfl | rfl | rfl | rfl | rfl | rfl | rfl | rfl | rfl <;> rfl
    · simp only [if_neg ha]
      rfl
  have hum : unwM s k = true := g6
  have hu := runwrap_sp s V k hi
  rw [if_pos hum] at hu
  have hu2 : (opAt s.ops k).kind = 2 ∧ 1 ≤ kidsM s.ops k := by
    have := hum
    simp only [unwM, Bool.and_eq_true, decide_eq_true_eq] at this
    exact ⟨this.1.1.1, by omega⟩
  obtain ⟨hge, hk3⟩ := kid_next W hi hu2.1 hu2.2
  have hus : Pure Sg 73 [ag (rvE s), I ((k : Int) + 1)] (fun x => x = .b (B (unscM s (opAt s.ops (k + 1))))) := runscaled_sp s V (k + 1) (by omega)
  have hw1 : Pure Sg 71 [.c (.p (.lst 12 s.ops.length (fnOf opE (s.ops.set (k + 1) (unwOp s k))))), I (endsM s.ops k), I (endsM s.ops k)] (fun x => x = .b (.c (.p (opL (woM (s.ops.set (k + 1) (unwOp s k)) (endsM s.ops k) (endsM s.ops k)))))) := by
    have h := without_sp (s.ops.set (k + 1) (unwOp s k)) (endsM s.ops k) (endsM s.ops k) (Nat.le_refl _) (by rw [List.length_set]; exact hel) (by rw [List.length_set]; omega)
    have e : opL (s.ops.set (k + 1) (unwOp s k)) = .lst 12 s.ops.length (fnOf opE (s.ops.set (k + 1) (unwOp s k))) := by
      show PV.lst 12 (s.ops.set (k + 1) (unwOp s k)).length _ = _
      rw [List.length_set]
    rw [e] at h
    exact h
  have hl1 : (woM (s.ops.set (k + 1) (unwOp s k)) (endsM s.ops k) (endsM s.ops k)).length = s.ops.length - 1 := by
    rw [wo_len (Nat.le_refl _) (by rw [List.length_set]; exact hel), List.length_set]; omega
  have hw2 := without_sp (woM (s.ops.set (k + 1) (unwOp s k)) (endsM s.ops k) (endsM s.ops k)) k k (Nat.le_refl _) (by omega) (by omega)
  rw [wo_unw (by omega) hel] at hw2
  have ho2 : ∃ o2, o2 = unw2 (opAt s.ops k) (unw1 s (opAt s.ops k) (opAt s.ops (k + 1))) := ⟨_, rfl⟩
  obtain ⟨o2, ho2⟩ := ho2
  have hun : unwOp s k = unw3 o2 := by rw [ho2]; rfl
  have hkk : o2.kind = (opAt s.ops (k + 1)).kind := by
    rw [ho2, unw2, unw1]
    split <;> rfl
  repeat' (first | with_reducible exact tr_a | refine dec_a hn ?_ | refine un_a ?_ | ((with_reducible refine cw_stepV (id := 26) (fun K hW => ?_)); (try simp (maxSteps := 1000000) (disch := omega) only [go_sem]); (repeat' (refine And.intro ?_ ?_)); (all_goals first | (refine hK _ ?_; clear hK K) | exact auto_cl | skip)) | ((first | refine st_a (fun K hK => ?_) | refine rg_a ?_ | refine call_c (hu) ?_ | refine gcall_c (fun hg => hu) ?_ | refine call_c (hus) ?_ | refine gcall_c (fun hg => hus) ?_); (repeat' (refine And.intro ?_ ?_)); (all_goals first | (refine hK _ ?_; clear hK K) | exact auto_cl | skip)) | ((first | apply cw_ite | apply cw_iteN); (case hf => rfl); (case hc => exact ev_a); (all_goals first | (intro hb; (try simp only [hbs] at hb)) | skip)) | exact atN_intro | (refine if_a (fun hb => ?_) (fun hb => ?_); (all_goals (try first | with_reducible exact True.intro | (exfalso; omega)))) | refine cw_blocks (fun KB hB => ?_) | (refine hB _ ?_; clear hB KB) | refine exit_by (S := Sg) (by assumption) ?_ | (refine ret_a ?_; (try clear hB KB); (try clear hK K)))
  refine hW _ (mkSt [(2, .b (.c (.ptr 0 0))), (3, .b (.c (.ptr 1 0))), (4, .b (.c (.ptr 2 0))), (8, .b (.c (.ptr 3 0))), (10, .b (I k)), (11, .b (.c (.own 4 s.ops.length))), (12, .b (I ((k : Int) + 1))), (116, .b (B (unscM s (opAt s.ops (k + 1)))))] [(0, .fix ((scriptE s).map CV.p)), (1, .fix [.p (PI 9), .p (PI k)]), (2, zerosB), (3, .fix ((rvE s).map CV.p)), (4, .arr 73 12 s.ops.length (sub1 s.ops (k + 1) (unw2 (opAt s.ops k) (opAt s.ops (k + 1)))))] 5) ?_ ?_
  · refine le_a [(1, some 1), (2, some 2), (3, some 3), (4, some 4)] ?_ ?_
    repeat' (refine And.intro ?_ ?_)
    all_goals first | exact le_cl | skip
    refine .inr fun a ha j hj => ?_
    by_cases e : a = k + 1
    · subst e
      simp only [eq_self, if_true, sub1_eq]
      have hivl : j = 0 ∨ j = 1 ∨ j = 2 ∨ j = 3 ∨ j = 4 ∨ j = 5 ∨ j = 6 ∨ j = 7 ∨ j = 8 ∨ j = 9 ∨ j = 10 ∨ j = 11 := by omega
      rcases hivl with rfl | rfl | rfl | rfl | rfl | rfl | rfl | rfl | rfl | rfl | rfl | rfl <;> exact fun _ _ _ h => h
    · rw [sub1_ne e]
      simp only [if_neg e]
      exact fun _ _ _ h => h
  clear hW
  refine cw_ifM (t := unscM s (opAt s.ops (k + 1))) (mkSt [(2, .b (.c (.ptr 0 0))), (3, .b (.c (.ptr 1 0))), (4, .b (.c (.ptr 2 0))), (8, .b (.c (.ptr 3 0))), (10, .b (I k)), (11, .b (.c (.own 4 s.ops.length))), (12, .b (I ((k : Int) + 1)))] [(0, .fix ((scriptE s).map CV.p)), (1, .fix [.p (PI 9), .p (PI k)]), (2, zerosB), (3, .fix ((rvE s).map CV.p)), (4, .arr 73 12 s.ops.length (sub1 s.ops (k + 1) o2))] 5) ?_ ?_ ?_ ?_
  · simp (maxSteps := 1000000) (disch := omega) only [go_sem]
  · intro hb
    rw [ho2, unw1, if_pos hb]
    repeat' (first | with_reducible exact tr_a | refine un_a ?_ | ((first | refine st_a (fun K hK => ?_) | refine rg_a ?_); (repeat' (refine And.intro ?_ ?_)); (all_goals first | (refine hK _ ?_; clear hK K) | exact auto_cl | skip)) | ((first | apply cw_ite | apply cw_iteN); (case hf => rfl); (case hc => exact ev_a); (all_goals first | (intro hb; (try simp only [hbs] at hb)) | skip)) | exact atN_intro | (refine if_a (fun hb => ?_) (fun hb => ?_); (all_goals (try first | with_reducible exact True.intro | (exfalso; omega)))) | refine cw_blocks (fun KB hB => ?_) | (refine hB _ ?_; clear hB KB) | refine exit_by (S := Sg) (by assumption) ?_ | (refine ret_a ?_; (try clear hB KB); (try clear hK K)))
    try rw [thenQ_normal]
    refine ⟨_, ?_, rfl⟩
    refine le_a [(1, some 1), (2, some 2), (3, some 3), (4, some 4)] ?_ ?_
    repeat' (refine And.intro ?_ ?_)
    all_goals first | exact le_cl | skip
    refine .inr fun a ha j hj => ?_
    by_cases e : a = k + 1
    · subst e
      simp only [eq_self, if_true, sub1_eq]
      have hivl : j = 0 ∨ j = 1 ∨ j = 2 ∨ j = 3 ∨ j = 4 ∨ j = 5 ∨ j = 6 ∨ j = 7 ∨ j = 8 ∨ j = 9 ∨ j = 10 ∨ j = 11 := by omega
      rcases hivl with rfl | rfl | rfl | rfl | rfl | rfl | rfl | rfl | rfl | rfl | rfl | rfl <;> exact fun _ _ _ h => h
    · rw [sub1_ne e]
      simp only [if_neg e, sub1_ne e]
      exact fun _ _ _ h => h
  · intro hb
    rw [ho2, unw1, if_neg (by rw [hb]; decide)]
    repeat' (first | with_reducible exact tr_a | refine un_a ?_ | ((first | refine st_a (fun K hK => ?_) | refine rg_a ?_); (repeat' (refine And.intro ?_ ?_)); (all_goals first | (refine hK _ ?_; clear hK K) | exact auto_cl | skip)) | ((first | apply cw_ite | apply cw_iteN); (case hf => rfl); (case hc => exact ev_a); (all_goals first | (intro hb; (try simp only [hbs] at hb)) | skip)) | exact atN_intro | (refine if_a (fun hb => ?_) (fun hb => ?_); (all_goals (try first | with_reducible exact True.intro | (exfalso; omega)))) | refine cw_blocks (fun KB hB => ?_) | (refine hB _ ?_; clear hB KB) | refine exit_by (S := Sg) (by assumption) ?_ | (refine ret_a ?_; (try clear hB KB); (try clear hK K)))
    try rw [thenQ_normal]
    refine ⟨_, ?_, rfl⟩
    refine le_a [(1, some 1), (2, some 2), (3, some 3), (4, some 4)] ?_ ?_
    repeat' (refine And.intro ?_ ?_)
    all_goals first | exact le_cl | skip
  repeat' (first | with_reducible exact tr_a | refine un_a ?_ | ((with_reducible refine cw_stepV (id := 28) (fun K hW => ?_)); (try simp (maxSteps := 1000000) (disch := omega) only [go_sem]); (repeat' (refine And.intro ?_ ?_)); (all_goals first | (refine hK _ ?_; clear hK K) | exact auto_cl | skip)) | ((first | refine st_a (fun K hK => ?_) | refine rg_a ?_); (repeat' (refine And.intro ?_ ?_)); (all_goals first | (refine hK _ ?_; clear hK K) | exact auto_cl | skip)) | ((first | apply cw_ite | apply cw_iteN); (case hf => rfl); (case hc => exact ev_a); (all_goals first | (intro hb; (try simp only [hbs] at hb)) | skip)) | exact atN_intro | (refine if_a (fun hb => ?_) (fun hb => ?_); (all_goals (try first | with_reducible exact True.intro | (exfalso; omega)))) | refine cw_blocks (fun KB hB => ?_) | (refine hB _ ?_; clear hB KB) | refine exit_by (S := Sg) (by assumption) ?_ | (refine ret_a ?_; (try clear hB KB); (try clear hK K)))
  refine hW _ (mkSt [(2, .b (.c (.ptr 0 0))), (3, .b (.c (.ptr 1 0))), (4, .b (.c (.ptr 2 0))), (8, .b (.c (.ptr 3 0))), (10, .b (I k)), (11, .b (.c (.own 4 s.ops.length))), (12, .b (I ((k : Int) + 1))), (158, .b (B (o2.kind == 2)))] [(0, .fix ((scriptE s).map CV.p)), (1, .fix [.p (PI 9), .p (PI k)]), (2, zerosB), (3, .fix ((rvE s).map CV.p)), (4, .arr 73 12 s.ops.length (sub1 s.ops (k + 1) o2))] 5) ?_ ?_
  · refine le_a [(1, some 1), (2, some 2), (3, some 3), (4, some 4)] ?_ ?_
    repeat' (refine And.intro ?_ ?_)
    all_goals first | exact le_cl | skip
  clear hW
  refine cw_ifM (t := (o2.kind == 2)) (mkSt [(2, .b (.c (.ptr 0 0))), (3, .b (.c (.ptr 1 0))), (4, .b (.c (.ptr 2 0))), (8, .b (.c (.ptr 3 0))), (10, .b (I k)), (11, .b (.c (.p (opL (s.ops.set (k + 1) (unwOp s k))))))] [(0, .fix ((scriptE s).map CV.p)), (1, .fix [.p (PI 9), .p (PI k)]), (2, zerosB), (3, .fix ((rvE s).map CV.p))] 5) ?_ ?_ ?_ ?_
  · simp (maxSteps := 1000000) (disch := omega) only [go_sem]
  · intro hb
    rw [hun, unw3, if_pos (beq_iff_eq.1 hb)]
    repeat' (first | with_reducible exact tr_a | refine un_a ?_ | ((first | refine st_a (fun K hK => ?_) | refine rg_a ?_); (repeat' (refine And.intro ?_ ?_)); (all_goals first | (refine hK _ ?_; clear hK K) | exact auto_cl | skip)) | ((first | apply cw_ite | apply cw_iteN); (case hf => rfl); (case hc => exact ev_a); (all_goals first | (intro hb; (try simp only [hbs] at hb)) | skip)) | exact atN_intro | (refine if_a (fun hb => ?_) (fun hb => ?_); (all_goals (try first | with_reducible exact True.intro | (exfalso; omega)))) | refine cw_blocks (fun KB hB => ?_) | (refine hB _ ?_; clear hB KB) | refine exit_by (S := Sg) (by assumption) ?_ | (refine ret_a ?_; (try clear hB KB); (try clear hK K)))
    try rw [thenQ_normal]
    refine ⟨_, ?_, rfl⟩
    refine le_a [(1, some 1), (2, some 2), (3, some 3)] ?_ ?_
    repeat' (refine And.intro ?_ ?_)
    all_goals first | exact le_cl | skip
    intro a ha j hj
    show PV.le _ (fnOf opE (s.ops.set (k + 1) _) a j)
    rw [sub1_pt (by omega)]
    by_cases e : a = k + 1
    · subst e
      simp only [eq_self, if_true, sub1_eq]
      have hivl : j = 0 ∨ j = 1 ∨ j = 2 ∨ j = 3 ∨ j = 4 ∨ j = 5 ∨ j = 6 ∨ j = 7 ∨ j = 8 ∨ j = 9 ∨ j = 10 ∨ j = 11 := by omega
      rcases hivl with rfl | rfl | rfl | rfl | rfl | rfl | rfl | rfl | rfl | rfl | rfl | rfl <;> exact fun _ _ _ h => h
    · simp only [if_neg e, sub1_ne e]
      exact fun _ _ _ h => h
  · intro hb
    rw [hun, unw3, if_neg (beq_eq_false_iff_ne.1 hb)]
    repeat' (first | with_reducible exact tr_a | refine un_a ?_ | ((first | refine st_a (fun K hK => ?_) | refine rg_a ?_); (repeat' (refine And.intro ?_ ?_)); (all_goals first | (refine hK _ ?_; clear hK K) | exact auto_cl | skip)) | ((first | apply cw_ite | apply cw_iteN); (case hf => rfl); (case hc => exact ev_a); (all_goals first | (intro hb; (try simp only [hbs] at hb)) | skip)) | exact atN_intro | (refine if_a (fun hb => ?_) (fun hb => ?_); (all_goals (try first | with_reducible exact True.intro | (exfalso; omega)))) | refine cw_blocks (fun KB hB => ?_) | (refine hB _ ?_; clear hB KB) | refine exit_by (S := Sg) (by assumption) ?_ | (refine ret_a ?_; (try clear hB KB); (try clear hK K)))
    try rw [thenQ_normal]
    refine ⟨_, ?_, rfl⟩
    refine le_a [(1, some 1), (2, some 2), (3, some 3)] ?_ ?_
    repeat' (refine And.intro ?_ ?_)
    all_goals first | exact le_cl | skip
    intro a ha j hj
    show PV.le _ (fnOf opE (s.ops.set (k + 1) _) a j)
    rw [sub1_pt (by omega)]
    exact fun _ _ _ h => h
  repeat' (first | with_reducible exact tr_a | refine un_a ?_ | ((first | refine st_a (fun K hK => ?_) | refine rg_a ?_ | refine call_c (hw1) ?_ | refine gcall_c (fun hg => hw1) ?_ | refine call_c (hw2) ?_ | refine gcall_c (fun hg => hw2) ?_); (repeat' (refine And.intro ?_ ?_)); (all_goals first | (refine hK _ ?_; clear hK K) | exact auto_cl | skip)) | ((first | apply cw_ite | apply cw_iteN); (case hf => rfl); (case hc => exact ev_a); (all_goals first | (intro hb; (try simp only [hbs] at hb)) | skip)) | exact atN_intro | (refine if_a (fun hb => ?_) (fun hb => ?_); (all_goals (try first | with_reducible exact True.intro | (exfalso; omega)))) | refine cw_blocks (fun KB hB => ?_) | (refine hB _ ?_; clear hB KB) | refine exit_by (S := Sg) (by assumption) ?_ | (refine ret_a ?_; (try clear hB KB); (try clear hK K)))
  refine sle_tup ⟨ble_agg ?_, ble_rfl trivial, trivial⟩
  simp only [List.map_cons, List.map_nil, cleL_cons, cleL_nil]
  repeat' (refine And.intro ?_ ?_)
  all_goals first | exact .inl rfl | exact .inl trivial | exact .inr nil_le | trivial | skip
theorem rApply_all (s : Script) (hs : ScriptLen s) (r : Rx) : Pure Sg 27 [ag (scriptE s), ag (rxE r)] (fun x => x = .tup [ag (scriptE (applyM s r).1), I (applyM s r).2]) := by
  unfold applyM
  by_cases he : (opsM s).1 = 0
  · have V := vops_of he
    rw [if_pos he]
    by_cases ha : apM s r.1 r.2 = true
    · rw [if_pos ha]
      exact rApply_yes s V hs r ha
    · rw [if_neg ha]
      rw [Bool.not_eq_true] at ha
      exact rApply_off s V hs r ha
  · rw [if_neg he]
    exact rApply_no s hs he r
theorem rSteps_sp (s : Script) (hs : ScriptLen s) (ho : s.ops.length ≤ 1000000) :
    Pure Sg 36 [ag (scriptE s)] (fun x => x = .tup [.c (.p (.lst 2 (runM s).2.length (fnOf rxE (runM s).2))), ag (scriptE (withOps s (runM s).1))]) := by
  have hwb := wt_bnd s.ops
  refine pure_le ?_
  refine pure_of Tryz.func36 rfl (rs := [.tmp 2, .cell 3 36]) rfl rfl mixed (by decide +kernel) (Nat.le_of_ble_eq_true rfl) (argsLt_mem (by simp (maxSteps := 1000000) (disch := omega) only [go_sem])) ?_
  repeat' (first | with_reducible exact tr_a | refine un_a ?_ | ((first | refine st_a (fun K hK => ?_) | refine rg_a ?_); (repeat' (refine And.intro ?_ ?_)); (all_goals first | (refine hK _ ?_; clear hK K) | exact auto_cl | skip)) | ((first | apply cw_ite | apply cw_iteN); (case hf => rfl); (case hc => exact ev_a); (all_goals first | (intro hb; (try simp only [hbs] at hb)) | skip)) | exact atN_intro | (refine if_a (fun hb => ?_) (fun hb => ?_); (all_goals (try first | with_reducible exact True.intro | (exfalso; omega)))) | refine cw_blocks (fun KB hB => ?_) | (refine hB _ ?_; clear hB KB) | refine exit_by (S := Sg) (by assumption) ?_ | (refine ret_a ?_; (try clear hB KB); (try clear hK K)))
  refine cw_loop (X := Nat × List Op × List Rx) (fun x => mkSt [(1, .b (.c (.ptr 0 0))), (3, .b (.c (.ptr 1 0))), (4, .b (.c (.own 2 x.2.2.length)))] [(0, .fix ((scriptE (withOps s x.2.1)).map CV.p)), (1, zerosB), (2, .arr 61 2 x.2.2.length (fnOf rxE x.2.2))] 3)
    (fun x => sumW wtOp x.2.1 < x.1 ∧ x.2.1.length ≤ 1000000 ∧ x.2.2.length + x.1 ≤ 5000001 ∧ runM s = ((runGo x.1 (withOps s x.2.1)).1, x.2.2 ++ (runGo x.1 (withOps s x.2.1)).2)) (fun x => x.1) (sumW wtOp s.ops + 1, s.ops, []) ?_ ?_ ?_
  · exact ⟨Nat.lt_succ_self _, ho, by dsimp only [List.length_nil]; omega, rfl⟩
  · refine le_a [(1, some 1), (2, none)] ?_ ?_
    repeat' (refine And.intro ?_ ?_)
    all_goals first | exact le_cl | skip
  · rintro ⟨f, cur, steps⟩ ⟨i1, i2, i3, i4⟩
    dsimp only at i1 i2 i3 i4 ⊢
    have hs2 := len_with hs i2
    have hrx := rRedexes_sp (withOps s cur) hs2
    cases hr : redM (withOps s cur) with
    | nil =>
      rw [hr] at hrx
      rw [run_none (by rw [hr]; rfl)] at i4
      repeat' (first | with_reducible exact tr_a | refine un_a ?_ | ((first | refine st_a (fun K hK => ?_) | refine rg_a ?_ | refine call_c (hrx) ?_ | refine gcall_c (fun hg => hrx) ?_); (repeat' (refine And.intro ?_ ?_)); (all_goals first | (refine hK _ ?_; clear hK K) | exact auto_cl | skip)) | ((first | apply cw_ite | apply cw_iteN); (case hf => rfl); (case hc => exact ev_a); (all_goals first | (intro hb; (try simp only [hbs] at hb)) | skip)) | exact atN_intro | (refine if_a (fun hb => ?_) (fun hb => ?_); (all_goals (try first | with_reducible exact True.intro | (exfalso; omega)))) | refine cw_blocks (fun KB hB => ?_) | (refine hB _ ?_; clear hB KB) | refine exit_by (S := Sg) (by assumption) ?_ | (refine ret_a ?_; (try clear hB KB); (try clear hK K)))
      have e : runM s = (cur, steps) := by rw [i4]; exact congrArg (fun q => (cur, q)) (List.append_nil _)
      rw [e]
      refine sle_tup ⟨ble_rfl trivial, ble_agg ?_, trivial⟩
      simp only [List.map_cons, List.map_nil, cleL_cons, cleL_nil]
      repeat' (refine And.intro ?_ ?_)
      all_goals first | exact .inl rfl | exact .inl trivial | exact .inr nil_le | trivial | skip
    | cons r rest =>
      have hh : (redM (withOps s cur)).head? = some r := by rw [hr]; rfl
      obtain ⟨f, rfl⟩ : ∃ g, f = g + 1 := ⟨f - 1, by omega⟩
      rw [run_some hh] at i4
      have hm := mem_red.1 (red_head hh).1
      have V := vops_of hm.1
      have hw := rApply_yes (withOps s cur) V hs2 r hm.2
      have hlt := wt_less V.wf hm.2
      have hle := rw_len V.wf hm.2
      rw [hr] at hrx
      repeat' (first | with_reducible exact tr_a | refine un_a ?_ | ((first | refine st_a (fun K hK => ?_) | refine rg_a ?_ | refine call_c (hrx) ?_ | refine gcall_c (fun hg => hrx) ?_ | refine call_c (hw) ?_ | refine gcall_c (fun hg => hw) ?_); (repeat' (refine And.intro ?_ ?_)); (all_goals first | (refine hK _ ?_; clear hK K) | exact auto_cl | skip)) | ((first | apply cw_ite | apply cw_iteN); (case hf => rfl); (case hc => exact ev_a); (all_goals first | (intro hb; (try simp only [hbs] at hb)) | skip)) | exact atN_intro | (refine if_a (fun hb => ?_) (fun hb => ?_); (all_goals (try first | with_reducible exact True.intro | (exfalso; omega)))) | refine cw_blocks (fun KB hB => ?_) | (refine hB _ ?_; clear hB KB) | refine exit_by (S := Sg) (by assumption) ?_ | (refine ret_a ?_; (try clear hB KB); (try clear hK K)))
      rw [blockQ_normal, thenQ_normal]
      refine wk_loop (f, rwM (withOps s cur) r.1.toNat r.2.toNat, steps ++ [r]) ?_ ⟨?_, ?_, ?_, ?_⟩ (Nat.lt_succ_self f)
      · dsimp only
        rw [show (steps ++ [r]).length = steps.length + 1 from List.length_append]
        refine le_a [(1, some 1), (2, some 4)] ?_ ?_
        repeat' (refine And.intro ?_ ?_)
        all_goals first | exact le_cl | skip
        exact .inr (rx_snoc fun j hj => by
          have hj2 : j = 0 ∨ j = 1 := by omega
          rcases hj2 with rfl | rfl <;> rfl)
      · show sumW wtOp (rwM (withOps s cur) r.1.toNat r.2.toNat) < f
        have : sumW wtOp (withOps s cur).ops = sumW wtOp cur := rfl
        omega
      · show (rwM (withOps s cur) r.1.toNat r.2.toNat).length ≤ 1000000
        have : (withOps s cur).ops.length = cur.length := rfl
        omega
      · show (steps ++ [r]).length + f ≤ 5000001
        rw [List.length_append, List.length_cons, List.length_nil]; omega
      · rw [i4]
        exact congrArg (fun q => (_, q)) (List.append_cons steps r _)
end Go.Proofs.YtbpplplnkgmhlaaGreatDoor

/- RulesRedexesAgree, RulesApplyAgrees, SimplifyAgrees. -/
set_option maxHeartbeats 2000000
set_option maxRecDepth 16000
namespace Go.Proofs.YtbpplplnkgmhlaaGreatDoor
open Go Go.SL
open Go.RowKit (wrap64)
attribute [local go_sem] Int.toNat_natCast rxE

theorem same_sp (l : List Rx) (hl : l.length ≤ 4611686018427387904) : Pure Sg 30 [.c (.p (.lst 2 l.length (fnOf rxE l))), .c (.p (.lst 2 l.length (fnOf rxE l)))] (fun x => x = .b (B true)) := by
  refine pure_of Tryz.func30 rfl (rs := [.tmp 4]) rfl rfl mixed (by decide +kernel) (Nat.le_of_ble_eq_true rfl) (argsLt_mem (by simp (maxSteps := 1000000) (disch := omega) only [go_sem])) ?_
  repeat' (first | with_reducible exact tr_a | refine un_a ?_ | ((first | refine st_a (fun K hK => ?_) | refine rg_a ?_); (repeat' (refine And.intro ?_ ?_)); (all_goals first | (refine hK _ ?_; clear hK K) | exact auto_cl | skip)) | ((first | apply cw_ite | apply cw_iteN); (case hf => rfl); (case hc => exact ev_a); (all_goals first | (intro hb; (try simp only [hbs] at hb)) | skip)) | exact atN_intro | (refine if_a (fun hb => ?_) (fun hb => ?_); (all_goals (try first | with_reducible exact True.intro | (exfalso; omega)))) | refine cw_blocks (fun KB hB => ?_) | (refine hB _ ?_; clear hB KB) | refine exit_by (S := Sg) (by assumption) ?_ | (refine ret_a ?_; (try clear hB KB); (try clear hK K)))
  · first | exact absurd trivial hb | exact absurd hb (by decide) | exact absurd rfl hb
  refine cw_loop (X := Nat) (fun i => mkSt [(0, .b (.c (.p (.lst 2 l.length (fnOf rxE l))))), (1, .b (.c (.p (.lst 2 l.length (fnOf rxE l))))), (5, .b (I i))] [] 1) (fun i => i ≤ l.length) (fun i => l.length - i) 0 ?_ ?_ ?_
  · exact Nat.zero_le _
  · refine le_a [] ?_ ?_
    repeat' (refine And.intro ?_ ?_)
    all_goals first | exact le_cl | skip
  · intro i hi
    rcases Nat.lt_or_ge i l.length with hlt | hge
    · repeat' (first | with_reducible exact tr_a | refine un_a ?_ | ((first | refine st_a (fun K hK => ?_) | refine rg_a ?_); (repeat' (refine And.intro ?_ ?_)); (all_goals first | (refine hK _ ?_; clear hK K) | exact auto_cl | skip)) | ((first | apply cw_ite | apply cw_iteN); (case hf => rfl); (case hc => exact ev_a); (all_goals first | (intro hb; (try simp only [hbs] at hb)) | skip)) | exact atN_intro | (refine if_a (fun hb => ?_) (fun hb => ?_); (all_goals (try first | with_reducible exact True.intro | (exfalso; omega)))) | refine cw_blocks (fun KB hB => ?_) | (refine hB _ ?_; clear hB KB) | refine exit_by (S := Sg) (by assumption) ?_ | (refine ret_a ?_; (try clear hB KB); (try clear hK K)))
      · exact absurd (hb trivial trivial) (by decide)
      rw [thenQ_normal]
      refine wk_loop (i + 1) ?_ (by omega) (by omega)
      refine le_a [] ?_ ?_
      repeat' (refine And.intro ?_ ?_)
      all_goals first | exact le_cl | skip
    · have hi3 : i = l.length := by omega
      subst hi3
      repeat' (first | with_reducible exact tr_a | refine un_a ?_ | ((first | refine st_a (fun K hK => ?_) | refine rg_a ?_); (repeat' (refine And.intro ?_ ?_)); (all_goals first | (refine hK _ ?_; clear hK K) | exact auto_cl | skip)) | ((first | apply cw_ite | apply cw_iteN); (case hf => rfl); (case hc => exact ev_a); (all_goals first | (intro hb; (try simp only [hbs] at hb)) | skip)) | exact atN_intro | (refine if_a (fun hb => ?_) (fun hb => ?_); (all_goals (try first | with_reducible exact True.intro | (exfalso; omega)))) | refine cw_blocks (fun KB hB => ?_) | (refine hB _ ?_; clear hB KB) | refine exit_by (S := Sg) (by assumption) ?_ | (refine ret_a ?_; (try clear hB KB); (try clear hK K)))
theorem redexes_law (c : Scene) (hc : SceneOk c) (l : List Int) (hl : l.length ≤ 4611686018427387904) (rule op : Int) :
    Pure Sg 7 [ag (sceneE c), .c (.p (ints l)), I rule, I op] (fun x => x = .b (B true)) := by
  have hg := gscript_spec c hc
  have hi := gImages_le c
  have hgood := (gScript_good c).len
  have hb := bias_sp (gScript c) l (gScript_len c) hl (by omega) (by show (gImages c).length ≤ _; omega)
  have hs := len_bias c l
  have H := sml_bias c l
  have ho := bias_ops c l
  generalize hS : biasM (gScript c) l = s at *
  have hrx := Redexes_sp s hs
  have hrr := rRedexes_sp s hs
  have haw := awake26_sp
  have hcn := count_sp s hs
  have hrc := rcount_sp s hs
  have hrb : (redM s).length ≤ 10 * s.ops.length := by
    unfold redM
    split
    · exact rxTo_le s _
    · exact Nat.zero_le _
  have hsm := same_sp (redM s) (by omega)
  have hm1 := mod_spec rule 12 (by omega)
  have hm2 := modp_spec op ((s.ops.length : Int) + 2) (by omega) (by omega)
  refine pure_of Tryz.func7 rfl (rs := [.tmp 8]) rfl rfl mixed (by decide +kernel) (Nat.le_of_ble_eq_true rfl) (argsLt_mem (by simp (maxSteps := 1000000) (disch := omega) only [go_sem])) ?_
  repeat' (first | with_reducible exact tr_a | refine un_a ?_ | ((first | refine st_a (fun K hK => ?_) | refine rg_a ?_ | refine call_c (hg) ?_ | refine gcall_c (fun hg => hg) ?_ | refine call_c (hb) ?_ | refine gcall_c (fun hg => hb) ?_ | refine call_c (haw) ?_ | refine gcall_c (fun hg => haw) ?_ | refine call_c (hrx) ?_ | refine gcall_c (fun hg => hrx) ?_ | refine call_c (hrr) ?_ | refine gcall_c (fun hg => hrr) ?_ | refine call_c (hsm) ?_ | refine gcall_c (fun hg => hsm) ?_ | refine call_c (hm1) ?_ | refine gcall_c (fun hg => hm1) ?_ | refine call_c (hm2) ?_ | refine gcall_c (fun hg => hm2) ?_ | refine call_c (Applies_all s hs _ _) ?_ | refine gcall_c (fun hg => Applies_all s hs _ _) ?_ | refine call_c (rApplies_all s hs _ _) ?_ | refine gcall_c (fun hg => rApplies_all s hs _ _) ?_ | refine call_c (hcn) ?_ | refine gcall_c (fun hg => hcn) ?_ | refine call_c (hrc) ?_ | refine gcall_c (fun hg => hrc) ?_); (repeat' (refine And.intro ?_ ?_)); (all_goals first | (refine hK _ ?_; clear hK K) | exact auto_cl | skip)) | ((first | apply cw_ite | apply cw_iteN); (case hf => rfl); (case hc => exact ev_a); (all_goals first | (intro hb; (try simp only [hbs] at hb)) | skip)) | exact atN_intro | (refine if_a (fun hb => ?_) (fun hb => ?_); (all_goals (try first | with_reducible exact True.intro | (exfalso; omega)))) | refine cw_blocks (fun KB hB => ?_) | (refine hB _ ?_; clear hB KB) | refine exit_by (S := Sg) (by assumption) ?_ | (refine ret_a ?_; (try clear hB KB); (try clear hK K)))
  refine vb ?_
  simp only [beq_self_eq_true, Bool.and_self]
theorem apply_law (c : Scene) (hc : SceneOk c) (l : List Int) (hl : l.length ≤ 4611686018427387904) (pick rule op : Int) :
    Pure Sg 6 [ag (sceneE c), .c (.p (ints l)), I pick, I rule, I op] (fun x => x = .b (B true)) := by
  have hg := gscript_spec c hc
  have hi := gImages_le c
  have hgood := (gScript_good c).len
  have hb := bias_sp (gScript c) l (gScript_len c) hl (by omega) (by show (gImages c).length ≤ _; omega)
  have hs := len_bias c l
  have H := sml_bias c l
  have ho := bias_ops c l
  generalize hS : biasM (gScript c) l = s at *
  have hrr := rRedexes_sp s hs
  have haw := awake26_sp
  have hrb : (redM s).length ≤ 10 * s.ops.length := by
    unfold redM
    split
    · exact rxTo_le s _
    · exact Nat.zero_le _
  have hm1 := mod_spec rule 12 (by omega)
  have hm2 := modp_spec op ((s.ops.length : Int) + 2) (by omega) (by omega)
  have hm3 := mod_spec (IntKind.i64.wrap (rule.tdiv 12)) 4 (by omega)
  have hX : ∃ X : Rx, X = if ((redM s).length : Int) > 0 ∧ gMod (IntKind.i64.wrap (rule.tdiv 12)) 4 > 0 then (redM s).getD (pick % ((redM s).length : Int)).toNat default else (IntKind.i64.wrap (gMod rule 12 - 1), IntKind.i64.wrap (op % ((s.ops.length : Int) + 2) - 1)) := ⟨_, rfl⟩
  obtain ⟨X, hX⟩ := hX
  have hap := Apply_all s hs H (by omega) X
  have hrp := rApply_all s hs X
  have hal : (applyM s X).1.ops.length ≤ 1000000 := by
    unfold applyM
    split
    · rename_i he
      split
      · rename_i ha
        have := rw_len (vops_of he).wf ha
        exact Nat.le_trans this (by omega)
      · exact Nat.zero_le _
    · exact Nat.zero_le _
  have hso := sameOps_spec (applyM s X).1.ops (applyM s X).1.ops hal hal
  generalize applyM s X = Y at *
  refine pure_of Tryz.func6 rfl (rs := [.tmp 10]) rfl rfl mixed (by decide +kernel) (Nat.le_of_ble_eq_true rfl) (argsLt_mem (by simp (maxSteps := 1000000) (disch := omega) only [go_sem])) ?_
  repeat' (first | with_reducible exact tr_a | refine un_a ?_ | ((first | refine st_a (fun K hK => ?_) | refine rg_a ?_ | refine call_c (hg) ?_ | refine gcall_c (fun hg => hg) ?_ | refine call_c (hb) ?_ | refine gcall_c (fun hg => hb) ?_); (repeat' (refine And.intro ?_ ?_)); (all_goals first | (refine hK _ ?_; clear hK K) | exact auto_cl | skip)) | ((first | apply cw_ite | apply cw_iteN); (case hf => rfl); (case hc => exact ev_a); (all_goals first | (intro hb; (try simp only [hbs] at hb)) | skip)) | exact atN_intro | (refine if_a (fun hb => ?_) (fun hb => ?_); (all_goals (try first | with_reducible exact True.intro | (exfalso; omega)))) | refine cw_blocks (fun KB hB => ?_) | (refine hB _ ?_; clear hB KB) | refine exit_by (S := Sg) (by assumption) ?_ | (refine ret_a ?_; (try clear hB KB); (try clear hK K)))
  refine cw_stepR (id := 2) (.br 0 (.br 3 (.br 4 (.br 1 (.br 2 (.br 5 (.br 6 (.br 7 (.br 8 (.br 9 (.br 10 (.br 11 (.br 12 .leaf .nil) .nil) .nil) .nil) (.br 11 (.br 8 (.br 9 (.br 10 (.br 12 .leaf .nil) .nil) .nil) .nil) .nil)) .nil) .nil) .nil) .nil) (.br 5 (.br 6 (.br 7 (.br 1 (.br 2 (.br 8 (.br 9 (.br 10 (.br 11 (.br 12 .leaf .nil) .nil) .nil) .nil) (.br 11 (.br 8 (.br 9 (.br 10 (.br 12 .leaf .nil) .nil) .nil) .nil) .nil)) .nil) (.br 11 (.br 1 (.br 2 (.br 8 (.br 9 (.br 10 (.br 12 .leaf .nil) .nil) .nil) .nil) .nil) .nil) .nil)) .nil) .nil) (.br 11 (.br 1 (.br 2 (.br 5 (.br 6 (.br 7 (.br 8 (.br 9 (.br 10 (.br 12 .leaf .nil) .nil) .nil) .nil) .nil) .nil) .nil) .nil) (.br 5 (.br 6 (.br 7 (.br 1 (.br 2 (.br 8 (.br 9 (.br 10 (.br 12 .leaf .nil) .nil) .nil) .nil) .nil) .nil) .nil) .nil) .nil)) .nil))) .nil) .nil) .nil) (by decide +kernel) (by exact wf_a) (fun K0 hW => ?_)
  refine (fun (tl : ∀ st, Le st (mkSt [(2, .b (I pick)), (3, .b (I rule)), (11, .b (.c (.ptr 1 0))), (12, .b (.c (.ptr 2 0)))] [(1, .fix ((scriptE s).map CV.p)), (2, .fix [.p (PI (IntKind.i64.wrap (gMod rule 12 - 1))), .p (PI (IntKind.i64.wrap (op % ((s.ops.length : Int) + 2) - 1)))])] 3) → K0 st) => ?_) (fun st hl => hW st _ hl ?_)
  · clear hW
    repeat' (first | exact tree_nil | (refine tree_br (fun K' hK' => ?_) ?_) | (refine tree_leaf (tl _ ?_); clear tl) | ((first | refine call_c (hm1) ?_ | refine gcall_c (fun hg => hm1) ?_ | refine call_c (hm2) ?_ | refine gcall_c (fun hg => hm2) ?_); (try simp (maxSteps := 1000000) (disch := omega) only [go_sem]); (repeat' (refine And.intro ?_ ?_)); (all_goals first | (refine hK' _ ?_; clear hK' K') | trivial | omega | exact Nat.le_of_ble_eq_true rfl | exact auto_cl | skip)) | (simp (maxSteps := 1000000) (disch := omega) only [go_sem]; (repeat' (refine And.intro ?_ ?_)); (all_goals first | (refine hK' _ ?_; clear hK' K') | trivial | omega | exact Nat.le_of_ble_eq_true rfl | exact auto_cl | skip)))
    all_goals
      refine le_a [(1, some 1), (2, some 2)] ?_ ?_
      repeat' (refine And.intro ?_ ?_)
      all_goals first | exact le_cl | skip
  clear hW
  repeat' (first | with_reducible exact tr_a | refine un_a ?_ | ((with_reducible refine cw_stepV (id := 4) (fun K hW => ?_)); (try simp (maxSteps := 1000000) (disch := omega) only [go_sem]); (repeat' (refine And.intro ?_ ?_)); (all_goals first | (refine hK _ ?_; clear hK K) | exact auto_cl | skip)) | ((first | refine st_a (fun K hK => ?_) | refine rg_a ?_ | refine call_c (hrr) ?_ | refine gcall_c (fun hg => hrr) ?_ | refine call_c (hm3) ?_ | refine gcall_c (fun hg => hm3) ?_); (repeat' (refine And.intro ?_ ?_)); (all_goals first | (refine hK _ ?_; clear hK K) | exact auto_cl | skip)) | ((first | apply cw_ite | apply cw_iteN); (case hf => rfl); (case hc => exact ev_a); (all_goals first | (intro hb; (try simp only [hbs] at hb)) | skip)) | exact atN_intro | (refine if_a (fun hb => ?_) (fun hb => ?_); (all_goals (try first | with_reducible exact True.intro | (exfalso; omega)))) | refine cw_blocks (fun KB hB => ?_) | (refine hB _ ?_; clear hB KB) | refine exit_by (S := Sg) (by assumption) ?_ | (refine ret_a ?_; (try clear hB KB); (try clear hK K)))
  refine hW _ (mkSt [(2, .b (I pick)), (11, .b (.c (.ptr 1 0))), (12, .b (.c (.ptr 2 0))), (13, .b (.c (.p (.lst 2 (redM s).length (fnOf rxE (redM s)))))), (43, .b (B (decide (((redM s).length : Int) > 0) && decide (gMod (IntKind.i64.wrap (rule.tdiv 12)) 4 > 0))))] [(1, .fix ((scriptE s).map CV.p)), (2, .fix [.p (PI (IntKind.i64.wrap (gMod rule 12 - 1))), .p (PI (IntKind.i64.wrap (op % ((s.ops.length : Int) + 2) - 1)))])] 3) ?_ ?_
  · refine le_a [(1, some 1), (2, some 2)] ?_ ?_
    repeat' (refine And.intro ?_ ?_)
    all_goals first | exact le_cl | skip
  clear hW
  refine cw_ifM (t := (decide (((redM s).length : Int) > 0) && decide (gMod (IntKind.i64.wrap (rule.tdiv 12)) 4 > 0))) (mkSt [(11, .b (.c (.ptr 1 0))), (12, .b (.c (.ptr 2 0)))] [(1, .fix ((scriptE s).map CV.p)), (2, .fix [.p (PI X.1), .p (PI X.2)])] 3) ?_ ?_ ?_ ?_
  · simp (maxSteps := 1000000) (disch := omega) only [go_sem]
  · intro hb
    rw [Bool.and_eq_true, decide_eq_true_eq, decide_eq_true_eq] at hb
    rw [if_pos hb] at hX
    subst hX
    have hm := modp_spec pick ((redM s).length : Int) (by omega) (by omega)
    have b1 := Int.emod_nonneg pick (show ((redM s).length : Int) ≠ 0 by omega)
    have b2 := Int.emod_lt_of_pos pick (show 0 < ((redM s).length : Int) by omega)
    repeat' (first | with_reducible exact tr_a | refine un_a ?_ | ((first | refine st_a (fun K hK => ?_) | refine rg_a ?_ | refine call_c (hm) ?_ | refine gcall_c (fun hg => hm) ?_); (repeat' (refine And.intro ?_ ?_)); (all_goals first | (refine hK _ ?_; clear hK K) | exact auto_cl | skip)) | ((first | apply cw_ite | apply cw_iteN); (case hf => rfl); (case hc => exact ev_a); (all_goals first | (intro hb; (try simp only [hbs] at hb)) | skip)) | exact atN_intro | (refine if_a (fun hb => ?_) (fun hb => ?_); (all_goals (try first | with_reducible exact True.intro | (exfalso; omega)))) | refine cw_blocks (fun KB hB => ?_) | (refine hB _ ?_; clear hB KB) | refine exit_by (S := Sg) (by assumption) ?_ | (refine ret_a ?_; (try clear hB KB); (try clear hK K)))
    try rw [thenQ_normal]
    refine ⟨_, ?_, rfl⟩
    refine le_a [(1, some 1), (2, some 2)] ?_ ?_
    repeat' (refine And.intro ?_ ?_)
    all_goals first | exact le_cl | skip
  · intro hb
    rw [← Bool.not_eq_true, Bool.and_eq_true, decide_eq_true_eq, decide_eq_true_eq] at hb
    rw [if_neg hb] at hX
    subst hX
    repeat' (first | with_reducible exact tr_a | refine un_a ?_ | ((first | refine st_a (fun K hK => ?_) | refine rg_a ?_); (repeat' (refine And.intro ?_ ?_)); (all_goals first | (refine hK _ ?_; clear hK K) | exact auto_cl | skip)) | ((first | apply cw_ite | apply cw_iteN); (case hf => rfl); (case hc => exact ev_a); (all_goals first | (intro hb; (try simp only [hbs] at hb)) | skip)) | exact atN_intro | (refine if_a (fun hb => ?_) (fun hb => ?_); (all_goals (try first | with_reducible exact True.intro | (exfalso; omega)))) | refine cw_blocks (fun KB hB => ?_) | (refine hB _ ?_; clear hB KB) | refine exit_by (S := Sg) (by assumption) ?_ | (refine ret_a ?_; (try clear hB KB); (try clear hK K)))
    try rw [thenQ_normal]
    refine ⟨_, ?_, rfl⟩
    refine le_a [(1, some 1), (2, some 2)] ?_ ?_
    repeat' (refine And.intro ?_ ?_)
    all_goals first | exact le_cl | skip
  repeat' (first | with_reducible exact tr_a | refine un_a ?_ | ((first | refine st_a (fun K hK => ?_) | refine rg_a ?_ | refine call_c (hap) ?_ | refine gcall_c (fun hg => hap) ?_ | refine call_c (hrp) ?_ | refine gcall_c (fun hg => hrp) ?_ | refine call_c (haw) ?_ | refine gcall_c (fun hg => haw) ?_ | refine call_c (hso) ?_ | refine gcall_c (fun hg => hso) ?_); (repeat' (refine And.intro ?_ ?_)); (all_goals first | (refine hK _ ?_; clear hK K) | exact auto_cl | skip)) | ((first | apply cw_ite | apply cw_iteN); (case hf => rfl); (case hc => exact ev_a); (all_goals first | (intro hb; (try simp only [hbs] at hb)) | skip)) | exact atN_intro | (refine if_a (fun hb => ?_) (fun hb => ?_); (all_goals (try first | with_reducible exact True.intro | (exfalso; omega)))) | refine cw_blocks (fun KB hB => ?_) | (refine hB _ ?_; clear hB KB) | refine exit_by (S := Sg) (by assumption) ?_ | (refine ret_a ?_; (try clear hB KB); (try clear hK K)))
  refine vb ?_
  simp only [beq_self_eq_true, Bool.and_self]
theorem agrees27_law (c : Scene) (hc : SceneOk c) (l : List Int) (hl : l.length ≤ 4611686018427387904) :
    Pure Sg 9 [ag (sceneE c), .c (.p (ints l))] (fun x => x = .b (B true)) := by
  have hg := gscript_spec c hc
  have hi := gImages_le c
  have hgood := (gScript_good c).len
  have hb := bias_sp (gScript c) l (gScript_len c) hl (by omega) (by show (gImages c).length ≤ _; omega)
  have hs := len_bias c l
  have H := sml_bias c l
  have ho := bias_ops c l
  generalize hS : biasM (gScript c) l = s at *
  have hsi := Simplify_sp s hs H (by omega)
  have hst := Steps_sp s hs H (by omega)
  have hrs := rSteps_sp s hs (by omega)
  have hlen : (runM s).1.length ≤ s.ops.length := runGo_len _ s
  have hwb := wt_bnd s.ops
  have hcnt : (runM s).2.length ≤ sumW wtOp s.ops := steps_cnt _ s
  generalize hP : (runM s).2 = d at *
  generalize hQ : (runM s).1 = lo at *
  have haw := awake27_sp
  have hso := sameOps_spec lo lo (by omega) (by omega)
  have hsn := sameInts_spec s.order s.order hs.order hs.order
  refine pure_of Tryz.func9 rfl (rs := [.tmp 4]) rfl rfl mixed (by decide +kernel) (Nat.le_of_ble_eq_true rfl) (argsLt_mem (by simp (maxSteps := 1000000) (disch := omega) only [go_sem])) ?_
  repeat' (first | with_reducible exact tr_a | refine un_a ?_ | ((first | refine st_a (fun K hK => ?_) | refine rg_a ?_ | refine call_c (hg) ?_ | refine gcall_c (fun hg => hg) ?_ | refine call_c (hb) ?_ | refine gcall_c (fun hg => hb) ?_ | refine call_c (hrs) ?_ | refine gcall_c (fun hg => hrs) ?_); (repeat' (refine And.intro ?_ ?_)); (all_goals first | (refine hK _ ?_; clear hK K) | exact auto_cl | skip)) | ((first | apply cw_ite | apply cw_iteN); (case hf => rfl); (case hc => exact ev_a); (all_goals first | (intro hb; (try simp only [hbs] at hb)) | skip)) | exact atN_intro | (refine if_a (fun hb => ?_) (fun hb => ?_); (all_goals (try first | with_reducible exact True.intro | (exfalso; omega)))) | refine cw_blocks (fun KB hB => ?_) | (refine hB _ ?_; clear hB KB) | refine exit_by (S := Sg) (by assumption) ?_ | (refine ret_a ?_; (try clear hB KB); (try clear hK K)))
  refine cw_stepR (id := 3) (.br 0 (.br 1 (.br 2 (.br 3 (.br 4 (.br 5 (.br 6 .leaf .nil) .nil) .nil) (.br 4 (.br 3 (.br 5 (.br 6 .leaf .nil) .nil) .nil) .nil)) .nil) (.br 2 (.br 1 (.br 3 (.br 4 (.br 5 (.br 6 .leaf .nil) .nil) .nil) (.br 4 (.br 3 (.br 5 (.br 6 .leaf .nil) .nil) .nil) .nil)) (.br 4 (.br 1 (.br 3 (.br 5 (.br 6 .leaf .nil) .nil) .nil) .nil) .nil)) (.br 4 (.br 1 (.br 2 (.br 3 (.br 5 (.br 6 .leaf .nil) .nil) .nil) .nil) (.br 2 (.br 1 (.br 3 (.br 5 (.br 6 .leaf .nil) .nil) .nil) .nil) .nil)) .nil))) .nil) (by decide +kernel) (by exact wf_a) (fun K0 hW => ?_)
  refine (fun (tl : ∀ st, Le st (mkSt [(5, .b (.c (.ptr 1 0))), (6, .b (.c (.p (.lst 2 d.length (fnOf rxE d))))), (7, .b (.c (.ptr 2 0))), (8, .b (.c (.ptr 3 0))), (9, .b (.c (.p (.lst 2 d.length (fnOf rxE d)))))] [(1, .fix ((scriptE s).map CV.p)), (2, .fix ((scriptE (withOps s lo)).map CV.p)), (3, .fix ((scriptE (withOps s lo)).map CV.p))] 4) → K0 st) => ?_) (fun st hl => hW st _ hl ?_)
  · clear hW
    repeat' (first | exact tree_nil | (refine tree_br (fun K' hK' => ?_) ?_) | (refine tree_leaf (tl _ ?_); clear tl) | ((first | refine call_c (hsi) ?_ | refine gcall_c (fun hg => hsi) ?_ | refine call_c (hst) ?_ | refine gcall_c (fun hg => hst) ?_); (try simp (maxSteps := 1000000) (disch := omega) only [go_sem]); (repeat' (refine And.intro ?_ ?_)); (all_goals first | (refine hK' _ ?_; clear hK' K') | trivial | omega | exact Nat.le_of_ble_eq_true rfl | exact auto_cl | skip)) | (simp (maxSteps := 1000000) (disch := omega) only [go_sem]; (repeat' (refine And.intro ?_ ?_)); (all_goals first | (refine hK' _ ?_; clear hK' K') | trivial | omega | exact Nat.le_of_ble_eq_true rfl | exact auto_cl | skip)))
    all_goals
      refine le_a [(1, some 1), (2, some 2), (3, some 3)] ?_ ?_
      repeat' (refine And.intro ?_ ?_)
      all_goals first | exact le_cl | skip
  clear hW
  repeat' (first | with_reducible exact tr_a | refine un_a ?_ | ((first | refine st_a (fun K hK => ?_) | refine rg_a ?_ | refine call_c (haw) ?_ | refine gcall_c (fun hg => haw) ?_ | refine call_c (hso) ?_ | refine gcall_c (fun hg => hso) ?_ | refine call_c (hsn) ?_ | refine gcall_c (fun hg => hsn) ?_); (repeat' (refine And.intro ?_ ?_)); (all_goals first | (refine hK _ ?_; clear hK K) | exact auto_cl | skip)) | ((first | apply cw_ite | apply cw_iteN); (case hf => rfl); (case hc => exact ev_a); (all_goals first | (intro hb; (try simp only [hbs] at hb)) | skip)) | exact atN_intro | (refine if_a (fun hb => ?_) (fun hb => ?_); (all_goals (try first | with_reducible exact True.intro | (exfalso; omega)))) | refine cw_blocks (fun KB hB => ?_) | (refine hB _ ?_; clear hB KB) | refine exit_by (S := Sg) (by assumption) ?_ | (refine ret_a ?_; (try clear hB KB); (try clear hK K)))
  · exfalso
    revert hb
    simp
    exact ⟨⟨⟨⟨rfl, rfl, rfl, rfl, rfl⟩, rfl⟩, rfl⟩, rfl⟩
  refine cw_loop (X := Nat) (fun i => mkSt [(6, .b (.c (.p (.lst 2 d.length (fnOf rxE d))))), (9, .b (.c (.p (.lst 2 d.length (fnOf rxE d))))), (10, .b (I i))] [] 4) (fun i => i ≤ d.length) (fun i => d.length - i) 0 ?_ ?_ ?_
  · exact Nat.zero_le _
  · refine le_a [] ?_ ?_
    repeat' (refine And.intro ?_ ?_)
    all_goals first | exact le_cl | skip
  · intro i hi
    rcases Nat.lt_or_ge i d.length with hlt | hge
    · repeat' (first | with_reducible exact tr_a | refine un_a ?_ | ((first | refine st_a (fun K hK => ?_) | refine rg_a ?_); (repeat' (refine And.intro ?_ ?_)); (all_goals first | (refine hK _ ?_; clear hK K) | exact auto_cl | skip)) | ((first | apply cw_ite | apply cw_iteN); (case hf => rfl); (case hc => exact ev_a); (all_goals first | (intro hb; (try simp only [hbs] at hb)) | skip)) | exact atN_intro | (refine if_a (fun hb => ?_) (fun hb => ?_); (all_goals (try first | with_reducible exact True.intro | (exfalso; omega)))) | refine cw_blocks (fun KB hB => ?_) | (refine hB _ ?_; clear hB KB) | refine exit_by (S := Sg) (by assumption) ?_ | (refine ret_a ?_; (try clear hB KB); (try clear hK K)))
      · exact absurd (hb trivial trivial) (by decide)
      rw [thenQ_normal]
      refine wk_loop (i + 1) ?_ (by omega) (by omega)
      refine le_a [] ?_ ?_
      repeat' (refine And.intro ?_ ?_)
      all_goals first | exact le_cl | skip
    · have hi3 : i = d.length := by omega
      subst hi3
      repeat' (first | with_reducible exact tr_a | refine un_a ?_ | ((first | refine st_a (fun K hK => ?_) | refine rg_a ?_); (repeat' (refine And.intro ?_ ?_)); (all_goals first | (refine hK _ ?_; clear hK K) | exact auto_cl | skip)) | ((first | apply cw_ite | apply cw_iteN); (case hf => rfl); (case hc => exact ev_a); (all_goals first | (intro hb; (try simp only [hbs] at hb)) | skip)) | exact atN_intro | (refine if_a (fun hb => ?_) (fun hb => ?_); (all_goals (try first | with_reducible exact True.intro | (exfalso; omega)))) | refine cw_blocks (fun KB hB => ?_) | (refine hB _ ?_; clear hB KB) | refine exit_by (S := Sg) (by assumption) ?_ | (refine ret_a ?_; (try clear hB KB); (try clear hK K)))
end Go.Proofs.YtbpplplnkgmhlaaGreatDoor

/- Pixels: whatever a row reads at their type is such a pixel. -/
set_option maxRecDepth 8000
namespace Go.Proofs.YtbpplplnkgmhlaaGreatDoor
open Go Go.SL

theorem c_u3 : Cdc Sg.P 50 (fun (p : Int × Int × Int) => [PU p.1, PU p.2.1, PU p.2.2]) (fun p => u16 p.1 ∧ u16 p.2.1 ∧ u16 p.2.2) := by
  refine Cdc.to (cdc_struct ?_ ?_ (cdcL_cons c_u16 rfl (cdcL_cons c_u16 rfl (cdcL_cons c_u16 rfl cdcL_nil)))) (fun (a, b, c, _) => (a, b, c)) (fun _ => rfl) ?_
  · kernel_rfl
  · kernel_rfl
  · rintro _ ⟨h1, h2, h3, _⟩
    exact ⟨h1, h2, h3⟩
theorem c_pix : Cdc Sg.P 52 pixE (fun p => u16 p.c0 ∧ u16 p.c1 ∧ u16 p.c2 ∧ u16 p.a ∧ u16 p.f) := by
  refine Cdc.to (cdc_struct ?_ ?_ (cdcL_cons c_u3 rfl (cdcL_cons c_u16 rfl (cdcL_cons c_u16 rfl cdcL_nil)))) (fun (p, a, f, _) => (⟨p.1, p.2.1, p.2.2, a, f⟩ : Pixel)) (fun _ => rfl) ?_
  · kernel_rfl
  · kernel_rfl
  · rintro _ ⟨⟨h1, h2, h3⟩, h4, h5, _⟩
    exact ⟨h1, h2, h3, h4, h5⟩
end Go.Proofs.YtbpplplnkgmhlaaGreatDoor

/- RulesRejectOps and SimplifyRejects. -/
set_option maxHeartbeats 2000000
set_option maxRecDepth 16000
namespace Go.Proofs.YtbpplplnkgmhlaaGreatDoor
open Go Go.SL
open Go.RowKit (wrap64)
attribute [local go_sem] Int.toNat_natCast rxE ownRes resC scrO8 scrO9

theorem call_k {st : St} {f : FuncId} {args : List BV} {K : SV → St → Prop} {cs : List (Option PV)} {k e sz n : Nat} {g : Nat → Nat → PV} {q : Prop} (h : PureOwnK Sg f args cs k e sz n g) (hk : q) (hw : WfN 0 st := by (first | exact wf_a | fail))
    (ho : onlyAt k cs = true := by rfl) (hr : Sg.rcv f = true := by rfl) (hl : argsLt args := by simp (maxSteps := 1000000) (disch := omega) only [go_sem]) (w : q → K (.b (.agg (ownRes (.own st.nx n) cs))) (st.turn (bxIns st.nx (.arr e sz n g) st.bx) (st.nx + 1)) := by (first | (intro h; first | (simp (maxSteps := 1000000) (disch := omega) only [go_sem]; exact h) | exact h) | fail)) : CallS Sg st f args (Sl.of K) := by
  refine call_inl (inl_ownK h (argsLt_mem hl) ho st.bx st.nx) hr (fun i hi => ?_) (by omega) (w hk)
  simp only [bxIns]
  rw [if_neg (by omega)]
  exact hw.1 i (by omega)
theorem img_pt {l : List Image} {k i j : Nat} {m : Image} (hk : k < l.length) : fnOf imageE (l.set k m) i j = if i = k then (imageE m).getD j .any else fnOf imageE l i j := by
  show (imageE ((l.set k m).getD i default)).getD j .any = _
  simp only [List.getD_eq_getElem?_getD, List.getElem?_set]
  by_cases h : i = k
  · subst h
    rw [if_pos rfl, if_pos rfl, if_pos hk]; rfl
  · rw [if_neg (fun q => h q.symm), if_neg h]; rfl
theorem set_get {l : List Image} {k i : Nat} {m : Image} (hk : k < l.length) : (l.set k m).getD i default = if i = k then m else l.getD i default := by
  simp only [List.getD_eq_getElem?_getD, List.getElem?_set]
  by_cases h : i = k
  · subst h
    rw [if_pos rfl, if_pos rfl, if_pos hk]; rfl
  · rw [if_neg (fun q => h q.symm), if_neg h]
theorem set_sml {s : Script} {k : Nat} {p : Pixel} {l : List Op} (H : Sml s) (hk : k < s.images.length) : Sml { s with images := s.images.set k { imgM s k with color := p }, ops := l } := by
  have e : ∀ i, i < (s.images.set k { imgM s k with color := p }).length → ∃ j, j < s.images.length ∧ ((s.images.set k { imgM s k with color := p }).getD i default).p0 = (s.images.getD j default).p0 ∧ ((s.images.set k { imgM s k with color := p }).getD i default).p1 = (s.images.getD j default).p1 ∧
      ((s.images.set k { imgM s k with color := p }).getD i default).p2 = (s.images.getD j default).p2 ∧ ((s.images.set k { imgM s k with color := p }).getD i default).p3 = (s.images.getD j default).p3 ∧ ((s.images.set k { imgM s k with color := p }).getD i default).p4 = (s.images.getD j default).p4 := fun i hi => by
    rw [List.length_set] at hi
    rw [set_get hk]
    by_cases h : i = k
    · rw [if_pos h]; exact ⟨k, hk, rfl, rfl, rfl, rfl, rfl⟩
    · rw [if_neg h]; exact ⟨i, hi, rfl, rfl, rfl, rfl, rfl⟩
  have hl : (s.images.set k { imgM s k with color := p }).length = s.images.length := List.length_set
  refine ⟨H.order, by show 0 < (s.images.set k _).length; rw [hl]; exact H.im0, by show (s.images.set k _).length ≤ _; rw [hl]; exact H.im, fun i hi => ?_, fun i hi => ?_, fun i hi => ?_, fun i hi => ?_, fun i hi => ?_⟩
  all_goals
    obtain ⟨j, hj, q0, q1, q2, q3, q4⟩ := e i hi
  · show ((s.images.set k _).getD i default).p0.s.length ≤ _
    rw [q0]; exact H.p0 j hj
  · show ((s.images.set k _).getD i default).p1.s.length ≤ _
    rw [q1]; exact H.p1 j hj
  · show ((s.images.set k _).getD i default).p2.s.length ≤ _
    rw [q2]; exact H.p2 j hj
  · show ((s.images.set k _).getD i default).p3.s.length ≤ _
    rw [q3]; exact H.p3 j hj
  · show ((s.images.set k _).getD i default).p4.s.length ≤ _
    rw [q4]; exact H.p4 j hj
theorem set_len {s : Script} {k : Nat} {m : Image} (hs : ScriptLen s) : ScriptLen { s with images := s.images.set k m } := ⟨hs.order, by show (s.images.set k m).length ≤ _; rw [List.length_set]; exact hs.images, hs.ops⟩
theorem reject_law (c : Scene) (hc : SceneOk c) (l : List Int) (hl : l.length ≤ 4611686018427387904) (o : Op) (p : Pixel) (which : Int) :
    Pure Sg 8 [ag (sceneE c), .c (.p (ints l)), ag (opE o), ag (pixE p), I which] (fun x => x = .b (B true)) := by
  have hg := gscript_spec c hc
  have hi := gImages_le c
  have hgood := (gScript_good c).len
  have hb := bias_own (gScript c) l (gScript_len c) hl (by omega) (by show (gImages c).length ≤ _; omega)
  have hs := len_bias c l
  have H := sml_bias c l
  have ho := bias_ops c l
  generalize hS : biasM (gScript c) l = s at *
  have him := H.im0
  have hiw : s.images.length ≤ 1000000000 := H.im
  have hm := modp_spec which (s.images.length : Int) (by omega) (by omega)
  have b1 := Int.emod_nonneg which (show (s.images.length : Int) ≠ 0 by omega)
  have b2 := Int.emod_lt_of_pos which (show 0 < (s.images.length : Int) by omega)
  obtain ⟨k, hk⟩ := Int.eq_ofNat_of_zero_le b1
  rw [hk] at hm
  have hkl : k < s.images.length := by omega
  have hsx : ∃ s1 : Script, s1 = { s with images := s.images.set k { imgM s k with color := p } } := ⟨_, rfl⟩
  obtain ⟨s1, hsx⟩ := hsx
  have hs1 : ScriptLen s1 := hsx ▸ set_len (k := k) hs
  have hrx := Redexes_sp s1 hs1
  have hrr := rRedexes_sp s1 hs1
  have ho1 : s1.ops = s.ops := by rw [hsx]
  have ht : ScriptLen (withOps s1 (s1.ops ++ [o])) := ⟨hs1.order, hs1.images, by show (s1.ops ++ [o]).length ≤ _; rw [List.length_append, ho1]; simp; omega⟩
  have Ht : Sml (withOps s1 (s1.ops ++ [o])) := by
    have := set_sml (p := p) (l := s1.ops ++ [o]) H hkl
    rw [hsx] at this ⊢; exact this
  have hap := Apply_all _ ht Ht (by show (s1.ops ++ [o]).length ≤ _; rw [List.length_append, ho1]; simp; omega) (1, 0)
  have hrp := rApply_all _ ht (1, 0)
  have haw := awake26_sp
  have hrb : ∀ S : Script, (redM S).length ≤ 10 * S.ops.length := fun S => by
    unfold redM
    split
    · exact rxTo_le S _
    · exact Nat.zero_le _
  have ho3 : s1.ops.length ≤ 1000 := by rw [ho1]; omega
  have hb1 := hrb s1
  have hb2 := hrb (withOps s1 (s1.ops ++ [o]))
  have hl2 : (withOps s1 (s1.ops ++ [o])).ops.length = s.ops.length + 1 := by show (s1.ops ++ [o]).length = _; rw [List.length_append, ho1]; rfl
  have hl3 : (withOps s1 (s1.ops ++ [o])).ops.length = s1.ops.length + 1 := by rw [hl2, ho1]
  rw [ho1] at hb1
  have hsm1 := same_sp (redM s1) (by omega)
  have hsm2 := same_sp (redM (withOps s1 (s1.ops ++ [o]))) (by omega)
  refine pure_of Tryz.func8 rfl (rs := [.tmp 10]) rfl rfl mixed (by decide +kernel) (Nat.le_of_ble_eq_true rfl) (argsLt_mem (by simp (maxSteps := 1000000) (disch := omega) only [go_sem])) ?_
  repeat' (first | with_reducible exact tr_a | refine un_a ?_ | ((with_reducible refine cw_stepV (id := 1) (fun K hW => ?_)); (try simp (maxSteps := 1000000) (disch := omega) only [go_sem]); (repeat' (refine And.intro ?_ ?_)); (all_goals first | (refine hK _ ?_; clear hK K) | exact auto_cl | skip)) | ((first | refine st_a (fun K hK => ?_) | refine rg_a ?_ | refine call_c (hg) ?_ | refine gcall_c (fun hg => hg) ?_ | refine call_k (hb) ?_); (repeat' (refine And.intro ?_ ?_)); (all_goals first | (refine hK _ ?_; clear hK K) | exact auto_cl | skip)) | ((first | apply cw_ite | apply cw_iteN); (case hf => rfl); (case hc => exact ev_a); (all_goals first | (intro hb; (try simp only [hbs] at hb)) | skip)) | exact atN_intro | (refine if_a (fun hb => ?_) (fun hb => ?_); (all_goals (try first | with_reducible exact True.intro | (exfalso; omega)))) | refine cw_blocks (fun KB hB => ?_) | (refine hB _ ?_; clear hB KB) | refine exit_by (S := Sg) (by assumption) ?_ | (refine ret_a ?_; (try clear hB KB); (try clear hK K)))
  refine hW _ (mkSt [(4, .b (I which)), (7, .b (.c (.ptr 1 0))), (8, .b (.c (.ptr 2 0))), (11, .b (.c (.ptr 4 0)))] [(1, .fix ((opE o).map CV.p)), (2, .fix ((pixE p).map CV.p)), (3, .arr 79 28 s.images.length (fnOf imageE s.images)),
    (4, .fix [.p (PI s.bits), .p (PI s.canvas.x0), .p (PI s.canvas.y0), .p (PI s.canvas.x1), .p (PI s.canvas.y1), .p (PI s.tileW), .p (PI s.tileH), .p (ints s.order), .own 3 s.images.length, .p (opL s.ops)])] 5) ?_ ?_
  · refine le_a [(1, some 1), (2, some 2), (3, some 3), (4, some 4)] ?_ ?_
    repeat' (refine And.intro ?_ ?_)
    all_goals first | exact le_cl | skip
  clear hW
  refine cw_stepR (id := 2) (.br 0 (.br 2 (.br 3 (.br 4 (.br 5 (.br 1 (.br 6 (.br 7 (.br 8 (.br 9 (.br 10 .leaf .nil) .nil) .nil) .nil) (.br 7 (.br 6 (.br 8 (.br 9 (.br 10 .leaf .nil) .nil) .nil) .nil) .nil)) (.br 6 (.br 1 (.br 7 (.br 8 (.br 9 (.br 10 .leaf .nil) .nil) .nil) .nil) .nil) (.br 7 (.br 1 (.br 6 (.br 8 (.br 9 (.br 10 .leaf .nil) .nil) .nil) .nil) (.br 6 (.br 1 (.br 8 (.br 9 (.br 10 .leaf .nil) .nil) .nil) .nil) .nil)) .nil))) .nil) .nil) .nil) .nil) .nil) (by decide +kernel) (by exact wf_a) (fun K0 hW => ?_)
  refine (fun (tl : ∀ st, Le st (mkSt [(7, .b (.c (.ptr 1 0))), (11, .b (.c (.ptr 4 0)))] [(1, .fix ((opE o).map CV.p)), (4, .fix ((scriptE s1).map CV.p))] 5) → K0 st) => ?_) (fun st hl => hW st _ hl ?_)
  · clear hW
    rw [hsx] at tl
    repeat' (first | exact tree_nil | (refine tree_br (fun K' hK' => ?_) ?_) | (refine tree_leaf (tl _ ?_); clear tl) | ((first | refine call_c (hm) ?_ | refine gcall_c (fun hg => hm) ?_); (try simp (maxSteps := 1000000) (disch := omega) only [go_sem]); (repeat' (refine And.intro ?_ ?_)); (all_goals first | (refine hK' _ ?_; clear hK' K') | trivial | omega | exact Nat.le_of_ble_eq_true rfl | exact auto_cl | skip)) | (simp (maxSteps := 1000000) (disch := omega) only [go_sem]; (repeat' (refine And.intro ?_ ?_)); (all_goals first | (refine hK' _ ?_; clear hK' K') | trivial | omega | exact Nat.le_of_ble_eq_true rfl | exact auto_cl | skip)))
    all_goals
      refine le_a [(1, some 1), (4, some 4)] ?_ ?_
      repeat' (refine And.intro ?_ ?_)
      all_goals first | exact le_cl | skip
      · exact List.length_set.symm
      · intro i hi j hj
        show PV.le _ (fnOf imageE (s.images.set k { imgM s k with color := p }) i j)
        rw [img_pt hkl]
        by_cases e : i = k
        · subst e
          rw [if_pos rfl, if_pos rfl]
          have hivl : j = 0 ∨ j = 1 ∨ j = 2 ∨ j = 3 ∨ j = 4 ∨ j = 5 ∨ j = 6 ∨ j = 7 ∨ j = 8 ∨ j = 9 ∨ j = 10 ∨ j = 11 ∨ j = 12 ∨ j = 13 ∨ j = 14 ∨ j = 15 ∨ j = 16 ∨ j = 17 ∨ j = 18 ∨ j = 19 ∨ j = 20 ∨ j = 21 ∨ j = 22 ∨ j = 23 ∨ j = 24 ∨ j = 25 ∨ j = 26 ∨ j = 27 := by omega
          rcases hivl with rfl | rfl | rfl | rfl | rfl | rfl | rfl | rfl | rfl | rfl | rfl | rfl | rfl | rfl | rfl | rfl | rfl | rfl | rfl | rfl | rfl | rfl | rfl | rfl | rfl | rfl | rfl | rfl <;> exact fun _ _ _ h => h
        · rw [if_neg e, if_neg e]
          exact fun _ _ _ h => h
  clear hW
  repeat' (first | with_reducible exact tr_a | refine un_a ?_ | ((with_reducible refine cw_stepV (id := 4) (fun K hW => ?_)); (try simp (maxSteps := 1000000) (disch := omega) only [go_sem]); (repeat' (refine And.intro ?_ ?_)); (all_goals first | (refine hK _ ?_; clear hK K) | exact auto_cl | skip)) | ((first | refine st_a (fun K hK => ?_) | refine rg_a ?_ | refine call_c (hrx) ?_ | refine gcall_c (fun hg => hrx) ?_ | refine call_c (hrr) ?_ | refine gcall_c (fun hg => hrr) ?_); (repeat' (refine And.intro ?_ ?_)); (all_goals first | (refine hK _ ?_; clear hK K) | exact auto_cl | skip)) | ((first | apply cw_ite | apply cw_iteN); (case hf => rfl); (case hc => exact ev_a); (all_goals first | (intro hb; (try simp only [hbs] at hb)) | skip)) | exact atN_intro | (refine if_a (fun hb => ?_) (fun hb => ?_); (all_goals (try first | with_reducible exact True.intro | (exfalso; omega)))) | refine cw_blocks (fun KB hB => ?_) | (refine hB _ ?_; clear hB KB) | refine exit_by (S := Sg) (by assumption) ?_ | (refine ret_a ?_; (try clear hB KB); (try clear hK K)))
  refine hW _ (mkSt [(7, .b (.c (.ptr 1 0))), (12, .b (.c (.p (.lst 2 (redM s1).length (fnOf rxE (redM s1)))))), (13, .b (.c (.p (.lst 2 (redM s1).length (fnOf rxE (redM s1)))))), (11, .b (.c (.ptr 4 0))), (14, .b (.c (.ptr 2 0)))] [(1, .fix ((opE o).map CV.p)), (2, .fix ((scriptE s1).map CV.p)), (4, .fix ((scriptE s1).map CV.p))] 5) ?_ ?_
  · refine le_a [(1, some 1), (2, some 5), (4, some 4)] ?_ ?_
    repeat' (refine And.intro ?_ ?_)
    all_goals first | exact le_cl | skip
  clear hW
  refine cw_stepR (id := 5) (.br 0 (.br 1 (.br 2 (.br 3 (.br 4 (.br 5 (.br 6 (.br 7 .leaf .nil) .nil) .nil) .nil) .nil) (.br 3 (.br 2 (.br 4 (.br 5 (.br 6 (.br 7 .leaf .nil) .nil) .nil) .nil) (.br 4 (.br 2 (.br 5 (.br 6 (.br 7 .leaf .nil) .nil) .nil) .nil) .nil)) .nil)) .nil) .nil) (by decide +kernel) (by exact wf_a) (fun K0 hW => ?_)
  refine (fun (tl : ∀ st, Le st (mkSt [(12, .b (.c (.p (.lst 2 (redM s1).length (fnOf rxE (redM s1)))))), (13, .b (.c (.p (.lst 2 (redM s1).length (fnOf rxE (redM s1)))))), (14, .b (.c (.ptr 2 0)))] [(2, .fix ((scriptE (withOps s1 (s1.ops ++ [o]))).map CV.p))] 5) → K0 st) => ?_) (fun st hl => hW st _ hl ?_)
  · clear hW
    repeat' (first | exact tree_nil | (refine tree_br (fun K' hK' => ?_) ?_) | (refine tree_leaf (tl _ ?_); clear tl) | (simp (maxSteps := 1000000) (disch := omega) only [go_sem]; (repeat' (refine And.intro ?_ ?_)); (all_goals first | (refine hK' _ ?_; clear hK' K') | trivial | omega | exact Nat.le_of_ble_eq_true rfl | exact auto_cl | skip)))
    all_goals
      refine le_a [(2, some 2)] ?_ ?_
      repeat' (refine And.intro ?_ ?_)
      all_goals first | exact le_cl | skip
    all_goals first
      | exact hl3.symm
      | (refine arr_push (enc := opE) (xs := s1.ops) (x := o) (fun j hj => ?_)
         have hivl : j = 0 ∨ j = 1 ∨ j = 2 ∨ j = 3 ∨ j = 4 ∨ j = 5 ∨ j = 6 ∨ j = 7 ∨ j = 8 ∨ j = 9 ∨ j = 10 ∨ j = 11 := by omega
         rcases hivl with rfl | rfl | rfl | rfl | rfl | rfl | rfl | rfl | rfl | rfl | rfl | rfl <;> rfl)
  clear hW
  repeat' (first | with_reducible exact tr_a | refine un_a ?_ | ((first | refine st_a (fun K hK => ?_) | refine rg_a ?_ | refine call_c (Redexes_sp _ ht) ?_ | refine gcall_c (fun hg => Redexes_sp _ ht) ?_ | refine call_c (rRedexes_sp _ ht) ?_ | refine gcall_c (fun hg => rRedexes_sp _ ht) ?_ | refine call_c (hap) ?_ | refine gcall_c (fun hg => hap) ?_ | refine call_c (hrp) ?_ | refine gcall_c (fun hg => hrp) ?_ | refine call_c (haw) ?_ | refine gcall_c (fun hg => haw) ?_ | refine call_c (hsm1) ?_ | refine gcall_c (fun hg => hsm1) ?_ | refine call_c (hsm2) ?_ | refine gcall_c (fun hg => hsm2) ?_); (repeat' (refine And.intro ?_ ?_)); (all_goals first | (refine hK _ ?_; clear hK K) | exact auto_cl | skip)) | ((first | apply cw_ite | apply cw_iteN); (case hf => rfl); (case hc => exact ev_a); (all_goals first | (intro hb; (try simp only [hbs] at hb)) | skip)) | exact atN_intro | (refine if_a (fun hb => ?_) (fun hb => ?_); (all_goals (try first | with_reducible exact True.intro | (exfalso; omega)))) | refine cw_blocks (fun KB hB => ?_) | (refine hB _ ?_; clear hB KB) | refine exit_by (S := Sg) (by assumption) ?_ | (refine ret_a ?_; (try clear hB KB); (try clear hK K)))
  rw [beq_self_eq_true]
theorem run_off {s : Script} (h : (opsM s).1 ≠ 0) : runM s = (s.ops, []) ∧ redM s = [] := by
  have hr : redM s = [] := by rw [redM, if_neg h]
  exact ⟨run_none (by rw [hr]; rfl), hr⟩
theorem g_sml (c : Scene) {l : List Op} {w : Int} : Sml { gScript c with ops := l, tileW := w } := by
  have hi := gImages_le c
  have e : ({ gScript c with ops := l, tileW := w } : Script).images = gImages c := rfl
  refine ⟨Nat.le_trans (gorder_len c) (by decide), by rw [e]; omega, by rw [e]; omega, fun i h => (plb_g c i h).p0, fun i h => (plb_g c i h).p1, fun i h => (plb_g c i h).p2, fun i h => (plb_g c i h).p3, fun i h => (plb_g c i h).p4⟩
theorem rejects_law (c : Scene) (hc : SceneOk c) (o : Op) (what : Int) :
    Pure Sg 10 [ag (sceneE c), ag (opE o), I what] (fun x => x = .b (B true)) := by
  have hg := gscript_own c hc
  have hi := gImages_le c
  have hgood := (gScript_good c).len
  have hs := gScript_len c
  have hm := mod_spec what 3 (by omega)
  have haw := awake27_sp
  generalize hS : gScript c = s at *
  refine pure_of Tryz.func10 rfl (rs := [.tmp 6]) rfl rfl mixed (by decide +kernel) (Nat.le_of_ble_eq_true rfl) (argsLt_mem (by simp (maxSteps := 1000000) (disch := omega) only [go_sem])) ?_
  repeat' (first | with_reducible exact tr_a | refine un_a ?_ | ((with_reducible refine cw_stepV (id := 1) (fun K hW => ?_)); (try simp (maxSteps := 1000000) (disch := omega) only [go_sem]); (repeat' (refine And.intro ?_ ?_)); (all_goals first | (refine hK _ ?_; clear hK K) | exact auto_cl | skip)) | ((first | refine st_a (fun K hK => ?_) | refine rg_a ?_ | refine call_k (hg) ?_); (repeat' (refine And.intro ?_ ?_)); (all_goals first | (refine hK _ ?_; clear hK K) | exact auto_cl | skip)) | ((first | apply cw_ite | apply cw_iteN); (case hf => rfl); (case hc => exact ev_a); (all_goals first | (intro hb; (try simp only [hbs] at hb)) | skip)) | exact atN_intro | (refine if_a (fun hb => ?_) (fun hb => ?_); (all_goals (try first | with_reducible exact True.intro | (exfalso; omega)))) | refine cw_blocks (fun KB hB => ?_) | (refine hB _ ?_; clear hB KB) | refine exit_by (S := Sg) (by assumption) ?_ | (refine ret_a ?_; (try clear hB KB); (try clear hK K)))
  refine hW _ (mkSt [(2, .b (I what)), (4, .b (.c (.ptr 1 0))), (7, .b (.c (.ptr 3 0)))] [(1, .fix ((opE o).map CV.p)), (2, .arr 73 12 s.ops.length (fnOf opE s.ops)),
    (3, .fix [.p (PI s.bits), .p (PI s.canvas.x0), .p (PI s.canvas.y0), .p (PI s.canvas.x1), .p (PI s.canvas.y1), .p (PI s.tileW), .p (PI s.tileH), .p (ints s.order), .p (imgL s.images), .own 2 s.ops.length])] 4) ?_ ?_
  · refine le_a [(1, some 1), (2, some 2), (3, some 3)] ?_ ?_
    repeat' (refine And.intro ?_ ?_)
    all_goals first | exact le_cl | skip
  clear hW
  refine cw_assoc ?_
  refine st_a fun K hK => ?_
  refine call_c hm ?_
  refine hK _ ?_
  clear hK K
  refine cw_blocksV fun KB hV => ?_
  have fin : ∀ S : Script, ScriptLen S → Sml S → S.ops.length ≤ 1000 → ∀ st, Le st (mkSt [(7, .b (.c (.ptr 3 0)))] [(3, .fix ((scriptE S).map CV.p))] 4) → KB st := by
    intro S h1 h2 h3 st hl
    refine hV _ _ hl ?_
    have q1 := Simplify_sp S h1 h2 (by omega)
    have q2 := rSteps_sp S h1 (by omega)
    have q3 := checkOps_spec S h1
    have q4 := Steps_sp S h1 h2 (by omega)
    have q5 := Normal_sp S h1
    have hlen : (runM S).1.length ≤ S.ops.length := runGo_len _ S
    have q6 := sameOps_spec (runM S).1 (runM S).1 (by omega) (by omega)
    have q7 := sameOps_spec (runM S).1 S.ops (by omega) (by omega)
    repeat' (first | with_reducible exact tr_a | refine un_a ?_ | ((first | refine st_a (fun K hK => ?_) | refine rg_a ?_ | refine call_c (q1) ?_ | refine gcall_c (fun hg => q1) ?_ | refine call_c (q2) ?_ | refine gcall_c (fun hg => q2) ?_ | refine call_c (q3) ?_ | refine gcall_c (fun hg => q3) ?_ | refine call_c (haw) ?_ | refine gcall_c (fun hg => haw) ?_ | refine call_c (q6) ?_ | refine gcall_c (fun hg => q6) ?_ | refine call_c (q4) ?_ | refine gcall_c (fun hg => q4) ?_ | refine call_c (q7) ?_ | refine gcall_c (fun hg => q7) ?_ | refine call_c (q5) ?_ | refine gcall_c (fun hg => q5) ?_); (repeat' (refine And.intro ?_ ?_)); (all_goals first | (refine hK _ ?_; clear hK K) | exact auto_cl | skip)) | ((first | apply cw_ite | apply cw_iteN); (case hf => rfl); (case hc => exact ev_a); (all_goals first | (intro hb; (try simp only [hbs] at hb)) | skip)) | exact atN_intro | (refine if_a (fun hb => ?_) (fun hb => ?_); (all_goals (try first | with_reducible exact True.intro | (exfalso; omega)))) | refine cw_blocks (fun KB hB => ?_) | (refine hB _ ?_; clear hB KB) | refine exit_by (S := Sg) (by assumption) ?_ | (refine ret_a ?_; (try clear hB KB); (try clear hK K)))
    have e : (withOps S (runM S).1).tileW = S.tileW := rfl
    rw [e, beq_self_eq_true, Bool.true_and]
    by_cases he : (opsM S).1 = 0
    · rw [he]; rfl
    · obtain ⟨r1, r2⟩ := run_off he
      rw [r1, r2]
      simp
  by_cases h0 : gMod what 3 = 0
  · have e0 : (gMod what 3 == 0) = true := beq_iff_eq.2 h0
    repeat' (first | with_reducible exact tr_a | refine dec_a e0 ?_ | refine un_a ?_ | ((first | refine st_a (fun K hK => ?_) | refine rg_a ?_); (repeat' (refine And.intro ?_ ?_)); (all_goals first | (refine hK _ ?_; clear hK K) | exact auto_cl | skip)) | ((first | apply cw_ite | apply cw_iteN); (case hf => rfl); (case hc => exact ev_a); (all_goals first | (intro hb; (try simp only [hbs] at hb)) | skip)) | exact atN_intro | (refine if_a (fun hb => ?_) (fun hb => ?_); (all_goals (try first | with_reducible exact True.intro | (exfalso; omega)))) | refine cw_blocks (fun KB hB => ?_) | (refine hB _ ?_; clear hB KB) | refine exit_by (S := Sg) (by assumption) ?_ | (refine ret_a ?_; (try clear hB KB); (try clear hK K)))
    rw [blockQ_normal, thenQ_normal]
    refine fin { s with ops := s.ops ++ [popOp] } ?_ ?_ ?_ _ ?_
    · exact ⟨hs.order, hs.images, by show _ ≤ _; simp only [List.length_append, List.length_cons, List.length_nil]; omega⟩
    · exact hS ▸ g_sml c
    · show _ ≤ _
      simp only [List.length_append, List.length_cons, List.length_nil]; omega
    refine le_a [(3, some 3)] ?_ ?_
    repeat' (refine And.intro ?_ ?_)
    all_goals first | exact le_cl | skip
    · show _ = (s.ops ++ [popOp]).length
      rw [List.length_append]; rfl
    · refine arr_push (enc := opE) (xs := s.ops) (x := popOp) (fun j hj => ?_)
      have hivl : j = 0 ∨ j = 1 ∨ j = 2 ∨ j = 3 ∨ j = 4 ∨ j = 5 ∨ j = 6 ∨ j = 7 ∨ j = 8 ∨ j = 9 ∨ j = 10 ∨ j = 11 := by omega
      rcases hivl with rfl | rfl | rfl | rfl | rfl | rfl | rfl | rfl | rfl | rfl | rfl | rfl <;> rfl
  have e0 : (gMod what 3 == 0) = false := beq_eq_false_iff_ne.2 h0
  by_cases h1 : gMod what 3 = 1
  · have e1 : (gMod what 3 == 1) = true := beq_iff_eq.2 h1
    repeat' (first | with_reducible exact tr_a | refine dec_a (And.intro e0 e1) ?_ | refine un_a ?_ | ((first | refine st_a (fun K hK => ?_) | refine rg_a ?_); (repeat' (refine And.intro ?_ ?_)); (all_goals first | (refine hK _ ?_; clear hK K) | exact auto_cl | skip)) | ((first | apply cw_ite | apply cw_iteN); (case hf => rfl); (case hc => exact ev_a); (all_goals first | (intro hb; (try simp only [hbs] at hb)) | skip)) | exact atN_intro | (refine if_a (fun hb => ?_) (fun hb => ?_); (all_goals (try first | with_reducible exact True.intro | (exfalso; omega)))) | refine cw_blocks (fun KB hB => ?_) | (refine hB _ ?_; clear hB KB) | refine exit_by (S := Sg) (by assumption) ?_ | (refine ret_a ?_; (try clear hB KB); (try clear hK K)))
    rw [blockQ_normal, thenQ_normal]
    refine fin { s with ops := s.ops ++ [o] } ?_ ?_ ?_ _ ?_
    · exact ⟨hs.order, hs.images, by show _ ≤ _; simp only [List.length_append, List.length_cons, List.length_nil]; omega⟩
    · exact hS ▸ g_sml c
    · show _ ≤ _
      simp only [List.length_append, List.length_cons, List.length_nil]; omega
    refine le_a [(3, some 3)] ?_ ?_
    repeat' (refine And.intro ?_ ?_)
    all_goals first | exact le_cl | skip
    · show _ = (s.ops ++ [o]).length
      rw [List.length_append]; rfl
    · refine arr_push (enc := opE) (xs := s.ops) (x := o) (fun j hj => ?_)
      have hivl : j = 0 ∨ j = 1 ∨ j = 2 ∨ j = 3 ∨ j = 4 ∨ j = 5 ∨ j = 6 ∨ j = 7 ∨ j = 8 ∨ j = 9 ∨ j = 10 ∨ j = 11 := by omega
      rcases hivl with rfl | rfl | rfl | rfl | rfl | rfl | rfl | rfl | rfl | rfl | rfl | rfl <;> rfl
  have e1 : (gMod what 3 == 1) = false := beq_eq_false_iff_ne.2 h1
  repeat' (first | with_reducible exact tr_a | refine dec_a (And.intro e0 e1) ?_ | refine un_a ?_ | ((first | refine st_a (fun K hK => ?_) | refine rg_a ?_); (repeat' (refine And.intro ?_ ?_)); (all_goals first | (refine hK _ ?_; clear hK K) | exact auto_cl | skip)) | ((first | apply cw_ite | apply cw_iteN); (case hf => rfl); (case hc => exact ev_a); (all_goals first | (intro hb; (try simp only [hbs] at hb)) | skip)) | exact atN_intro | (refine if_a (fun hb => ?_) (fun hb => ?_); (all_goals (try first | with_reducible exact True.intro | (exfalso; omega)))) | refine cw_blocks (fun KB hB => ?_) | (refine hB _ ?_; clear hB KB) | refine exit_by (S := Sg) (by assumption) ?_ | (refine ret_a ?_; (try clear hB KB); (try clear hK K)))
  rw [blockQ_normal, thenQ_normal]
  refine fin { s with tileW := 0 } ?_ ?_ ?_ _ ?_
  · exact ⟨hs.order, hs.images, hs.ops⟩
  · exact hS ▸ g_sml c
  · show s.ops.length ≤ 1000; omega
  refine le_a [(3, some 3)] ?_ ?_
  repeat' (refine And.intro ?_ ?_)
  all_goals first | exact le_cl | skip
  exact fun _ _ _ _ => PV.le_refl _
end Go.Proofs.YtbpplplnkgmhlaaGreatDoor
