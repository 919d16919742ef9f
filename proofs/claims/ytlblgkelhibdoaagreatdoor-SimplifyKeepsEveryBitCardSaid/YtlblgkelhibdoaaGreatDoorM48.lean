/- Part of the proof: E5, ER, T1, T3, T4, T7, T8, T9, TA, TB. -/
import Derived.Test.YtlblgkelhibdoaaGreatDoorM47
set_option linter.unusedSimpArgs false
set_option linter.unusedVariables false
set_option maxHeartbeats 2000000
set_option maxRecDepth 16000
namespace Go.Proofs.YtlblgkelhibdoaaGreatDoor
open Go Go.SL
open Go.RowKit (wrap64)
def fnV (f : Nat) : PV := .val (.func (.func f) #[] #[])
theorem tn1 (e : Nat) : ((e : Int) + 1).toNat = e + 1 := by omega
theorem tn2 (e : Nat) : ((e : Int) + 2).toNat = e + 2 := by omega
theorem tiF1 : Sg.ti 185 = some (1, false) := by kernel_rfl
theorem tiF2 : Sg.ti 177 = some (1, false) := by kernel_rfl
theorem tiF3 : Sg.ti 178 = some (1, false) := by kernel_rfl
attribute [local go_sem] tn1 tn2 Nat.sub_zero tiF1 tiF2 tiF3 fnV
attribute [local go_sem] Int.toNat_natCast vP vf0 vf1 vf2 vf3 vf4 vf5 vf6 vf7 vf8 vf9 vf10 vf11 vf12 vf13 vf14
def chgV (g : Nat) : PV := .fn 146 1 (fun _ => 1) (fun _ _ => fnV g)
theorem fn_le {g n : Nat} {sz sz' : Nat → Nat} {f f' : Nat → Nat → PV} (h : ∀ i, i < n → sz i = sz' i ∧ ∀ j, j < sz i → PV.le (f i j) (f' i j)) : PV.le (.fn g n sz f) (.fn g n sz' f') := fun _ _ u ⟨vs, e, hs, hb⟩ => by
 refine ⟨vs, e, hs, fun i hi => ?_⟩
 obtain ⟨b, o, h1, h2, h3⟩ := hb i hi
 obtain ⟨q1, q2⟩ := h i hi
 refine ⟨b, o, h1, h2, fun j hj => ?_⟩
 rw [← q1] at hj
 obtain ⟨x, x1, x2, x3⟩ := h3 j hj
 exact ⟨x, x1, x2, q2 j hj _ _ _ x3⟩
theorem changed_sp (g : Nat) : Pure Sg 100 [.c (.p (.val (.func (.func g) #[] #[])))] (fun x => x = .b (.c (.p (chgV g)))) := by
 refine pure_le ?_
 refine pure_ofO Tryz.func100 rfl (rs := [.tmp 2]) rfl rfl mixed (by decide +kernel) (Nat.le_of_ble_eq_true rfl) (argsLt_mem (by simp (maxSteps := 1000000) (disch := omega) only [go_sem])) ?_
 repeat' (first | (refine st_a (fun K hK => ?_); and_intros; (all_goals first | (refine hK _ ?_; clear hK K) | exact auto_cl | skip)) | (refine ret_a ?_; (try clear hB KB); (try clear hK K)))
 simp only [Option.isSome_some, if_true, CV.lt, true_and]
 refine sle_b (ble_c (fn_le fun i hi => ?_))
 have h0 : i = 0 := by omega
 subst h0
 refine ⟨rfl, fun j hj => ?_⟩
 have h0 : j = 0 := by have : j < 1 := hj; omega
 subst h0
 exact fun _ _ _ h => h
def tblL : List (List PV) := [[.val .nilFunc, .val .nilFunc], [fnV 94, fnV 95], [fnV 96, fnV 95],
 [fnV 97, fnV 95], [fnV 98, fnV 95], [fnV 99, chgV 101],
 [fnV 102, chgV 103], [fnV 104, chgV 105], [fnV 106, chgV 107],
 [fnV 108, fnV 109]]
def tblF (i j : Nat) : PV := (tblL.getD i []).getD j .any
theorem table_sp : Pure Sg 50 [] (fun x => x = .b (.c (.p (.lst 2 10 tblF)))) := by
 have h1 := changed_sp 101
 have h2 := changed_sp 103
 have h3 := changed_sp 105
 have h4 := changed_sp 107
 refine pure_le ?_
 refine fn_a Tryz.func50 [.tmp 0] ?_
 repeat' (first | ((first | refine st_a (fun K hK => ?_) | refine call_c (h1) ?_ | refine call_c (h2) ?_ | refine call_c (h3) ?_ | refine call_c (h4) ?_); and_intros; (all_goals first | (refine hK _ ?_; clear hK K) | exact auto_cl | skip)) | (refine ret_a ?_; (try clear hB KB); (try clear hK K)))
 refine sle_b (ble_c (lst_leE (sz := 2) (n := 10) fun a ha j hj => ?_))
 have hj2 : j = 0 ∨ j = 1 := by omega
 rcases hj2 with rfl | rfl
 ·skip
  have hivl : a = 0 ∨ a = 1 ∨ a = 2 ∨ a = 3 ∨ a = 4 ∨ a = 5 ∨ a = 6 ∨ a = 7 ∨ a = 8 ∨ a = 9 := by omega
  rcases hivl with rfl | rfl | rfl | rfl | rfl | rfl | rfl | rfl | rfl | rfl <;> exact fun _ _ _ h => h
 ·skip
  have hivl : a = 0 ∨ a = 1 ∨ a = 2 ∨ a = 3 ∨ a = 4 ∨ a = 5 ∨ a = 6 ∨ a = 7 ∨ a = 8 ∨ a = 9 := by omega
  rcases hivl with rfl | rfl | rfl | rfl | rfl | rfl | rfl | rfl | rfl | rfl <;> exact fun _ _ _ h => h
theorem set_le {l : List Op} {i : Nat} {o : Op} {F : Nat → Nat → PV} (hi : i < l.length) (h1 : ∀ j, j < 12 → F i j = (opE o).getD j .any) (h2 : ∀ a, a ≠ i → ∀ j, F a j = fnOf opE l a j) : PV.le (.lst 12 l.length F) (opL (l.set i o)) := by
 show PV.le _ (PV.lst 12 (l.set i o).length (fnOf opE (l.set i o)))
 rw [List.length_set]
 refine lst_le fun a ha j hj => ?_
 show _ = (opE ((l.set i o).getD a default)).getD j .any
 have e : (l.set i o).getD a default = opAt (l.set i o) a := rfl
 rw [e, opAt_set]
 by_cases h : a = i
 ·rw [if_pos ⟨h.symm, ha⟩, h]; exact h1 j hj
 ·rw [if_neg (fun q => h q.1.symm)]; exact h2 a h j
theorem bxIns2 (id : Nat) (x y : Bx) (b : Nat → Option Bx) : bxIns id x (bxIns id y b) = bxIns id x b := by
 funext i
 simp only [bxIns]
 split <;> rfl
theorem tab1_inl (bx : Nat → Option Bx) (nx id n i : Nat) (f : Nat → Nat → PV) (o : Op) (hb : bx id = some (.arr 89 12 n f)) (hi : i < n) (hid : id < nx) (hf : ∀ j, j < 12 → f i j = (opE o).getD j .any) :
  ∃ F : Nat → Nat → PV, ((∀ j, j < 12 → F i j = (opE (chgOp 5 o)).getD j .any) ∧ ∀ a, a ≠ i → ∀ j, F a j = f a j) ∧ InlP Sg bx nx 101 [.c (.pel id 12 i 0)] (.tup []) (bxIns id (.arr 89 12 n F) bx) nx := by
 refine ⟨?F, ⟨?h1, ?h2⟩, ?hI⟩
 case hI =>
  refine inl_of Tryz.func101 rfl (rs := []) rfl rfl mixed (by decide +kernel) (Nat.le_of_ble_eq_true rfl) ?_ (fun kf => ?_)
  ·intro v hv
   simp only [List.mem_cons, List.not_mem_nil, or_false] at hv
   rcases hv with rfl
   exact hid
  refine cw_last fun K hK => ?_
  simp (maxSteps := 1000000) (disch := omega) only [go_sem, hb]
  and_intros
  all_goals first | exact hi | skip
  refine hK _ ?_
  clear hK
  simp (maxSteps := 1000000) (disch := omega) only [go_sem]
  simp only [bxf_set, bxf_setBox, bxf_newBox, bxf_delBox, nx_set, nx_newBox, nx_setBox, nx_delBox, bx_stI, nx_stI, bxIns2]
  rfl
 case h1 =>
  intro j hj
  show (if i = i then _ else _) = _
  rw [if_pos rfl]
  have hivl : j = 0 ∨ j = 1 ∨ j = 2 ∨ j = 3 ∨ j = 4 ∨ j = 5 ∨ j = 6 ∨ j = 7 ∨ j = 8 ∨ j = 9 ∨ j = 10 ∨ j = 11 := by omega
  rcases hivl with rfl | rfl | rfl | rfl | rfl | rfl | rfl | rfl | rfl | rfl | rfl | rfl <;> first | rfl | exact hf 0 (by decide) | exact hf 1 (by decide) | exact hf 2 (by decide) | exact hf 3 (by decide) | exact hf 4 (by decide) | exact hf 5 (by decide) | exact hf 6 (by decide) | exact hf 7 (by decide) | exact hf 8 (by decide) | exact hf 9 (by decide) | exact hf 10 (by decide) | exact hf 11 (by decide)
 case h2 =>
  intro a ha j
  simp only [if_neg ha]
theorem call_tab1 {st : St} {K : SV → St → Prop} (id n i : Nat) (f : Nat → Nat → PV) (o : Op) (hb : st.bx id = some (.arr 89 12 n f)) (hi : i < n) (hid : id < st.nx) (hf : ∀ j, j < 12 → f i j = (opE o).getD j .any) (hw : WfN 0 st)
  (hK : ∀ F : Nat → Nat → PV, (∀ j, j < 12 → F i j = (opE (chgOp 5 o)).getD j .any) → (∀ a, a ≠ i → ∀ j, F a j = f a j) → K (.tup []) (st.turn (bxIns id (.arr 89 12 n F) st.bx) st.nx)) :
  CallS Sg st 101 [.c (.pel id 12 i 0)] (Sl.of K) := by
 obtain ⟨F, ⟨h1, h2⟩, hI⟩ := tab1_inl st.bx st.nx id n i f o hb hi hid hf
 refine call_inl hI rfl (fun j hj => ?_) (Nat.le_refl _) (hK F h1 h2)
 simp only [bxIns]
 rw [if_neg (by omega)]
 exact hw.1 j hj
theorem chg1_sp (s : Script) (V : VOps s) (i : Nat) (hi : i < s.ops.length) :
  Pure Sg 146 [vP s, I i, .c (.ipt 1 (fun _ => fnV 101) 0)] (fun x => x = .b (.c (.p (opL (s.ops.set i (chgOp 5 (opAt s.ops i))))))) := by
 have hn := V.cnt
 have hc := cloneOps_own s.ops.length (fnOf opE s.ops) (by omega) (fun a ha j hj => by
  have hivl : j = 0 ∨ j = 1 ∨ j = 2 ∨ j = 3 ∨ j = 4 ∨ j = 5 ∨ j = 6 ∨ j = 7 ∨ j = 8 ∨ j = 9 ∨ j = 10 ∨ j = 11 := by omega
  rcases hivl with rfl | rfl | rfl | rfl | rfl | rfl | rfl | rfl | rfl | rfl | rfl | rfl <;> exact ⟨_, rfl⟩)
 refine pure_le ?_
 refine fn_a Tryz.func146 [.tmp 5] ?_
 repeat' (first | ((with_reducible refine cw_stepV (id := 1) (fun K hW => ?_)); (try simp (maxSteps := 1000000) (disch := omega) only [go_sem]); and_intros; (all_goals first | (refine hK _ ?_; clear hK K) | exact auto_cl | skip)) | ((first | refine st_a (fun K hK => ?_) | refine call_o (hc) ?_); and_intros; (all_goals first | (refine hK _ ?_; clear hK K) | exact auto_cl | skip)))
 refine hW _ (mkSt [(0, .b (vP s)), (1, .b (I i)), (2, .b (.c (.ipt 1 (fun _ => fnV 101) 0))), (6, .b (.c (.own 1 s.ops.length)))] [(1, .arr 89 12 s.ops.length (fnOf opE s.ops))] 2) ?_ ?_
 ·refine le_a [(1, some 0)] ?_ ?_
  and_intros
  all_goals first | exact le_cl | skip
 clear hW
 refine cw_stepD (by decide +kernel) (by decide +kernel) (fun K hK => ?_)
 simp (maxSteps := 1000000) (disch := omega) only [go_sem]
 refine ⟨⟨by omega, by omega⟩, ?_⟩
 refine call_tab1 1 s.ops.length i (fnOf opE s.ops) (opAt s.ops i) (by simp (maxSteps := 1000000) (disch := omega) only [go_sem]) hi (by simp (maxSteps := 1000000) (disch := omega) only [go_sem]) (fun j hj => rfl) ?_ ?_
 ·(first | (refine And.intro (fun iw hiw => ?_) ?_; (focus ((try simp (maxSteps := 1000000) (disch := omega) only [go_sem] at hiw ⊢); (repeat (refine Eq.trans (if_neg ?_) ?_; (focus omega))); exact hw iw (by omega))); (focus (first | exact Nat.zero_le _ | (simp (maxSteps := 1000000) (disch := omega) only [go_sem]; done) | (simp (maxSteps := 1000000) (disch := omega) only [go_sem]; omega)))) | exact wf_a)
 intro F hF1 hF2
 refine hK _ ?_
 clear hK
 repeat' (first | (refine st_a (fun K hK => ?_); and_intros; (all_goals first | (refine hK _ ?_; clear hK K) | exact auto_cl | skip)) | (refine ret_a ?_; (try clear hB KB); (try clear hK K)))
 refine sle_b (ble_c ?_)
 exact set_le hi hF1 hF2
theorem tab2_inl (bx : Nat → Option Bx) (nx id n i : Nat) (f : Nat → Nat → PV) (o : Op) (hb : bx id = some (.arr 89 12 n f)) (hi : i < n) (hid : id < nx) (hf : ∀ j, j < 12 → f i j = (opE o).getD j .any) :
  ∃ F : Nat → Nat → PV, ((∀ j, j < 12 → F i j = (opE (chgOp 6 o)).getD j .any) ∧ ∀ a, a ≠ i → ∀ j, F a j = f a j) ∧ InlP Sg bx nx 103 [.c (.pel id 12 i 0)] (.tup []) (bxIns id (.arr 89 12 n F) bx) nx := by
 refine ⟨?F, ⟨?h1, ?h2⟩, ?hI⟩
 case hI =>
  refine inl_of Tryz.func103 rfl (rs := []) rfl rfl mixed (by decide +kernel) (Nat.le_of_ble_eq_true rfl) ?_ (fun kf => ?_)
  ·intro v hv
   simp only [List.mem_cons, List.not_mem_nil, or_false] at hv
   rcases hv with rfl
   exact hid
  refine cw_last fun K hK => ?_
  simp (maxSteps := 1000000) (disch := omega) only [go_sem, hb]
  and_intros
  all_goals first | exact hi | skip
  refine hK _ ?_
  clear hK
  simp (maxSteps := 1000000) (disch := omega) only [go_sem]
  simp only [bxf_set, bxf_setBox, bxf_newBox, bxf_delBox, nx_set, nx_newBox, nx_setBox, nx_delBox, bx_stI, nx_stI, bxIns2]
  rfl
 case h1 =>
  intro j hj
  show (if i = i then _ else _) = _
  rw [if_pos rfl]
  have hivl : j = 0 ∨ j = 1 ∨ j = 2 ∨ j = 3 ∨ j = 4 ∨ j = 5 ∨ j = 6 ∨ j = 7 ∨ j = 8 ∨ j = 9 ∨ j = 10 ∨ j = 11 := by omega
  rcases hivl with rfl | rfl | rfl | rfl | rfl | rfl | rfl | rfl | rfl | rfl | rfl | rfl <;> first | rfl | exact hf 0 (by decide) | exact hf 1 (by decide) | exact hf 2 (by decide) | exact hf 3 (by decide) | exact hf 4 (by decide) | exact hf 5 (by decide) | exact hf 6 (by decide) | exact hf 7 (by decide) | exact hf 8 (by decide) | exact hf 9 (by decide) | exact hf 10 (by decide) | exact hf 11 (by decide)
 case h2 =>
  intro a ha j
  simp only [if_neg ha]
theorem call_tab2 {st : St} {K : SV → St → Prop} (id n i : Nat) (f : Nat → Nat → PV) (o : Op) (hb : st.bx id = some (.arr 89 12 n f)) (hi : i < n) (hid : id < st.nx) (hf : ∀ j, j < 12 → f i j = (opE o).getD j .any) (hw : WfN 0 st)
  (hK : ∀ F : Nat → Nat → PV, (∀ j, j < 12 → F i j = (opE (chgOp 6 o)).getD j .any) → (∀ a, a ≠ i → ∀ j, F a j = f a j) → K (.tup []) (st.turn (bxIns id (.arr 89 12 n F) st.bx) st.nx)) :
  CallS Sg st 103 [.c (.pel id 12 i 0)] (Sl.of K) := by
 obtain ⟨F, ⟨h1, h2⟩, hI⟩ := tab2_inl st.bx st.nx id n i f o hb hi hid hf
 refine call_inl hI rfl (fun j hj => ?_) (Nat.le_refl _) (hK F h1 h2)
 simp only [bxIns]
 rw [if_neg (by omega)]
 exact hw.1 j hj
theorem chg2_sp (s : Script) (V : VOps s) (i : Nat) (hi : i < s.ops.length) :
  Pure Sg 146 [vP s, I i, .c (.ipt 1 (fun _ => fnV 103) 0)] (fun x => x = .b (.c (.p (opL (s.ops.set i (chgOp 6 (opAt s.ops i))))))) := by
 have hn := V.cnt
 have hc := cloneOps_own s.ops.length (fnOf opE s.ops) (by omega) (fun a ha j hj => by
  have hivl : j = 0 ∨ j = 1 ∨ j = 2 ∨ j = 3 ∨ j = 4 ∨ j = 5 ∨ j = 6 ∨ j = 7 ∨ j = 8 ∨ j = 9 ∨ j = 10 ∨ j = 11 := by omega
  rcases hivl with rfl | rfl | rfl | rfl | rfl | rfl | rfl | rfl | rfl | rfl | rfl | rfl <;> exact ⟨_, rfl⟩)
 refine pure_le ?_
 refine fn_a Tryz.func146 [.tmp 5] ?_
 repeat' (first | ((with_reducible refine cw_stepV (id := 1) (fun K hW => ?_)); (try simp (maxSteps := 1000000) (disch := omega) only [go_sem]); and_intros; (all_goals first | (refine hK _ ?_; clear hK K) | exact auto_cl | skip)) | ((first | refine st_a (fun K hK => ?_) | refine call_o (hc) ?_); and_intros; (all_goals first | (refine hK _ ?_; clear hK K) | exact auto_cl | skip)))
 refine hW _ (mkSt [(0, .b (vP s)), (1, .b (I i)), (2, .b (.c (.ipt 1 (fun _ => fnV 103) 0))), (6, .b (.c (.own 1 s.ops.length)))] [(1, .arr 89 12 s.ops.length (fnOf opE s.ops))] 2) ?_ ?_
 ·refine le_a [(1, some 0)] ?_ ?_
  and_intros
  all_goals first | exact le_cl | skip
 clear hW
 refine cw_stepD (by decide +kernel) (by decide +kernel) (fun K hK => ?_)
 simp (maxSteps := 1000000) (disch := omega) only [go_sem]
 refine ⟨⟨by omega, by omega⟩, ?_⟩
 refine call_tab2 1 s.ops.length i (fnOf opE s.ops) (opAt s.ops i) (by simp (maxSteps := 1000000) (disch := omega) only [go_sem]) hi (by simp (maxSteps := 1000000) (disch := omega) only [go_sem]) (fun j hj => rfl) ?_ ?_
 ·(first | (refine And.intro (fun iw hiw => ?_) ?_; (focus ((try simp (maxSteps := 1000000) (disch := omega) only [go_sem] at hiw ⊢); (repeat (refine Eq.trans (if_neg ?_) ?_; (focus omega))); exact hw iw (by omega))); (focus (first | exact Nat.zero_le _ | (simp (maxSteps := 1000000) (disch := omega) only [go_sem]; done) | (simp (maxSteps := 1000000) (disch := omega) only [go_sem]; omega)))) | exact wf_a)
 intro F hF1 hF2
 refine hK _ ?_
 clear hK
 repeat' (first | (refine st_a (fun K hK => ?_); and_intros; (all_goals first | (refine hK _ ?_; clear hK K) | exact auto_cl | skip)) | (refine ret_a ?_; (try clear hB KB); (try clear hK K)))
 refine sle_b (ble_c ?_)
 exact set_le hi hF1 hF2
theorem tab3_inl (bx : Nat → Option Bx) (nx id n i : Nat) (f : Nat → Nat → PV) (o : Op) (hb : bx id = some (.arr 89 12 n f)) (hi : i < n) (hid : id < nx) (hf : ∀ j, j < 12 → f i j = (opE o).getD j .any) :
  ∃ F : Nat → Nat → PV, ((∀ j, j < 12 → F i j = (opE (chgOp 7 o)).getD j .any) ∧ ∀ a, a ≠ i → ∀ j, F a j = f a j) ∧ InlP Sg bx nx 105 [.c (.pel id 12 i 0)] (.tup []) (bxIns id (.arr 89 12 n F) bx) nx := by
 refine ⟨?F, ⟨?h1, ?h2⟩, ?hI⟩
 case hI =>
  refine inl_of Tryz.func105 rfl (rs := []) rfl rfl mixed (by decide +kernel) (Nat.le_of_ble_eq_true rfl) ?_ (fun kf => ?_)
  ·intro v hv
   simp only [List.mem_cons, List.not_mem_nil, or_false] at hv
   rcases hv with rfl
   exact hid
  refine cw_last fun K hK => ?_
  simp (maxSteps := 1000000) (disch := omega) only [go_sem, hb]
  and_intros
  all_goals first | exact hi | skip
  refine hK _ ?_
  clear hK
  simp (maxSteps := 1000000) (disch := omega) only [go_sem]
  simp only [bxf_set, bxf_setBox, bxf_newBox, bxf_delBox, nx_set, nx_newBox, nx_setBox, nx_delBox, bx_stI, nx_stI, bxIns2]
  rfl
 case h1 =>
  intro j hj
  show (if i = i then _ else _) = _
  rw [if_pos rfl]
  have hivl : j = 0 ∨ j = 1 ∨ j = 2 ∨ j = 3 ∨ j = 4 ∨ j = 5 ∨ j = 6 ∨ j = 7 ∨ j = 8 ∨ j = 9 ∨ j = 10 ∨ j = 11 := by omega
  rcases hivl with rfl | rfl | rfl | rfl | rfl | rfl | rfl | rfl | rfl | rfl | rfl | rfl <;> first | rfl | exact hf 0 (by decide) | exact hf 1 (by decide) | exact hf 2 (by decide) | exact hf 3 (by decide) | exact hf 4 (by decide) | exact hf 5 (by decide) | exact hf 6 (by decide) | exact hf 7 (by decide) | exact hf 8 (by decide) | exact hf 9 (by decide) | exact hf 10 (by decide) | exact hf 11 (by decide)
 case h2 =>
  intro a ha j
  simp only [if_neg ha]
theorem call_tab3 {st : St} {K : SV → St → Prop} (id n i : Nat) (f : Nat → Nat → PV) (o : Op) (hb : st.bx id = some (.arr 89 12 n f)) (hi : i < n) (hid : id < st.nx) (hf : ∀ j, j < 12 → f i j = (opE o).getD j .any) (hw : WfN 0 st)
  (hK : ∀ F : Nat → Nat → PV, (∀ j, j < 12 → F i j = (opE (chgOp 7 o)).getD j .any) → (∀ a, a ≠ i → ∀ j, F a j = f a j) → K (.tup []) (st.turn (bxIns id (.arr 89 12 n F) st.bx) st.nx)) :
  CallS Sg st 105 [.c (.pel id 12 i 0)] (Sl.of K) := by
 obtain ⟨F, ⟨h1, h2⟩, hI⟩ := tab3_inl st.bx st.nx id n i f o hb hi hid hf
 refine call_inl hI rfl (fun j hj => ?_) (Nat.le_refl _) (hK F h1 h2)
 simp only [bxIns]
 rw [if_neg (by omega)]
 exact hw.1 j hj
theorem chg3_sp (s : Script) (V : VOps s) (i : Nat) (hi : i < s.ops.length) :
  Pure Sg 146 [vP s, I i, .c (.ipt 1 (fun _ => fnV 105) 0)] (fun x => x = .b (.c (.p (opL (s.ops.set i (chgOp 7 (opAt s.ops i))))))) := by
 have hn := V.cnt
 have hc := cloneOps_own s.ops.length (fnOf opE s.ops) (by omega) (fun a ha j hj => by
  have hivl : j = 0 ∨ j = 1 ∨ j = 2 ∨ j = 3 ∨ j = 4 ∨ j = 5 ∨ j = 6 ∨ j = 7 ∨ j = 8 ∨ j = 9 ∨ j = 10 ∨ j = 11 := by omega
  rcases hivl with rfl | rfl | rfl | rfl | rfl | rfl | rfl | rfl | rfl | rfl | rfl | rfl <;> exact ⟨_, rfl⟩)
 refine pure_le ?_
 refine fn_a Tryz.func146 [.tmp 5] ?_
 repeat' (first | ((with_reducible refine cw_stepV (id := 1) (fun K hW => ?_)); (try simp (maxSteps := 1000000) (disch := omega) only [go_sem]); and_intros; (all_goals first | (refine hK _ ?_; clear hK K) | exact auto_cl | skip)) | ((first | refine st_a (fun K hK => ?_) | refine call_o (hc) ?_); and_intros; (all_goals first | (refine hK _ ?_; clear hK K) | exact auto_cl | skip)))
 refine hW _ (mkSt [(0, .b (vP s)), (1, .b (I i)), (2, .b (.c (.ipt 1 (fun _ => fnV 105) 0))), (6, .b (.c (.own 1 s.ops.length)))] [(1, .arr 89 12 s.ops.length (fnOf opE s.ops))] 2) ?_ ?_
 ·refine le_a [(1, some 0)] ?_ ?_
  and_intros
  all_goals first | exact le_cl | skip
 clear hW
 refine cw_stepD (by decide +kernel) (by decide +kernel) (fun K hK => ?_)
 simp (maxSteps := 1000000) (disch := omega) only [go_sem]
 refine ⟨⟨by omega, by omega⟩, ?_⟩
 refine call_tab3 1 s.ops.length i (fnOf opE s.ops) (opAt s.ops i) (by simp (maxSteps := 1000000) (disch := omega) only [go_sem]) hi (by simp (maxSteps := 1000000) (disch := omega) only [go_sem]) (fun j hj => rfl) ?_ ?_
 ·(first | (refine And.intro (fun iw hiw => ?_) ?_; (focus ((try simp (maxSteps := 1000000) (disch := omega) only [go_sem] at hiw ⊢); (repeat (refine Eq.trans (if_neg ?_) ?_; (focus omega))); exact hw iw (by omega))); (focus (first | exact Nat.zero_le _ | (simp (maxSteps := 1000000) (disch := omega) only [go_sem]; done) | (simp (maxSteps := 1000000) (disch := omega) only [go_sem]; omega)))) | exact wf_a)
 intro F hF1 hF2
 refine hK _ ?_
 clear hK
 repeat' (first | (refine st_a (fun K hK => ?_); and_intros; (all_goals first | (refine hK _ ?_; clear hK K) | exact auto_cl | skip)) | (refine ret_a ?_; (try clear hB KB); (try clear hK K)))
 refine sle_b (ble_c ?_)
 exact set_le hi hF1 hF2
theorem tab4_inl (bx : Nat → Option Bx) (nx id n i : Nat) (f : Nat → Nat → PV) (o : Op) (hb : bx id = some (.arr 89 12 n f)) (hi : i < n) (hid : id < nx) (hf : ∀ j, j < 12 → f i j = (opE o).getD j .any) :
  ∃ F : Nat → Nat → PV, ((∀ j, j < 12 → F i j = (opE (chgOp 8 o)).getD j .any) ∧ ∀ a, a ≠ i → ∀ j, F a j = f a j) ∧ InlP Sg bx nx 107 [.c (.pel id 12 i 0)] (.tup []) (bxIns id (.arr 89 12 n F) bx) nx := by
 refine ⟨?F, ⟨?h1, ?h2⟩, ?hI⟩
 case hI =>
  refine inl_of Tryz.func107 rfl (rs := []) rfl rfl mixed (by decide +kernel) (Nat.le_of_ble_eq_true rfl) ?_ (fun kf => ?_)
  ·intro v hv
   simp only [List.mem_cons, List.not_mem_nil, or_false] at hv
   rcases hv with rfl
   exact hid
  refine cw_last fun K hK => ?_
  simp (maxSteps := 1000000) (disch := omega) only [go_sem, hb]
  and_intros
  all_goals first | exact hi | skip
  refine hK _ ?_
  clear hK
  simp (maxSteps := 1000000) (disch := omega) only [go_sem]
  simp only [bxf_set, bxf_setBox, bxf_newBox, bxf_delBox, nx_set, nx_newBox, nx_setBox, nx_delBox, bx_stI, nx_stI, bxIns2]
  rfl
 case h1 =>
  intro j hj
  show (if i = i then _ else _) = _
  rw [if_pos rfl]
  have hivl : j = 0 ∨ j = 1 ∨ j = 2 ∨ j = 3 ∨ j = 4 ∨ j = 5 ∨ j = 6 ∨ j = 7 ∨ j = 8 ∨ j = 9 ∨ j = 10 ∨ j = 11 := by omega
  rcases hivl with rfl | rfl | rfl | rfl | rfl | rfl | rfl | rfl | rfl | rfl | rfl | rfl <;> first | rfl | exact hf 0 (by decide) | exact hf 1 (by decide) | exact hf 2 (by decide) | exact hf 3 (by decide) | exact hf 4 (by decide) | exact hf 5 (by decide) | exact hf 6 (by decide) | exact hf 7 (by decide) | exact hf 8 (by decide) | exact hf 9 (by decide) | exact hf 10 (by decide) | exact hf 11 (by decide)
 case h2 =>
  intro a ha j
  simp only [if_neg ha]
theorem call_tab4 {st : St} {K : SV → St → Prop} (id n i : Nat) (f : Nat → Nat → PV) (o : Op) (hb : st.bx id = some (.arr 89 12 n f)) (hi : i < n) (hid : id < st.nx) (hf : ∀ j, j < 12 → f i j = (opE o).getD j .any) (hw : WfN 0 st)
  (hK : ∀ F : Nat → Nat → PV, (∀ j, j < 12 → F i j = (opE (chgOp 8 o)).getD j .any) → (∀ a, a ≠ i → ∀ j, F a j = f a j) → K (.tup []) (st.turn (bxIns id (.arr 89 12 n F) st.bx) st.nx)) :
  CallS Sg st 107 [.c (.pel id 12 i 0)] (Sl.of K) := by
 obtain ⟨F, ⟨h1, h2⟩, hI⟩ := tab4_inl st.bx st.nx id n i f o hb hi hid hf
 refine call_inl hI rfl (fun j hj => ?_) (Nat.le_refl _) (hK F h1 h2)
 simp only [bxIns]
 rw [if_neg (by omega)]
 exact hw.1 j hj
theorem chg4_sp (s : Script) (V : VOps s) (i : Nat) (hi : i < s.ops.length) :
  Pure Sg 146 [vP s, I i, .c (.ipt 1 (fun _ => fnV 107) 0)] (fun x => x = .b (.c (.p (opL (s.ops.set i (chgOp 8 (opAt s.ops i))))))) := by
 have hn := V.cnt
 have hc := cloneOps_own s.ops.length (fnOf opE s.ops) (by omega) (fun a ha j hj => by
  have hivl : j = 0 ∨ j = 1 ∨ j = 2 ∨ j = 3 ∨ j = 4 ∨ j = 5 ∨ j = 6 ∨ j = 7 ∨ j = 8 ∨ j = 9 ∨ j = 10 ∨ j = 11 := by omega
  rcases hivl with rfl | rfl | rfl | rfl | rfl | rfl | rfl | rfl | rfl | rfl | rfl | rfl <;> exact ⟨_, rfl⟩)
 refine pure_le ?_
 refine fn_a Tryz.func146 [.tmp 5] ?_
 repeat' (first | ((with_reducible refine cw_stepV (id := 1) (fun K hW => ?_)); (try simp (maxSteps := 1000000) (disch := omega) only [go_sem]); and_intros; (all_goals first | (refine hK _ ?_; clear hK K) | exact auto_cl | skip)) | ((first | refine st_a (fun K hK => ?_) | refine call_o (hc) ?_); and_intros; (all_goals first | (refine hK _ ?_; clear hK K) | exact auto_cl | skip)))
 refine hW _ (mkSt [(0, .b (vP s)), (1, .b (I i)), (2, .b (.c (.ipt 1 (fun _ => fnV 107) 0))), (6, .b (.c (.own 1 s.ops.length)))] [(1, .arr 89 12 s.ops.length (fnOf opE s.ops))] 2) ?_ ?_
 ·refine le_a [(1, some 0)] ?_ ?_
  and_intros
  all_goals first | exact le_cl | skip
 clear hW
 refine cw_stepD (by decide +kernel) (by decide +kernel) (fun K hK => ?_)
 simp (maxSteps := 1000000) (disch := omega) only [go_sem]
 refine ⟨⟨by omega, by omega⟩, ?_⟩
 refine call_tab4 1 s.ops.length i (fnOf opE s.ops) (opAt s.ops i) (by simp (maxSteps := 1000000) (disch := omega) only [go_sem]) hi (by simp (maxSteps := 1000000) (disch := omega) only [go_sem]) (fun j hj => rfl) ?_ ?_
 ·(first | (refine And.intro (fun iw hiw => ?_) ?_; (focus ((try simp (maxSteps := 1000000) (disch := omega) only [go_sem] at hiw ⊢); (repeat (refine Eq.trans (if_neg ?_) ?_; (focus omega))); exact hw iw (by omega))); (focus (first | exact Nat.zero_le _ | (simp (maxSteps := 1000000) (disch := omega) only [go_sem]; done) | (simp (maxSteps := 1000000) (disch := omega) only [go_sem]; omega)))) | exact wf_a)
 intro F hF1 hF2
 refine hK _ ?_
 clear hK
 repeat' (first | (refine st_a (fun K hK => ?_); and_intros; (all_goals first | (refine hK _ ?_; clear hK K) | exact auto_cl | skip)) | (refine ret_a ?_; (try clear hB KB); (try clear hK K)))
 refine sle_b (ble_c ?_)
 exact set_le hi hF1 hF2
theorem removed_sp (s : Script) (V : VOps s) (i : Nat) (hi : i < s.ops.length) : Pure Sg 95 [vP s, I i] (fun x => x = .b (.c (.p (opL (cutOps s i))))) := by
 have hn := V.cnt
 have W := V.wf
 have hel := ends_lt W hi
 have hge := ends_ge W hi
 have hc := cloneOps_own i (fun a j => fnOf opE s.ops (0 + a) j) (by omega) (fun a ha j hj => by
  have hivl : j = 0 ∨ j = 1 ∨ j = 2 ∨ j = 3 ∨ j = 4 ∨ j = 5 ∨ j = 6 ∨ j = 7 ∨ j = 8 ∨ j = 9 ∨ j = 10 ∨ j = 11 := by omega
  rcases hivl with rfl | rfl | rfl | rfl | rfl | rfl | rfl | rfl | rfl | rfl | rfl | rfl <;> exact ⟨_, rfl⟩)
 refine pure_le ?_
 refine fn_a Tryz.func95 [.tmp 4] ?_
 repeat' ((with_reducible refine cw_stepV (id := 0) (fun K hW => ?_)); (try simp (maxSteps := 1000000) (disch := omega) only [go_sem]); and_intros; (all_goals first | (refine hK _ ?_; clear hK K) | exact auto_cl | skip))
 refine hW _ (mkSt [(0, .b (vP s)), (1, .b (I i))] [] 1) ?_ ?_
 ·refine le_a [] ?_ ?_
  and_intros
  all_goals first | exact le_cl | skip
 clear hW
 refine cw_stepR (id := 1) (.br 0 (.br 1 (.br 2 (.br 3 (.br 4 (.br 5 (.br 6 (.br 8 (.br 9 (.br 10 (.br 11 (.br 13 (.br 14 (.br 15 (.br 17 (.br 7 (.br 12 (.br 16 (.br 18 (.br 19 (.br 20 (.br 21 (.br 22 (.br 23 .leaf .nil) .nil) .nil) .nil) .nil) .nil) .nil) .nil) (.br 12 (.br 7 (.br 16 (.br 18 (.br 19 (.br 20 (.br 21 (.br 22 (.br 23 .leaf .nil) .nil) .nil) .nil) .nil) .nil) .nil) (.br 16 (.br 18 (.br 7 (.br 19 (.br 20 (.br 21 (.br 22 (.br 23 .leaf .nil) .nil) .nil) .nil) .nil) (.br 19 (.br 20 (.br 21 (.br 7 (.br 22 (.br 23 .leaf .nil) .nil) .nil) .nil) .nil) .nil)) .nil) .nil)) (.br 16 (.br 18 (.br 7 (.br 12 (.br 19 (.br 20 (.br 21 (.br 22 (.br 23 .leaf .nil) .nil) .nil) .nil) .nil) .nil) (.br 12 (.br 7 (.br 19 (.br 20 (.br 21 (.br 22 (.br 23 .leaf .nil) .nil) .nil) .nil) .nil) (.br 19 (.br 20 (.br 21 (.br 7 (.br 22 (.br 23 .leaf .nil) .nil) .nil) .nil) .nil) .nil)) (.br 19 (.br 20 (.br 7 (.br 12 (.br 21 (.br 22 (.br 23 .leaf .nil) .nil) .nil) .nil) (.br 12 (.br 21 (.br 7 (.br 22 (.br 23 .leaf .nil) .nil) .nil) .nil) .nil)) .nil) .nil))) .nil) .nil))) .nil) .nil) .nil) .nil) .nil) .nil) .nil) .nil) .nil) .nil) .nil) .nil) .nil) .nil) .nil) (by decide +kernel) (by (first | (refine And.intro (fun iw hiw => ?_) ?_; (focus ((try simp (maxSteps := 1000000) (disch := omega) only [go_sem] at hiw ⊢); (repeat (refine Eq.trans (if_neg ?_) ?_; (focus omega))); exact hw iw (by omega))); (focus (first | exact Nat.zero_le _ | (simp (maxSteps := 1000000) (disch := omega) only [go_sem]; done) | (simp (maxSteps := 1000000) (disch := omega) only [go_sem]; omega)))) | exact wf_a)) (fun K0 hW => ?_)
 refine (fun (tl : ∀ st, Le st (mkSt [(4, .b (.c (.own 1 (i + (s.ops.length - (endsM s.ops i + 1))))))] [(1, .arr 89 12 (i + (s.ops.length - (endsM s.ops i + 1))) (appF i (fun a j => fnOf opE s.ops (0 + a) j) (fun a j => fnOf opE s.ops (endsM s.ops i + 1 + a) j)))] 2) → K0 st) => ?_) (fun st hl => hW st _ hl ?_)
 ·clear hW
  repeat' (first | exact tree_nil | (refine tree_br (fun K' hK' => ?_) ?_) | (refine tree_leaf (tl _ ?_); clear tl) | (refine call_o (hc) ?_; (try simp (maxSteps := 1000000) (disch := omega) only [go_sem]); and_intros; (all_goals first | (refine hK' _ ?_; clear hK' K') | trivial | omega | exact Nat.le_of_ble_eq_true rfl | exact auto_cl | skip)) | (simp (maxSteps := 1000000) (disch := omega) only [go_sem]; and_intros; (all_goals first | (refine hK' _ ?_; clear hK' K') | trivial | omega | exact Nat.le_of_ble_eq_true rfl | exact auto_cl | skip)))
  all_goals
   refine le_a [(1, some 2)] ?_ ?_
   and_intros
   all_goals first | exact le_cl | skip
 clear hW
 repeat' (refine ret_a ?_; (try clear hB KB); (try clear hK K))
 refine sle_b (ble_c ?_)
 have hl : (cutOps s i).length = i + (s.ops.length - (endsM s.ops i + 1)) := by
  rw [cutOps, List.length_append, List.length_take, List.length_drop]; omega
 show PV.le _ (PV.lst 12 (cutOps s i).length (fnOf opE (cutOps s i)))
 rw [hl]
 refine lst_le fun a ha j hj => ?_
 have hg : (cutOps s i).getD a default = if a < i then s.ops.getD (0 + a) default else s.ops.getD (endsM s.ops i + 1 + (a - i)) default := by
  rw [cutOps, List.getD_eq_getElem?_getD, List.getElem?_append, List.length_take, Nat.min_eq_left (Nat.le_of_lt hi)]
  split
  ·rename_i h; rw [List.getElem?_take_of_lt h, Nat.zero_add, List.getD_eq_getElem?_getD]
  ·rw [List.getElem?_drop, List.getD_eq_getElem?_getD]
 show _ = (opE ((cutOps s i).getD a default)).getD j .any
 rw [hg]
 unfold appF
 split <;> rfl
theorem app_pt {n m : Nat} {f g : Nat → Nat → PV} {a b : List Op} (hn : a.length = n) (hf : ∀ x, x < n → ∀ j, j < 12 → f x j = fnOf opE a x j) (hg : ∀ x, x < m → ∀ j, j < 12 → g x j = fnOf opE b x j) (x : Nat) (hx : x < n + m) (j : Nat) (hj : j < 12) :
  appF n f g x j = fnOf opE (a ++ b) x j := by
 unfold appF
 by_cases h : x < n
 ·rw [if_pos h, hf x h j hj]
  exact congrArg (fun o => (opE o).getD j .any) (show a.getD x default = (a ++ b).getD x default by rw [List.getD_eq_getElem?_getD, List.getD_eq_getElem?_getD, List.getElem?_append_left (by omega)])
 ·rw [if_neg h, hg (x - n) (by omega) j hj]
  exact congrArg (fun o => (opE o).getD j .any) (show b.getD (x - n) default = (a ++ b).getD x default by rw [List.getD_eq_getElem?_getD, List.getD_eq_getElem?_getD, List.getElem?_append_right (by omega), hn])
theorem opL_pt {n : Nat} {f : Nat → Nat → PV} {l : List Op} (hn : n = l.length) (h : ∀ x, x < n → ∀ j, j < 12 → f x j = fnOf opE l x j) : PV.le (.lst 12 n f) (opL l) := by
 subst hn
 exact lst_le h
theorem take_pt {l : List Op} {i x j : Nat} (h : x < i) : fnOf opE l (0 + x) j = fnOf opE (l.take i) x j := by
 exact congrArg (fun o => (opE o).getD j .any) (show l.getD (0 + x) default = (l.take i).getD x default by rw [List.getD_eq_getElem?_getD, List.getD_eq_getElem?_getD, List.getElem?_take_of_lt h, Nat.zero_add])
theorem drop_pt {l : List Op} {k x j : Nat} : fnOf opE l (k + x) j = fnOf opE (l.drop k) x j := by
 exact congrArg (fun o => (opE o).getD j .any) (show l.getD (k + x) default = (l.drop k).getD x default by rw [List.getD_eq_getElem?_getD, List.getD_eq_getElem?_getD, List.getElem?_drop])
theorem one_pt {o : Op} {x j : Nat} (h : x < 1) : (opE o).getD j .any = fnOf opE [o] x j := by
 have : x = 0 := by omega
 subst this; rfl
theorem app1_le {i : Nat} {f g g' : Nat → Nat → PV} (h : ∀ j, j < 12 → g 0 j = g' 0 j) : ∀ a, a < i + 1 → ∀ j, j < 12 → PV.le (appF i f g a j) (appF i f g' a j) := fun a ha j hj => by
 unfold appF
 by_cases hi : a < i
 ·rw [if_pos hi, if_pos hi]; exact fun _ _ _ h => h
 ·rw [if_neg hi, if_neg hi, show a - i = 0 by omega, h j hj]; exact fun _ _ _ h => h
theorem unw_fin {s : Script} {i : Nat} (W : Wf s.ops) (hi : i < s.ops.length) (hge : i + 2 ≤ endsM s.ops i) (hel : endsM s.ops i < s.ops.length) :
  PV.le (.lst 12 (i + 1 + (endsM s.ops i - (i + 2)) + (s.ops.length - (endsM s.ops i + 1)))
   (appF (i + 1 + (endsM s.ops i - (i + 2))) (appF (i + 1) (appF i (fun a j => fnOf opE s.ops (0 + a) j) (fun _ j => (opE (unwOp s i)).getD j .any)) (fun a j => fnOf opE s.ops (i + 2 + a) j)) (fun a j => fnOf opE s.ops (endsM s.ops i + 1 + a) j))) (opL (unwOps s i)) := by
 have l1 : (s.ops.take i).length = i := by rw [List.length_take]; omega
 have l2 : (s.ops.take i ++ [unwOp s i]).length = i + 1 := by rw [List.length_append, l1]; rfl
 have l3 : (s.ops.take i ++ [unwOp s i] ++ (s.ops.take (endsM s.ops i)).drop (i + 2)).length = i + 1 + (endsM s.ops i - (i + 2)) := by rw [List.length_append, l2, List.length_drop, List.length_take]; omega
 refine opL_pt ?_ ?_
 ·rw [unwOps, List.length_append, l3, List.length_drop]
 ·refine app_pt l3 (app_pt l2 (app_pt l1 (fun x hx j hj => take_pt hx) (fun x hx j hj => one_pt hx)) (fun x hx j hj => ?_)) (fun x hx j hj => drop_pt)
  exact congrArg (fun o => (opE o).getD j .any) (show s.ops.getD (i + 2 + x) default = ((s.ops.take (endsM s.ops i)).drop (i + 2)).getD x default by
   rw [List.getD_eq_getElem?_getD, List.getD_eq_getElem?_getD, List.getElem?_drop, List.getElem?_take_of_lt (by omega)])
theorem unwrapped_sp (s : Script) (V : VOps s) (i : Nat) (hi : i < s.ops.length) (hk : (opAt s.ops i).kind = 2) (h1 : 1 ≤ kidsM s.ops i) : Pure Sg 109 [vP s, I i] (fun x => x = .b (.c (.p (opL (unwOps s i))))) := by
 have hn := V.cnt
 have W := V.wf
 have hel := ends_lt W hi
 obtain ⟨hge, hk3⟩ := kid_next W hi hk h1
 have hc := cloneOps_own i (fun a j => fnOf opE s.ops (0 + a) j) (by omega) (fun a ha j hj => by
  have hivl : j = 0 ∨ j = 1 ∨ j = 2 ∨ j = 3 ∨ j = 4 ∨ j = 5 ∨ j = 6 ∨ j = 7 ∨ j = 8 ∨ j = 9 ∨ j = 10 ∨ j = 11 := by omega
  rcases hivl with rfl | rfl | rfl | rfl | rfl | rfl | rfl | rfl | rfl | rfl | rfl | rfl <;> exact ⟨_, rfl⟩)
 have hu := unscaled_sp s (opAt s.ops (i + 1))
 refine pure_le ?_
 refine fn_a Tryz.func109 [.tmp 4] ?_
 repeat' ((with_reducible refine cw_stepV (id := 0) (fun K hW => ?_)); (try simp (maxSteps := 1000000) (disch := omega) only [go_sem]); and_intros; (all_goals first | (refine hK _ ?_; clear hK K) | exact auto_cl | skip))
 refine hW _ (mkSt [(0, .b (vP s)), (1, .b (I i))] [] 1) ?_ ?_
 ·refine le_a [] ?_ ?_
  and_intros
  all_goals first | exact le_cl | skip
 clear hW
 refine cw_stepR (id := 1) (.br 0 (.br 1 (.br 2 (.br 3 (.br 4 (.br 5 (.br 6 (.br 7 (.br 8 (.br 9 (.br 10 (.br 11 (.br 13 (.br 14 (.br 12 (.br 15 (.br 16 (.br 17 (.br 18 (.br 19 (.br 20 .leaf .nil) .nil) .nil) (.br 18 (.br 17 (.br 19 (.br 20 .leaf .nil) .nil) .nil) .nil)) (.br 17 (.br 16 (.br 18 (.br 19 (.br 20 .leaf .nil) .nil) .nil) (.br 18 (.br 16 (.br 19 (.br 20 .leaf .nil) .nil) (.br 19 (.br 16 (.br 20 .leaf .nil) .nil) .nil)) .nil)) (.br 18 (.br 16 (.br 17 (.br 19 (.br 20 .leaf .nil) .nil) .nil) (.br 17 (.br 16 (.br 19 (.br 20 .leaf .nil) .nil) (.br 19 (.br 16 (.br 20 .leaf .nil) .nil) .nil)) .nil)) .nil))) .nil) (.br 17 (.br 12 (.br 15 (.br 16 (.br 18 (.br 19 (.br 20 .leaf .nil) .nil) .nil) (.br 18 (.br 16 (.br 19 (.br 20 .leaf .nil) .nil) (.br 19 (.br 16 (.br 20 .leaf .nil) .nil) .nil)) .nil)) .nil) (.br 18 (.br 12 (.br 15 (.br 16 (.br 19 (.br 20 .leaf .nil) .nil) (.br 19 (.br 16 (.br 20 .leaf .nil) .nil) .nil)) .nil) (.br 19 (.br 12 (.br 15 (.br 16 (.br 20 .leaf .nil) .nil) .nil) .nil) .nil)) .nil)) (.br 18 (.br 12 (.br 15 (.br 16 (.br 17 (.br 19 (.br 20 .leaf .nil) .nil) .nil) (.br 17 (.br 16 (.br 19 (.br 20 .leaf .nil) .nil) (.br 19 (.br 16 (.br 20 .leaf .nil) .nil) .nil)) .nil)) .nil) (.br 17 (.br 12 (.br 15 (.br 16 (.br 19 (.br 20 .leaf .nil) .nil) (.br 19 (.br 16 (.br 20 .leaf .nil) .nil) .nil)) .nil) (.br 19 (.br 12 (.br 15 (.br 16 (.br 20 .leaf .nil) .nil) .nil) .nil) .nil)) .nil)) .nil))) .nil) .nil) .nil) .nil) .nil) .nil) .nil) .nil) .nil) .nil) .nil) .nil) .nil) .nil) (by decide +kernel) (by (first | (refine And.intro (fun iw hiw => ?_) ?_; (focus ((try simp (maxSteps := 1000000) (disch := omega) only [go_sem] at hiw ⊢); (repeat (refine Eq.trans (if_neg ?_) ?_; (focus omega))); exact hw iw (by omega))); (focus (first | exact Nat.zero_le _ | (simp (maxSteps := 1000000) (disch := omega) only [go_sem]; done) | (simp (maxSteps := 1000000) (disch := omega) only [go_sem]; omega)))) | exact wf_a)) (fun K0 hW => ?_)
 refine (fun (tl : ∀ st, Le st (mkSt [(0, .b (vP s)), (1, .b (I i)), (5, .b (.c (.ptr 1 0))), (6, .b (.c (.ptr 2 0)))] [(1, .fix ((opE (opAt s.ops i)).map CV.p)), (2, .fix ((opE (opAt s.ops (i + 1))).map CV.p))] 3) → K0 st) => ?_) (fun st hl => hW st _ hl ?_)
 ·clear hW
  repeat' (first | exact tree_nil | (refine tree_br (fun K' hK' => ?_) ?_) | (refine tree_leaf (tl _ ?_); clear tl) | (simp (maxSteps := 1000000) (disch := omega) only [go_sem]; and_intros; (all_goals first | (refine hK' _ ?_; clear hK' K') | trivial | omega | exact Nat.le_of_ble_eq_true rfl | exact auto_cl | skip)))
  all_goals first | (refine le_of [(1, some 1), (2, some 2)] rfl (by decide) rfl ?_ ?_; (all_goals (simp (maxSteps := 1000000) (disch := omega) only [go_sem])); and_intros; (all_goals first | rfl | omega | exact .inl rfl | trivial | skip); done) | (refine le_of [(1, some 2), (2, some 1)] rfl (by decide) rfl ?_ ?_; (all_goals (simp (maxSteps := 1000000) (disch := omega) only [go_sem])); and_intros; (all_goals first | rfl | omega | exact .inl rfl | trivial | skip); done)
 clear hW
 unfold opAt at hu
 rcases Bool.eq_false_or_eq_true (unscM s (s.ops.getD (i + 1) default)) with hu1 | hu1 <;> by_cases hk2 : (opAt s.ops (i + 1)).kind = 2
 ·have hun : ∃ o, o = unwOp s i ∧ o = { opAt s.ops (i + 1) with mask := (opAt s.ops i).mask, maskX := (opAt s.ops i).maskX, maskY := (opAt s.ops i).maskY, opacity := (opAt s.ops i).opacity, operator := (opAt s.ops i).operator, mode := (opAt s.ops i).mode, isolated := true } := by
   refine ⟨_, rfl, ?_⟩
   unfold unwOp unw1
   rw [if_pos (show unscM s (opAt s.ops (i + 1)) = true from hu1)]
   exact if_pos hk2
  obtain ⟨o, ho, hun⟩ := hun
  have hk4 : ((opAt s.ops (i + 1)).kind == 2) = true := beq_iff_eq.2 hk2
  have hk3 : ((s.ops.getD (i + 1) default).kind == 2) = true := hk4
  repeat' (first | refine dec_a (And.intro hu1 (And.intro hk3 hk4)) ?_ | (((with_reducible refine cw_stepDK (id := 3) [(28, 5), (30, 5), (32, 5), (34, 5), (36, 6), (37, 6), (38, 6), (39, 6)] (by decide +kernel) (by decide +kernel) ?_ (fun K hK => ?_)); (first | (refine And.intro (fun iw hiw => ?_) ?_; (focus ((try simp (maxSteps := 1000000) (disch := omega) only [go_sem] at hiw ⊢); (repeat (refine Eq.trans (if_neg ?_) ?_; (focus omega))); exact hw iw (by omega))); (focus (first | exact Nat.zero_le _ | (simp (maxSteps := 1000000) (disch := omega) only [go_sem]; done) | (simp (maxSteps := 1000000) (disch := omega) only [go_sem]; omega)))) | exact wf_a)); (try simp (maxSteps := 1000000) (disch := omega) only [go_sem]); and_intros; (all_goals first | (refine hK _ (by simp (maxSteps := 1000000) (disch := omega) only [go_sem]) ?_; clear hK K) | exact auto_cl | skip)) | (((with_reducible refine cw_stepDK (id := 4) [(40, 5), (42, 5), (44, 6), (45, 6)] (by decide +kernel) (by decide +kernel) ?_ (fun K hK => ?_)); (first | (refine And.intro (fun iw hiw => ?_) ?_; (focus ((try simp (maxSteps := 1000000) (disch := omega) only [go_sem] at hiw ⊢); (repeat (refine Eq.trans (if_neg ?_) ?_; (focus omega))); exact hw iw (by omega))); (focus (first | exact Nat.zero_le _ | (simp (maxSteps := 1000000) (disch := omega) only [go_sem]; done) | (simp (maxSteps := 1000000) (disch := omega) only [go_sem]; omega)))) | exact wf_a)); (try simp (maxSteps := 1000000) (disch := omega) only [go_sem]); and_intros; (all_goals first | (refine hK _ (by simp (maxSteps := 1000000) (disch := omega) only [go_sem]) ?_; clear hK K) | exact auto_cl | skip)) | refine un_a ?_ | ((first | refine st_a (fun K hK => ?_) | refine call_c (hu) ?_); and_intros; (all_goals first | (refine hK _ ?_; clear hK K) | exact auto_cl | skip)))
  refine cw_stepR (id := 7) (.br 0 (.br 1 (.br 2 (.br 3 (.br 4 (.br 5 (.br 6 (.br 7 (.br 8 (.br 9 (.br 10 (.br 11 .leaf .nil) .nil) .nil) .nil) (.br 8 (.br 7 (.br 9 (.br 10 (.br 11 .leaf .nil) .nil) .nil) (.br 9 (.br 7 (.br 10 (.br 11 .leaf .nil) .nil) .nil) .nil)) .nil)) .nil) .nil) .nil) .nil) .nil) .nil) .nil) (by decide +kernel) (by (first | (refine And.intro (fun iw hiw => ?_) ?_; (focus ((try simp (maxSteps := 1000000) (disch := omega) only [go_sem] at hiw ⊢); (repeat (refine Eq.trans (if_neg ?_) ?_; (focus omega))); exact hw iw (by omega))); (focus (first | exact Nat.zero_le _ | (simp (maxSteps := 1000000) (disch := omega) only [go_sem]; done) | (simp (maxSteps := 1000000) (disch := omega) only [go_sem]; omega)))) | exact wf_a)) (fun K0 hW => ?_)
  refine (fun (tl : ∀ st, Le st (mkSt [(0, .b (vP s)), (1, .b (I i)), (7, .b (.c (.own 1 (i + 1))))] [(1, .arr 89 12 (i + 1) (appF i (fun a j => fnOf opE s.ops (0 + a) j) (fun _ j => (opE (unwOp s i)).getD j .any)))] 2) → K0 st) => ?_) (fun st hl => hW st _ hl ?_)
  ·clear hW
   repeat' (first | exact tree_nil | (refine tree_br (fun K' hK' => ?_) ?_) | (refine tree_leaf (tl _ ?_); clear tl) | (refine call_o (hc) ?_; (try simp (maxSteps := 1000000) (disch := omega) only [go_sem]); and_intros; (all_goals first | (refine hK' _ ?_; clear hK' K') | trivial | omega | exact Nat.le_of_ble_eq_true rfl | exact auto_cl | skip)) | (simp (maxSteps := 1000000) (disch := omega) only [go_sem]; and_intros; (all_goals first | (refine hK' _ ?_; clear hK' K') | trivial | omega | exact Nat.le_of_ble_eq_true rfl | exact auto_cl | skip)))
   all_goals
    rw [← ho, hun]
    refine le_a [(1, some 5)] ?_ ?_
    and_intros
    all_goals first | exact le_cl | skip
   all_goals
    refine .inr (app1_le fun j hj => ?_)
    have hivl : j = 0 ∨ j = 1 ∨ j = 2 ∨ j = 3 ∨ j = 4 ∨ j = 5 ∨ j = 6 ∨ j = 7 ∨ j = 8 ∨ j = 9 ∨ j = 10 ∨ j = 11 := by omega
    rcases hivl with rfl | rfl | rfl | rfl | rfl | rfl | rfl | rfl | rfl | rfl | rfl | rfl <;> rfl
  clear hW
  repeat' (first | (refine st_a (fun K hK => ?_); and_intros; (all_goals first | (refine hK _ ?_; clear hK K) | exact auto_cl | skip)) | (refine ret_a ?_; (try clear hB KB); (try clear hK K)))
  exact sle_b (ble_c (unw_fin W hi hge hel))
 ·have hun : ∃ o, o = unwOp s i ∧ o = { opAt s.ops (i + 1) with mask := (opAt s.ops i).mask, maskX := (opAt s.ops i).maskX, maskY := (opAt s.ops i).maskY, opacity := (opAt s.ops i).opacity, operator := (opAt s.ops i).operator, mode := (opAt s.ops i).mode } := by
   refine ⟨_, rfl, ?_⟩
   unfold unwOp unw1
   rw [if_pos (show unscM s (opAt s.ops (i + 1)) = true from hu1)]
   exact if_neg hk2
  obtain ⟨o, ho, hun⟩ := hun
  have hk4 : ((opAt s.ops (i + 1)).kind == 2) = false := beq_eq_false_iff_ne.2 hk2
  have hk3 : ((s.ops.getD (i + 1) default).kind == 2) = false := hk4
  repeat' (first | refine dec_a (And.intro hu1 (And.intro hk3 hk4)) ?_ | (((with_reducible refine cw_stepDK (id := 3) [(28, 5), (30, 5), (32, 5), (34, 5), (36, 6), (37, 6), (38, 6), (39, 6)] (by decide +kernel) (by decide +kernel) ?_ (fun K hK => ?_)); (first | (refine And.intro (fun iw hiw => ?_) ?_; (focus ((try simp (maxSteps := 1000000) (disch := omega) only [go_sem] at hiw ⊢); (repeat (refine Eq.trans (if_neg ?_) ?_; (focus omega))); exact hw iw (by omega))); (focus (first | exact Nat.zero_le _ | (simp (maxSteps := 1000000) (disch := omega) only [go_sem]; done) | (simp (maxSteps := 1000000) (disch := omega) only [go_sem]; omega)))) | exact wf_a)); (try simp (maxSteps := 1000000) (disch := omega) only [go_sem]); and_intros; (all_goals first | (refine hK _ (by simp (maxSteps := 1000000) (disch := omega) only [go_sem]) ?_; clear hK K) | exact auto_cl | skip)) | (((with_reducible refine cw_stepDK (id := 4) [(40, 5), (42, 5), (44, 6), (45, 6)] (by decide +kernel) (by decide +kernel) ?_ (fun K hK => ?_)); (first | (refine And.intro (fun iw hiw => ?_) ?_; (focus ((try simp (maxSteps := 1000000) (disch := omega) only [go_sem] at hiw ⊢); (repeat (refine Eq.trans (if_neg ?_) ?_; (focus omega))); exact hw iw (by omega))); (focus (first | exact Nat.zero_le _ | (simp (maxSteps := 1000000) (disch := omega) only [go_sem]; done) | (simp (maxSteps := 1000000) (disch := omega) only [go_sem]; omega)))) | exact wf_a)); (try simp (maxSteps := 1000000) (disch := omega) only [go_sem]); and_intros; (all_goals first | (refine hK _ (by simp (maxSteps := 1000000) (disch := omega) only [go_sem]) ?_; clear hK K) | exact auto_cl | skip)) | refine un_a ?_ | ((first | refine st_a (fun K hK => ?_) | refine call_c (hu) ?_); and_intros; (all_goals first | (refine hK _ ?_; clear hK K) | exact auto_cl | skip)))
  refine cw_stepR (id := 7) (.br 0 (.br 1 (.br 2 (.br 3 (.br 4 (.br 5 (.br 6 (.br 7 (.br 8 (.br 9 (.br 10 (.br 11 .leaf .nil) .nil) .nil) .nil) (.br 8 (.br 7 (.br 9 (.br 10 (.br 11 .leaf .nil) .nil) .nil) (.br 9 (.br 7 (.br 10 (.br 11 .leaf .nil) .nil) .nil) .nil)) .nil)) .nil) .nil) .nil) .nil) .nil) .nil) .nil) (by decide +kernel) (by (first | (refine And.intro (fun iw hiw => ?_) ?_; (focus ((try simp (maxSteps := 1000000) (disch := omega) only [go_sem] at hiw ⊢); (repeat (refine Eq.trans (if_neg ?_) ?_; (focus omega))); exact hw iw (by omega))); (focus (first | exact Nat.zero_le _ | (simp (maxSteps := 1000000) (disch := omega) only [go_sem]; done) | (simp (maxSteps := 1000000) (disch := omega) only [go_sem]; omega)))) | exact wf_a)) (fun K0 hW => ?_)
  refine (fun (tl : ∀ st, Le st (mkSt [(0, .b (vP s)), (1, .b (I i)), (7, .b (.c (.own 1 (i + 1))))] [(1, .arr 89 12 (i + 1) (appF i (fun a j => fnOf opE s.ops (0 + a) j) (fun _ j => (opE (unwOp s i)).getD j .any)))] 2) → K0 st) => ?_) (fun st hl => hW st _ hl ?_)
  ·clear hW
   repeat' (first | exact tree_nil | (refine tree_br (fun K' hK' => ?_) ?_) | (refine tree_leaf (tl _ ?_); clear tl) | (refine call_o (hc) ?_; (try simp (maxSteps := 1000000) (disch := omega) only [go_sem]); and_intros; (all_goals first | (refine hK' _ ?_; clear hK' K') | trivial | omega | exact Nat.le_of_ble_eq_true rfl | exact auto_cl | skip)) | (simp (maxSteps := 1000000) (disch := omega) only [go_sem]; and_intros; (all_goals first | (refine hK' _ ?_; clear hK' K') | trivial | omega | exact Nat.le_of_ble_eq_true rfl | exact auto_cl | skip)))
   all_goals
    rw [← ho, hun]
    refine le_a [(1, some 5)] ?_ ?_
    and_intros
    all_goals first | exact le_cl | skip
   all_goals
    refine .inr (app1_le fun j hj => ?_)
    have hivl : j = 0 ∨ j = 1 ∨ j = 2 ∨ j = 3 ∨ j = 4 ∨ j = 5 ∨ j = 6 ∨ j = 7 ∨ j = 8 ∨ j = 9 ∨ j = 10 ∨ j = 11 := by omega
    rcases hivl with rfl | rfl | rfl | rfl | rfl | rfl | rfl | rfl | rfl | rfl | rfl | rfl <;> rfl
  clear hW
  repeat' (first | (refine st_a (fun K hK => ?_); and_intros; (all_goals first | (refine hK _ ?_; clear hK K) | exact auto_cl | skip)) | (refine ret_a ?_; (try clear hB KB); (try clear hK K)))
  exact sle_b (ble_c (unw_fin W hi hge hel))
 ·have hun : ∃ o, o = unwOp s i ∧ o = { opAt s.ops (i + 1) with operator := (opAt s.ops i).operator, mode := (opAt s.ops i).mode, isolated := true } := by
   refine ⟨_, rfl, ?_⟩
   unfold unwOp unw1
   rw [if_neg (show ¬ unscM s (opAt s.ops (i + 1)) = true by unfold opAt; rw [hu1]; decide)]
   exact if_pos hk2
  obtain ⟨o, ho, hun⟩ := hun
  have hk4 : ((opAt s.ops (i + 1)).kind == 2) = true := beq_iff_eq.2 hk2
  have hk3 : ((s.ops.getD (i + 1) default).kind == 2) = true := hk4
  repeat' (first | refine dec_a (And.intro hu1 (And.intro hk3 hk4)) ?_ | (((with_reducible refine cw_stepDK (id := 4) [(40, 5), (42, 5), (44, 6), (45, 6)] (by decide +kernel) (by decide +kernel) ?_ (fun K hK => ?_)); (first | (refine And.intro (fun iw hiw => ?_) ?_; (focus ((try simp (maxSteps := 1000000) (disch := omega) only [go_sem] at hiw ⊢); (repeat (refine Eq.trans (if_neg ?_) ?_; (focus omega))); exact hw iw (by omega))); (focus (first | exact Nat.zero_le _ | (simp (maxSteps := 1000000) (disch := omega) only [go_sem]; done) | (simp (maxSteps := 1000000) (disch := omega) only [go_sem]; omega)))) | exact wf_a)); (try simp (maxSteps := 1000000) (disch := omega) only [go_sem]); and_intros; (all_goals first | (refine hK _ (by simp (maxSteps := 1000000) (disch := omega) only [go_sem]) ?_; clear hK K) | exact auto_cl | skip)) | refine un_a ?_ | ((first | refine st_a (fun K hK => ?_) | refine call_c (hu) ?_); and_intros; (all_goals first | (refine hK _ ?_; clear hK K) | exact auto_cl | skip)))
  refine cw_stepR (id := 7) (.br 0 (.br 1 (.br 2 (.br 3 (.br 4 (.br 5 (.br 6 (.br 7 (.br 8 (.br 9 (.br 10 (.br 11 .leaf .nil) .nil) .nil) .nil) (.br 8 (.br 7 (.br 9 (.br 10 (.br 11 .leaf .nil) .nil) .nil) (.br 9 (.br 7 (.br 10 (.br 11 .leaf .nil) .nil) .nil) .nil)) .nil)) .nil) .nil) .nil) .nil) .nil) .nil) .nil) (by decide +kernel) (by (first | (refine And.intro (fun iw hiw => ?_) ?_; (focus ((try simp (maxSteps := 1000000) (disch := omega) only [go_sem] at hiw ⊢); (repeat (refine Eq.trans (if_neg ?_) ?_; (focus omega))); exact hw iw (by omega))); (focus (first | exact Nat.zero_le _ | (simp (maxSteps := 1000000) (disch := omega) only [go_sem]; done) | (simp (maxSteps := 1000000) (disch := omega) only [go_sem]; omega)))) | exact wf_a)) (fun K0 hW => ?_)
  refine (fun (tl : ∀ st, Le st (mkSt [(0, .b (vP s)), (1, .b (I i)), (7, .b (.c (.own 1 (i + 1))))] [(1, .arr 89 12 (i + 1) (appF i (fun a j => fnOf opE s.ops (0 + a) j) (fun _ j => (opE (unwOp s i)).getD j .any)))] 2) → K0 st) => ?_) (fun st hl => hW st _ hl ?_)
  ·clear hW
   repeat' (first | exact tree_nil | (refine tree_br (fun K' hK' => ?_) ?_) | (refine tree_leaf (tl _ ?_); clear tl) | (refine call_o (hc) ?_; (try simp (maxSteps := 1000000) (disch := omega) only [go_sem]); and_intros; (all_goals first | (refine hK' _ ?_; clear hK' K') | trivial | omega | exact Nat.le_of_ble_eq_true rfl | exact auto_cl | skip)) | (simp (maxSteps := 1000000) (disch := omega) only [go_sem]; and_intros; (all_goals first | (refine hK' _ ?_; clear hK' K') | trivial | omega | exact Nat.le_of_ble_eq_true rfl | exact auto_cl | skip)))
   all_goals
    rw [← ho, hun]
    refine le_a [(1, some 5)] ?_ ?_
    and_intros
    all_goals first | exact le_cl | skip
   all_goals
    refine .inr (app1_le fun j hj => ?_)
    have hivl : j = 0 ∨ j = 1 ∨ j = 2 ∨ j = 3 ∨ j = 4 ∨ j = 5 ∨ j = 6 ∨ j = 7 ∨ j = 8 ∨ j = 9 ∨ j = 10 ∨ j = 11 := by omega
    rcases hivl with rfl | rfl | rfl | rfl | rfl | rfl | rfl | rfl | rfl | rfl | rfl | rfl <;> rfl
  clear hW
  repeat' (first | (refine st_a (fun K hK => ?_); and_intros; (all_goals first | (refine hK _ ?_; clear hK K) | exact auto_cl | skip)) | (refine ret_a ?_; (try clear hB KB); (try clear hK K)))
  exact sle_b (ble_c (unw_fin W hi hge hel))
 ·have hun : ∃ o, o = unwOp s i ∧ o = { opAt s.ops (i + 1) with operator := (opAt s.ops i).operator, mode := (opAt s.ops i).mode } := by
   refine ⟨_, rfl, ?_⟩
   unfold unwOp unw1
   rw [if_neg (show ¬ unscM s (opAt s.ops (i + 1)) = true by unfold opAt; rw [hu1]; decide)]
   exact if_neg hk2
  obtain ⟨o, ho, hun⟩ := hun
  have hk4 : ((opAt s.ops (i + 1)).kind == 2) = false := beq_eq_false_iff_ne.2 hk2
  have hk3 : ((s.ops.getD (i + 1) default).kind == 2) = false := hk4
  repeat' (first | refine dec_a (And.intro hu1 (And.intro hk3 hk4)) ?_ | (((with_reducible refine cw_stepDK (id := 4) [(40, 5), (42, 5), (44, 6), (45, 6)] (by decide +kernel) (by decide +kernel) ?_ (fun K hK => ?_)); (first | (refine And.intro (fun iw hiw => ?_) ?_; (focus ((try simp (maxSteps := 1000000) (disch := omega) only [go_sem] at hiw ⊢); (repeat (refine Eq.trans (if_neg ?_) ?_; (focus omega))); exact hw iw (by omega))); (focus (first | exact Nat.zero_le _ | (simp (maxSteps := 1000000) (disch := omega) only [go_sem]; done) | (simp (maxSteps := 1000000) (disch := omega) only [go_sem]; omega)))) | exact wf_a)); (try simp (maxSteps := 1000000) (disch := omega) only [go_sem]); and_intros; (all_goals first | (refine hK _ (by simp (maxSteps := 1000000) (disch := omega) only [go_sem]) ?_; clear hK K) | exact auto_cl | skip)) | refine un_a ?_ | ((first | refine st_a (fun K hK => ?_) | refine call_c (hu) ?_); and_intros; (all_goals first | (refine hK _ ?_; clear hK K) | exact auto_cl | skip)))
  refine cw_stepR (id := 7) (.br 0 (.br 1 (.br 2 (.br 3 (.br 4 (.br 5 (.br 6 (.br 7 (.br 8 (.br 9 (.br 10 (.br 11 .leaf .nil) .nil) .nil) .nil) (.br 8 (.br 7 (.br 9 (.br 10 (.br 11 .leaf .nil) .nil) .nil) (.br 9 (.br 7 (.br 10 (.br 11 .leaf .nil) .nil) .nil) .nil)) .nil)) .nil) .nil) .nil) .nil) .nil) .nil) .nil) (by decide +kernel) (by (first | (refine And.intro (fun iw hiw => ?_) ?_; (focus ((try simp (maxSteps := 1000000) (disch := omega) only [go_sem] at hiw ⊢); (repeat (refine Eq.trans (if_neg ?_) ?_; (focus omega))); exact hw iw (by omega))); (focus (first | exact Nat.zero_le _ | (simp (maxSteps := 1000000) (disch := omega) only [go_sem]; done) | (simp (maxSteps := 1000000) (disch := omega) only [go_sem]; omega)))) | exact wf_a)) (fun K0 hW => ?_)
  refine (fun (tl : ∀ st, Le st (mkSt [(0, .b (vP s)), (1, .b (I i)), (7, .b (.c (.own 1 (i + 1))))] [(1, .arr 89 12 (i + 1) (appF i (fun a j => fnOf opE s.ops (0 + a) j) (fun _ j => (opE (unwOp s i)).getD j .any)))] 2) → K0 st) => ?_) (fun st hl => hW st _ hl ?_)
  ·clear hW
   repeat' (first | exact tree_nil | (refine tree_br (fun K' hK' => ?_) ?_) | (refine tree_leaf (tl _ ?_); clear tl) | (refine call_o (hc) ?_; (try simp (maxSteps := 1000000) (disch := omega) only [go_sem]); and_intros; (all_goals first | (refine hK' _ ?_; clear hK' K') | trivial | omega | exact Nat.le_of_ble_eq_true rfl | exact auto_cl | skip)) | (simp (maxSteps := 1000000) (disch := omega) only [go_sem]; and_intros; (all_goals first | (refine hK' _ ?_; clear hK' K') | trivial | omega | exact Nat.le_of_ble_eq_true rfl | exact auto_cl | skip)))
   all_goals
    rw [← ho, hun]
    refine le_a [(1, some 5)] ?_ ?_
    and_intros
    all_goals first | exact le_cl | skip
   all_goals
    refine .inr (app1_le fun j hj => ?_)
    have hivl : j = 0 ∨ j = 1 ∨ j = 2 ∨ j = 3 ∨ j = 4 ∨ j = 5 ∨ j = 6 ∨ j = 7 ∨ j = 8 ∨ j = 9 ∨ j = 10 ∨ j = 11 := by omega
    rcases hivl with rfl | rfl | rfl | rfl | rfl | rfl | rfl | rfl | rfl | rfl | rfl | rfl <;> rfl
  clear hW
  repeat' (first | (refine st_a (fun K hK => ?_); and_intros; (all_goals first | (refine hK _ ?_; clear hK K) | exact auto_cl | skip)) | (refine ret_a ?_; (try clear hB KB); (try clear hK K)))
  exact sle_b (ble_c (unw_fin W hi hge hel))
end Go.Proofs.YtlblgkelhibdoaaGreatDoor
set_option maxRecDepth 8000
set_option maxHeartbeats 2000000
namespace Go.Proofs.YtlblgkelhibdoaaGreatDoor
open Go Go.SL
theorem mem_rxAt {s : Script} {i k : Nat} {r : Rx} : r ∈ rxAt s i k ↔ r.2 = i ∧ 0 ≤ r.1 ∧ r.1 < k ∧ apM s r.1 r.2 = true := by
 simp only [rxAt, List.mem_map, List.mem_filter, List.mem_range]
 constructor
 ·rintro ⟨a, ⟨h1, h2⟩, rfl⟩
  exact ⟨rfl, by dsimp only; omega, by dsimp only; omega, h2⟩
 ·rintro ⟨h1, h2, h3, h4⟩
  refine ⟨r.1.toNat, ⟨by omega, ?_⟩, ?_⟩
  ·rw [← h1, show ((r.1.toNat : Nat) : Int) = r.1 by omega]; exact h4
  ·rw [← h1, show ((r.1.toNat : Nat) : Int) = r.1 by omega]
theorem mem_rxTo {s : Script} {k : Nat} {r : Rx} : r ∈ rxTo s k ↔ r.2 < k ∧ apM s r.1 r.2 = true := by
 simp only [rxTo, List.mem_flatMap, List.mem_range, mem_rxAt]
 constructor
 ·rintro ⟨a, h1, h2, h3, h4, h5⟩
  exact ⟨by omega, h5⟩
 ·rintro ⟨h1, h2⟩
  obtain ⟨g1, g2, g3, g4, g5⟩ := apM_lt h2
  exact ⟨r.2.toNat, by omega, by omega, by omega, by omega, h2⟩
theorem mem_red {s : Script} {r : Rx} : r ∈ redM s ↔ (opsM s).1 = 0 ∧ apM s r.1 r.2 = true := by
 unfold redM
 by_cases h : (opsM s).1 = 0
 ·rw [if_pos h, mem_rxTo]
  constructor
  ·rintro ⟨_, h2⟩; exact ⟨h, h2⟩
  ·rintro ⟨_, h2⟩
   obtain ⟨g1, g2, g3, g4, g5⟩ := apM_lt h2
   exact ⟨by omega, h2⟩
 ·rw [if_neg h]
  exact ⟨fun q => absurd q (List.not_mem_nil), fun q => absurd q.1 h⟩
theorem red_sorted (s : Script) : (redM s).Pairwise (fun a b => a.2 < b.2 ∨ a.2 = b.2 ∧ a.1 < b.1) := by
 unfold redM
 split
 ·rw [rxTo, List.pairwise_flatMap]
  refine ⟨fun a _ => ?_, ?_⟩
  ·rw [rxAt, List.pairwise_map]
   refine List.Pairwise.filter _ ?_
   refine (List.pairwise_lt_range (n := 10)).imp ?_
   intro x y h
   exact .inr ⟨rfl, by dsimp only; omega⟩
  ·refine (List.pairwise_lt_range (n := s.ops.length)).imp ?_
   intro x y h p hp q hq
   rw [mem_rxAt] at hp hq
   left; omega
 ·exact List.Pairwise.nil
theorem red_head {s : Script} {r : Rx} (h : (redM s).head? = some r) : r ∈ redM s ∧ ∀ q ∈ redM s, r.2 < q.2 ∨ r.2 = q.2 ∧ r.1 ≤ q.1 := by
 have hp := red_sorted s
 cases hl : redM s with
 | nil => rw [hl] at h; cases h
 | cons a t =>
  rw [hl] at h hp
  simp only [List.head?_cons, Option.some.injEq] at h
  subst h
  refine ⟨List.mem_cons_self .., fun q hq => ?_⟩
  rcases List.mem_cons.1 hq with rfl | hq
  ·exact .inr ⟨rfl, Int.le_refl _⟩
  ·have := (List.pairwise_cons.1 hp).1 q hq
   omega
def nextS (s : Script) (r : Rx) : Script := withOps s (rwM s r.1.toNat r.2.toNat)
theorem run_none {f : Nat} {s : Script} (h : (redM s).head? = none) : runGo f s = (s.ops, []) := by
 cases f with
 | zero => rfl
 | succ f => rw [runGo, h]
theorem run_some {f : Nat} {s : Script} {r : Rx} (h : (redM s).head? = some r) : runGo (f + 1) s = ((runGo f (nextS s r)).1, r :: (runGo f (nextS s r)).2) := by
 rw [runGo, h]; rfl
theorem chg_next {s : Script} {r : Rx} (h : apM s r.1 r.2 = true) (h5 : 5 ≤ r.1) (h8 : r.1 ≤ 8) : Chg s (nextS s r) r.1.toNat r.2.toNat := by
 obtain ⟨g1, g2, g3, g4, g5⟩ := apM_lt h
 refine ⟨by omega, g3, ?_, fun h8 => ?_, fun h6 => ?_⟩
 ·rw [nextS, rwM, if_neg (by omega), if_neg (by omega)]
 ·rw [h8] at g5
  have hu : sngM s r.2.toNat = true := g5
  simp only [sngM, Bool.and_eq_true, decide_eq_true_eq] at hu
  exact hu.2
 ·rw [h6] at g5
  have hu : iseM s r.2.toNat = true := g5
  simp only [iseM, Bool.and_eq_true, decide_eq_true_eq] at hu
  exact hu.1.1.1
end Go.Proofs.YtlblgkelhibdoaaGreatDoor
namespace Go.Proofs.YtlblgkelhibdoaaGreatDoor
theorem hx_scale {x : Ex} {m : Int} (hm : 0 < m) (h : ExOk x) (h' : ExOk ⟨m * x.p, m * x.q, x.r, m * x.d⟩) : hx ⟨m * x.p, m * x.q, x.r, m * x.d⟩ = hx x := by
 obtain ⟨a1, a2, _⟩ := hx_spec h
 have key : ∀ n, geX ⟨m * x.p, m * x.q, x.r, m * x.d⟩ 2 n = geX x 2 n := fun n => by
  simp only [geX]
  have e1 : n * (m * x.d) - 2 * (m * x.p) = m * (n * x.d - 2 * x.p) := by grind
  have e2 : 2 * (m * x.q) * (2 * (m * x.q)) * x.r = m * m * (2 * x.q * (2 * x.q) * x.r) := by grind
  rw [e1, e2]
  congr 1
  have hmm := Int.mul_pos hm hm
  have e4 : m * (n * x.d - 2 * x.p) * (m * (n * x.d - 2 * x.p)) = m * m * ((n * x.d - 2 * x.p) * (n * x.d - 2 * x.p)) := by grind
  rw [e4]
  refine propext (or_congr ⟨fun q => ?_, fun q => ?_⟩ ⟨fun q => Int.le_of_mul_le_mul_left q hmm, fun q => Int.mul_le_mul_of_nonneg_left q (Int.le_of_lt hmm)⟩)
  ·refine Int.le_of_mul_le_mul_left (a := m) ?_ hm
   grind
  ·have := Int.mul_le_mul_of_nonneg_left q (Int.le_of_lt hm)
   grind
 exact hx_uniq h' (by rw [key]; exact a1) (by rw [key]; exact a2)
end Go.Proofs.YtlblgkelhibdoaaGreatDoor
namespace Go.Proofs.YtlblgkelhibdoaaGreatDoor
section
variable {op mode m cs sl cb ab : Int}
variable {fs c acc : Int}
theorem knock_over (hm : Full m) (hs : Pre cs sl m) (hd : Pre cb ab m) (hf : sl ≤ fs) (hfm : fs ≤ m) : knockC mode m cs sl fs cb cb ab = colorM 4 mode m cs sl cb ab := by
 have hk := knock_ok (mode := mode) hm hs hd hf hfm hd.s0 (Int.le_trans hd.sa hd.am)
 have hv := value_ok (op := 4) (mode := mode) hm hs hd
 have e : valueX 4 mode m cs sl cb ab = ⟨m * (knockX mode m cs sl fs cb cb ab).p, m * (knockX mode m cs sl fs cb cb ab).q, (knockX mode m cs sl fs cb cb ab).r, m * (knockX mode m cs sl fs cb cb ab).d⟩ := by
  have e1 : facA 4 sl ab m = m := rfl
  have e2 : facB 4 sl ab m = m - sl := rfl
  unfold valueX knockX
  rw [e1, e2]
  generalize blendX mode cs sl cb ab = t
  congr 1
  ·dsimp only; grind
  ·dsimp only; grind
 show hx _ = hx _
 rw [e] at hv ⊢
 exact (hx_scale hm.pos hk hv).symm
theorem knockA_over (hm : Full m) : knockA m sl fs ab ab = alphaM 4 sl ab m := by
 unfold knockA alphaM
 rw [show facA 4 sl ab m = m from rfl, show facB 4 sl ab m = m - sl from rfl]
 congr 1; grind
end
end Go.Proofs.YtlblgkelhibdoaaGreatDoor
namespace Go.Proofs.YtlblgkelhibdoaaGreatDoor
section
variable {op m a b f g : Int}
end
section
variable {m a f acc acc' b : Int}
end
theorem result_iso {x : Acc} {m : Int} (hm : Full m) (h : AccV x zPix m) (ho : x.own = x.a) : resultA x zPix m = ⟨x.c0, x.c1, x.c2, x.a, x.f⟩ := by
 have e : ∀ {c : Int}, 0 ≤ c → c ≤ x.own → resC1 c 0 x.own m = c := fun {c} q1 q2 => by
  unfold resC1
  rw [Int.mul_zero, Int.sub_zero, half_mul hm.pos]
  split
  ·omega
  ·rename_i hn
   have h1 := mul_nn (Int.le_of_lt hm.pos) q1
   rcases Int.lt_or_eq_of_le q1 with q | q
   ·exact absurd (Int.mul_pos hm.pos q) (by omega)
   ·exact q
 have l0 := h.l0
 have l1 := h.l1
 have l2 := h.l2
 show (⟨resC1 x.c0 0 x.own m, resC1 x.c1 0 x.own m, resC1 x.c2 0 x.own m, x.own, x.f⟩ : Pixel) = _
 rw [e h.n0 (by omega), e h.n1 (by omega), e h.n2 (by omega), ho]
end Go.Proofs.YtlblgkelhibdoaaGreatDoor
namespace Go.Proofs.YtlblgkelhibdoaaGreatDoor
theorem half_scale {n m d : Int} (hm : 0 < m) (hd : 0 < d) : half (n * d) (m * d) = half n m := by
 obtain ⟨a1, a2⟩ := half_spec (n := n) hm
 refine half_uniq (Int.mul_pos hm hd) ?_ ?_
 ·have := Int.mul_le_mul_of_nonneg_right a1 (Int.le_of_lt hd)
  grind
 ·have := Int.mul_lt_mul_of_pos_right a2 hd
  grind
section
variable {op mode m cs sl cb ab : Int}
theorem color_dst (hm : Full m) (hs : Pre cs sl m) (hd : Pre cb ab m) : colorM 3 mode m cs sl cb ab = cb := by
 have ho := value_ok (op := 3) (mode := mode) hm hs hd
 unfold colorM
 rw [hx_plain ho (by show 0 * _ * _ * _ = 0; simp)]
 show half ((blendX mode cs sl cb ab).p * 0 + (m - ab) * cs * 0 * (blendX mode cs sl cb ab).d + m * cb * m * (blendX mode cs sl cb ab).d) (m * m * (blendX mode cs sl cb ab).d) = cb
 have hd0 : 0 < m * m * (blendX mode cs sl cb ab).d := ho.d0
 rw [show (blendX mode cs sl cb ab).p * 0 + (m - ab) * cs * 0 * (blendX mode cs sl cb ab).d + m * cb * m * (blendX mode cs sl cb ab).d = m * m * (blendX mode cs sl cb ab).d * cb by grind, half_mul hd0]
theorem alpha_dst (hm : Full m) : alphaM 3 sl ab m = ab := by
 unfold alphaM
 rw [show facA 3 sl ab m = 0 from rfl, show facB 3 sl ab m = m from rfl, Int.zero_mul, Int.zero_add, half_mul hm.pos]
end
section
variable {ko : Bool} {op mode m : Int} {s : Pixel} {x : Acc} {b : Pixel}
theorem step_dst (hm : Full m) (hs : PixV s m) (h : AccV x b m) : stepM false 3 mode m s x b = x := by
 unfold stepM
 rw [if_neg (by decide)]
 simp only [color_dst hm hs.pre0 h.pre0, color_dst hm hs.pre1 h.pre1, color_dst hm hs.pre2 h.pre2, alpha_dst hm]
 rfl
theorem step_nothing (hm : Full m) (hs : PixV s m) (hop : op = 6 ∨ op = 7 ∨ op = 9 ∨ op = 10) : stepM false op mode m s zAcc b = zAcc := by
 have hz := (zAcc_v hm).pre0
 have fa : facA op s.a 0 m = 0 := by rcases hop with rfl | rfl | rfl | rfl <;> rfl
 have col : ∀ {c : Int}, Pre c s.a m → colorM op mode m c s.a 0 0 = 0 := fun {c} hc => by
  have hz : Pre 0 0 m := ⟨Int.le_refl _, Int.le_refl _, Int.le_of_lt hm.pos⟩
  obtain ⟨t1, t2⟩ := term_zero (mode := mode) hm hc hz (.inr rfl)
  refine value_plain hm hc hz t2 ?_
  rw [value_p, t1, fa]; grind
 have al : alphaM op s.a 0 m = 0 := by
  unfold alphaM
  rw [fa, Int.zero_mul, Int.mul_zero, Int.zero_add, half_zero hm.pos]
 have sh : shapeM op s.f 0 m = 0 := by
  unfold shapeM
  rcases hop with rfl | rfl | rfl | rfl <;> simp [half_zero hm.pos]
 unfold stepM
 rw [if_neg (by decide)]
 simp only [zAcc, col hs.pre0, col hs.pre1, col hs.pre2, al, sh]
def accS (s : Pixel) : Acc := ⟨s.c0, s.c1, s.c2, s.a, s.a, s.f⟩
theorem step_fresh (hm : Full m) (hs : PixV s m) (hop : op = 2 ∨ op = 4 ∨ op = 5 ∨ op = 8 ∨ op = 11 ∨ op = 12) : stepM false op mode m s zAcc b = accS s := by
 have fa : facA op s.a 0 m = m := by
  unfold facA
  rcases hop with rfl | rfl | rfl | rfl | rfl | rfl <;> simp
 have col : ∀ {c : Int}, Pre c s.a m → colorM op mode m c s.a 0 0 = c := fun {c} hc => by
  have hz : Pre 0 0 m := ⟨Int.le_refl _, Int.le_refl _, Int.le_of_lt hm.pos⟩
  obtain ⟨t1, t2⟩ := term_zero (mode := mode) hm hc hz (.inr rfl)
  refine value_plain hm hc hz t2 ?_
  rw [value_p, t1, fa]; grind
 have al : alphaM op s.a 0 m = s.a := by
  unfold alphaM
  rw [fa, Int.mul_zero, Int.add_zero, half_mul hm.pos]
 have sh : shapeM op s.f 0 m = s.f := by
  unfold shapeM
  rcases hop with rfl | rfl | rfl | rfl | rfl | rfl <;> simp [half_mul hm.pos]
 unfold stepM
 rw [if_neg (by decide)]
 simp only [zAcc, accS, col hs.pre0, col hs.pre1, col hs.pre2, al, sh]
theorem step_mode {mode' : Int} (hm : Full m) (hs : PixV s m) (h : AccV x zPix m) : stepM true op mode m s x zPix = stepM true op mode' m s x zPix := by
 have col : ∀ {c y mo : Int}, Pre c s.a m → 0 ≤ y → y ≤ m → knockC mo m c s.a s.f y 0 0 = half ((m - s.f) * y + m * c) m := fun {c y mo} hc h0 h1 => by
  have hz : Pre 0 0 m := ⟨Int.le_refl _, Int.le_refl _, Int.le_of_lt hm.pos⟩
  obtain ⟨t1, t2⟩ := term_zero (mode := mo) hm hc hz (.inr rfl)
  have ho := knock_ok (mode := mo) hm hc hz hs.af hs.fm h0 h1
  have hd := (term_ok (mode := mo) hm hc hz).d0
  unfold knockC
  rw [hx_plain ho t2]
  show half ((blendX mo c s.a 0 0).p + ((m - s.f) * y + (s.f - s.a) * 0 + (m - 0) * c) * (blendX mo c s.a 0 0).d) (m * (blendX mo c s.a 0 0).d) = _
  rw [t1, Int.zero_add, Int.mul_zero, Int.add_zero, Int.sub_zero, half_scale hm.pos (by omega)]
 have l0 := h.l0
 have l1 := h.l1
 have l2 := h.l2
 have am := h.am
 unfold stepM
 rw [if_pos rfl, if_pos rfl]
 simp only [zPix, col hs.pre0 h.n0 (by omega), col hs.pre1 h.n1 (by omega), col hs.pre2 h.n2 (by omega)]
theorem step_single (hm : Full m) (hs : PixV s m) (hb : PixV b m) : stepM true 4 mode m s (accOf b) b = stepM false 4 mode m s (accOf b) b := by
 unfold stepM
 rw [if_pos rfl, if_neg (by decide)]
 simp only [accOf, knock_over hm hs.pre0 hb.pre0 hs.af hs.fm, knock_over hm hs.pre1 hb.pre1 hs.af hs.fm, knock_over hm hs.pre2 hb.pre2 hs.af hs.fm, knockA_over hm]
theorem cover_clear (hm : Full m) (hs : PixV s m) (h : AccV x b m) : stepM false 1 mode m s x b = zAcc := by
 have col : ∀ {c d : Int}, Pre c s.a m → Pre d x.a m → colorM 1 mode m c s.a d x.a = 0 := fun {c d} hc hd => by
  have ho := value_ok (op := 1) (mode := mode) hm hc hd
  unfold colorM
  rw [hx_plain ho (by show 0 * _ * _ * _ = 0; simp), value_p, show facA 1 s.a x.a m = 0 from rfl, show facB 1 s.a x.a m = 0 from rfl]
  simp [half_zero (show 0 < (valueX 1 mode m c s.a d x.a).d from ho.d0)]
 unfold stepM
 rw [if_neg (by decide)]
 have al : ∀ y, alphaM 1 s.a y m = 0 := fun y => by
  unfold alphaM
  rw [show facA 1 s.a y m = 0 from rfl, show facB 1 s.a y m = 0 from rfl, Int.zero_mul, Int.zero_mul, Int.zero_add, half_zero hm.pos]
 simp only [zAcc, col hs.pre0 h.pre0, col hs.pre1 h.pre1, col hs.pre2 h.pre2, al]
 rfl
theorem cover_src (hm : Full m) (hs : PixV s m) (h : AccV x b m) : stepM false 2 1 m s x b = accS s := by
 have col : ∀ {c d : Int}, Pre c s.a m → Pre d x.a m → colorM 2 1 m c s.a d x.a = c := fun {c d} hc hd => by
  refine value_plain hm hc hd rfl ?_
  show c * x.a * m + (m - x.a) * c * m * 1 + 0 * d * m * 1 = c * (m * m * 1)
  grind
 have al : ∀ y, alphaM 2 s.a y m = s.a := fun y => by
  unfold alphaM
  rw [show facA 2 s.a y m = m from rfl, show facB 2 s.a y m = 0 from rfl, Int.zero_mul, Int.add_zero, half_mul hm.pos]
 unfold stepM
 rw [if_neg (by decide)]
 simp only [accS, col hs.pre0 h.pre0, col hs.pre1 h.pre1, col hs.pre2 h.pre2, al]
 rfl
theorem cover_over (hm : Full m) (hs : PixV s m) (h : AccV x b m) (ha : s.a = m) : stepM false 4 1 m s x b = accS s := by
 have hf : s.f = m := Int.le_antisymm hs.fm (by have := hs.af; omega)
 have col : ∀ {c d : Int}, Pre c s.a m → Pre d x.a m → colorM 4 1 m c s.a d x.a = c := fun {c d} hc hd => by
  refine value_plain hm hc hd rfl ?_
  show c * x.a * m + (m - x.a) * c * m * 1 + (m - s.a) * d * m * 1 = c * (m * m * 1)
  rw [ha]; grind
 have al : ∀ y, alphaM 4 s.a y m = s.a := fun y => by
  unfold alphaM
  rw [show facA 4 s.a y m = m from rfl, show facB 4 s.a y m = m - s.a from rfl, ha, Int.sub_self, Int.zero_mul, Int.add_zero, half_mul hm.pos]
 have sh : ∀ g, shapeM 4 s.f g m = s.f := fun g => by
  rw [shape_half hm, show shN 4 s.f g m = m * s.f + (m - s.f) * g from rfl, hf, Int.sub_self, Int.zero_mul, Int.add_zero, half_mul hm.pos]
 unfold stepM
 rw [if_neg (by decide)]
 simp only [accS, col hs.pre0 h.pre0, col hs.pre1 h.pre1, col hs.pre2 h.pre2, al, sh]
theorem cover_knock {y : Acc} (hm : Full m) (hf : s.f = m) : stepM true 4 mode m s x b = stepM true 4 mode m s y b := by
 have col : ∀ {c d u v : Int}, knockC mode m c s.a s.f u d b.a = knockC mode m c s.a s.f v d b.a := fun {c d u v} => by
  unfold knockC knockX
  rw [hf, Int.sub_self, Int.zero_mul, Int.zero_mul]
 have al : ∀ {u v w : Int}, knockA m s.a s.f u w = knockA m s.a s.f v w := fun {u v w} => by
  unfold knockA
  rw [hf, Int.sub_self, Int.zero_mul, Int.zero_mul]
 have sh : ∀ {u v : Int}, shapeM 4 s.f u m = shapeM 4 s.f v m := fun {u v} => by
  rw [shape_half hm, shape_half hm, show shN 4 s.f u m = m * s.f + (m - s.f) * u from rfl, show shN 4 s.f v m = m * s.f + (m - s.f) * v from rfl, hf, Int.sub_self, Int.zero_mul, Int.zero_mul]
 unfold stepM
 rw [if_pos rfl, if_pos rfl, col (u := x.c0) (v := y.c0), col (u := x.c1) (v := y.c1), col (u := x.c2) (v := y.c2), al (u := x.a) (v := y.a), al (u := x.own) (v := y.own), sh (u := x.f) (v := y.f)]
end
end Go.Proofs.YtlblgkelhibdoaaGreatDoor
namespace Go.Proofs.YtlblgkelhibdoaaGreatDoor
section
variable {s : Script} {x y : Int}
theorem covers_in {r q : Rect} (h : coversR r q = true) (hq : emptyR q = false) (hxy : inR q x y) : emptyR r = false ∧ inR r x y := by
 unfold coversR at h
 rw [hq] at h
 simp only [Bool.false_or, Bool.and_eq_true, Bool.not_eq_true', decide_eq_true_eq] at h
 obtain ⟨⟨⟨⟨h1, h2⟩, h3⟩, h4⟩, h5⟩ := h
 unfold inR at *
 exact ⟨h1, by omega⟩
end
end Go.Proofs.YtlblgkelhibdoaaGreatDoor
set_option maxHeartbeats 1000000
namespace Go.Proofs.YtlblgkelhibdoaaGreatDoor
section
variable {s : Script} {m x y : Int}
theorem src_v (C : Pt s m x y) {i : Nat} (hi : i < s.ops.length) (hk : (opAt s.ops i).kind ≠ 3) {t : Lv} {r : List Lv} (h : At s m i (t :: r)) : PixV (srcE s m x y i t.op.knockout t.acc t.back) m := by
 have W := C.V.wf
 unfold srcE
 rcases W.kinds i hi with h1 | h1 | h1
 ·rw [if_pos h1]; exact C.z.p _
 ·rw [if_neg (by omega)]
  have he := ends_push W hi h1
  have hel := ends_lt W hi
  have h2 := at_run C h (show i ≤ i + 1 by omega) (by omega)
  rw [seg_one hi, run_cons, stepL_push h1] at h2
  have h3 := at_run C h2 (show i + 1 ≤ endsM s.ops i by omega) (by omega)
  have e : runL m (smpM s x y) (seg s.ops (i + 1) (endsM s.ops i)) (runL m (smpM s x y) [] (beginL (opAt s.ops i) t :: t :: r)) = _ := run_elm (elm_in W hi h1) _ _
  rw [e] at h3
  exact result_v C.hm h3.v.head.v
 ·exact absurd h1 hk
theorem scl_v (C : Pt s m x y) {o t : Op} {p : Pixel} {k : Int} (hp : PixV p m) (hk : 0 ≤ k) (hkm : k ≤ m) (h : OpFit m t o) : PixV (scaledM m o p k) m := scaled_v C.hm hp hk hkm h.op0 h.opm
theorem first_acc (C : Pt s m x y) {i : Nat} (hi : i < s.ops.length) (hf : firstM s.ops i = true) {t : Lv} {r : List Lv} (h : stAt m (smpM s x y) s.ops i = t :: r) : t.acc = accOf t.back := by
 have W := C.V.wf
 simp only [firstM, decide_eq_true_eq] at hf
 obtain ⟨hk, h0⟩ := hf
 have ha := at_i C i (by omega)
 rw [h] at ha
 cases hs : stk s.ops i with
 | nil =>
  rw [topAt_nil hs] at h0
  have hi0 : i = 0 := by
   refine Nat.eq_zero_of_not_pos fun hp => ?_
   have hk0 : (opAt s.ops 0).kind ≠ 3 := fun q => W.pops 0 (by omega) q rfl
   have h1 : kidsTo s.ops 1 (-1) = 1 := by rw [kidsTo, if_pos ⟨hk0, topAt_nil rfl⟩]; rfl
   have := kidsTo_mono s.ops (-1) (show 1 ≤ i by omega)
   omega
  subst hi0
  have : t = base := (List.cons.inj h).1.symm
  rw [this]; rfl
 | cons p q =>
  rw [topAt_cons hs] at h0
  have hp : p ∈ stk s.ops i := by rw [hs]; exact List.mem_cons_self ..
  have hpi := stk_lt hp
  have hpk := stk_kind hp
  have hsp := stk_push hpk
  have hsq : stk s.ops p = q := stk_suf (l := []) hs
  have hip : i = p + 1 := by
   refine Nat.le_antisymm (Nat.not_lt.1 fun hlt => ?_) hpi
   have hk1 : (opAt s.ops (p + 1)).kind ≠ 3 := fun q3 => by
    have h1 := stk_pop (ops := s.ops) q3
    rw [hsp] at h1
    have h2 := stk_keep W (i := p + 1 + 1) (p := p) (by omega) (by rw [h1]; exact fun hq => by have := stk_lt (show p ∈ stk s.ops p from hq); omega) i (by omega)
    exact h2 hp
   have h1 : 1 ≤ kidsTo s.ops (p + 1 + 1) p := by rw [kidsTo, if_pos ⟨hk1, topAt_cons hsp⟩]; omega
   have := kidsTo_mono s.ops p (show p + 1 + 1 ≤ i by omega)
   omega
  subst hip
  rw [stAt_succ (by omega)] at h
  obtain ⟨t0, r0, e0⟩ := (at_i C p (by omega)).ne
  rw [e0, stepL_push hpk] at h
  rw [← (List.cons.inj h).1]; rfl
theorem cut_val (C : Pt s m x y) {i : Nat} (hi : i < s.ops.length) (hk : (opAt s.ops i).kind ≠ 3)
  (h : ∀ t r, stAt m (smpM s x y) s.ops i = t :: r → accL m (smpM s x y) (seg s.ops i (endsM s.ops i + 1)) t.op.knockout t.acc t.back = t.acc) : runL m (smpM s x y) (cutOps s i) [base] = runL m (smpM s x y) s.ops [base] := by
 have hel := ends_lt C.V.wf hi
 have heg := ends_ge C.V.wf hi
 obtain ⟨t, r, e⟩ := (at_i C i (by omega)).ne
 have e1 : s.ops = s.ops.take i ++ (seg s.ops i (endsM s.ops i + 1) ++ s.ops.drop (endsM s.ops i + 1)) := by
  have : seg s.ops i (endsM s.ops i + 1) ++ s.ops.drop (endsM s.ops i + 1) = s.ops.drop i := by
   conv => rhs; rw [← List.take_append_drop (endsM s.ops i + 1) s.ops]
   rw [List.drop_append_of_le_length (by rw [List.length_take]; omega)]; rfl
  rw [this, List.take_append_drop]
 have e2 : runL m (smpM s x y) (s.ops.take i) [base] = t :: r := e
 conv => rhs; rw [e1]
 rw [cutOps, run_app, run_app, run_app, e2, run_elem C hi hk, h t r e]
theorem set_val (C : Pt s m x y) {i : Nat} (hi : i < s.ops.length) (hk : (opAt s.ops i).kind ≠ 3) {o : Op} (ho : o.kind = (opAt s.ops i).kind)
  (h : ∀ t r, stAt m (smpM s x y) s.ops i = t :: r → accL m (smpM s x y) (o :: seg s.ops (i + 1) (endsM s.ops i + 1)) t.op.knockout t.acc t.back = accL m (smpM s x y) (seg s.ops i (endsM s.ops i + 1)) t.op.knockout t.acc t.back) :
  runL m (smpM s x y) (s.ops.set i o) [base] = runL m (smpM s x y) s.ops [base] := by
 have W := C.V.wf
 have hel := ends_lt W hi
 have heg := ends_ge W hi
 obtain ⟨t, r, e⟩ := (at_i C i (by omega)).ne
 have tl : seg s.ops (i + 1) (endsM s.ops i + 1) ++ s.ops.drop (endsM s.ops i + 1) = s.ops.drop (i + 1) := by
  conv => rhs; rw [← List.take_append_drop (endsM s.ops i + 1) s.ops]
  rw [List.drop_append_of_le_length (by rw [List.length_take]; omega)]; rfl
 have e1 : s.ops = s.ops.take i ++ ((opAt s.ops i :: seg s.ops (i + 1) (endsM s.ops i + 1)) ++ s.ops.drop (endsM s.ops i + 1)) := by
  rw [List.cons_append, tl, show opAt s.ops i :: s.ops.drop (i + 1) = s.ops.drop i by rw [List.drop_eq_getElem_cons hi, opAt, List.getD_eq_getElem?_getD, List.getElem?_eq_getElem hi]; rfl, List.take_append_drop]
 have e3 : s.ops.set i o = s.ops.take i ++ ((o :: seg s.ops (i + 1) (endsM s.ops i + 1)) ++ s.ops.drop (endsM s.ops i + 1)) := by
  rw [List.cons_append, tl, List.set_eq_take_append_cons_drop, if_pos hi]
 have e2 : runL m (smpM s x y) (s.ops.take i) [base] = t :: r := e
 have hE := elm_at W hi hk
 rw [seg_cons (show i < endsM s.ops i + 1 by omega) (by omega)] at hE
 have hE' : Elm (o :: seg s.ops (i + 1) (endsM s.ops i + 1)) := by
  rcases W.kinds i hi with h1 | h1 | h1
  ·rw [ends_draw W hi h1, seg_nil]; exact .draw (ho.trans h1) .nil
  ·have := ends_push W hi h1
   rw [seg_snoc (show i + 1 ≤ endsM s.ops i by omega) hel]
   exact .grp (ho.trans h1) (elm_in W hi h1) (grp_end W hi h1).1 .nil
  ·exact absurd h1 hk
 have h' := h t r e
 rw [seg_cons (show i < endsM s.ops i + 1 by omega) (by omega)] at h'
 conv => rhs; rw [e1]
 rw [e3, run_app, run_app, run_app, run_app, e2, run_elm hE', run_elm hE, h']
theorem elem_set (C : Pt s m x y) {i : Nat} (hi : i < s.ops.length) (hk : (opAt s.ops i).kind ≠ 3) {o : Op} (ho : o.kind = (opAt s.ops i).kind) {ko : Bool} {a : Acc} {b : Pixel} :
  accL m (smpM s x y) (o :: seg s.ops (i + 1) (endsM s.ops i + 1)) ko a b = stepM ko o.operator o.mode m (scaledM m o (if o.kind = 1 then (smpM s x y o).1 else grpP m (smpM s x y) (seg s.ops (i + 1) (endsM s.ops i)) o.knockout (beginA o.isolated ko a b)) (smpM s x y o).2) a b := by
 have W := C.V.wf
 rcases W.kinds i hi with h | h | h
 ·rw [ends_draw W hi h, seg_nil, acc_draw (ho.trans h), if_pos (ho.trans h)]
 ·have := ends_push W hi h
  rw [seg_snoc (show i + 1 ≤ endsM s.ops i by omega) (ends_lt W hi), acc_grp (ho.trans h) (elm_in W hi h) (grp_end W hi h).1, if_neg (by omega)]
 ·exact absurd h hk
end
end Go.Proofs.YtlblgkelhibdoaaGreatDoor
set_option maxHeartbeats 1000000
namespace Go.Proofs.YtlblgkelhibdoaaGreatDoor
section
variable {s : Script} {m x y : Int}
theorem scaled_full {o : Op} {p : Pixel} {k : Int} (hm : Full m) (h : o.opacity = m) (h2 : o.mask = 0 ∨ k = m) : scaledM m o p k = p := by
 unfold scaledM
 rw [h, scale_full hm]
 rcases h2 with h2 | h2
 ·rw [if_pos h2, scale_full hm]
 ·rw [h2, ite_self, scale_full hm]
theorem clear_z {p : Pixel} (h : clearP p = true) : p = zPix := by
 simp only [clearP, decide_eq_true_eq] at h
 obtain ⟨c0, c1, c2, a, f⟩ := p
 obtain ⟨h0, h1, h2, h3, h4⟩ := h
 dsimp only at h0 h1 h2 h3 h4
 rw [h0, h1, h2, h3, h4]; rfl
theorem kids_nil (C : Pt s m x y) {i : Nat} (hi : i < s.ops.length) (hk : (opAt s.ops i).kind = 2) (h : kidsM s.ops i = 0) : endsM s.ops i = i + 1 := by
 have W := C.V.wf
 have he := ends_push W hi hk
 have hel := ends_lt W hi
 refine Nat.le_antisymm (Nat.not_lt.1 fun q => ?_) he
 have hsp := stk_push (ops := s.ops) hk
 have hk1 : (opAt s.ops (i + 1)).kind ≠ 3 := fun q3 => by
  have := ends_pop W (show i + 1 < s.ops.length by omega) q3 hsp
  omega
 have h1 : 1 ≤ kidsTo s.ops (i + 1 + 1) i := by rw [kidsTo, if_pos ⟨hk1, topAt_cons hsp⟩]; omega
 have := kidsTo_mono s.ops i (show i + 1 + 1 ≤ s.ops.length by omega)
 unfold kidsM at h
 omega
theorem rule1 (C : Pt s m x y) {i : Nat} (hi : i < s.ops.length) (hk : (opAt s.ops i).kind ≠ 3) (h : invM s i = true) : runL m (smpM s x y) (cutOps s i) [base] = runL m (smpM s x y) s.ops [base] := by
 have W := C.V.wf
 simp only [invM, Bool.and_eq_true, Bool.or_eq_true, decide_eq_true_eq] at h
 obtain ⟨hn, h⟩ := h
 refine cut_val C hi hk fun t r e => ?_
 have ha := at_i C i (by omega)
 rw [e] at ha
 refine elem_neutral C hi hk hn ha ?_
 rcases h with (h | h) | h
 ·exact scaled_op0 C.hm h
 ·simp only [voidM, smB, Bool.and_eq_true, Bool.or_eq_true, Bool.not_eq_true', decide_eq_true_eq, decide_eq_false_iff_not] at h
  obtain ⟨h0, h⟩ := h
  have hsm : smA s (opAt s.ops i) = (imgM s ((opAt s.ops i).mask - 1)).color.a := if_neg h0
  rw [hsm] at h
  obtain ⟨g1, g2⟩ := mask_at C hi hk h0
  have hz : (smpM s x y (opAt s.ops i)).2 = 0 := by
   by_cases hp : emptyR (maskRectM s (opAt s.ops i)) = false ∧ inR (maskRectM s (opAt s.ops i)) x y
   ·rcases h with h | h
    ·rw [g1 hp h.1.2, h.2]
    ·rw [h] at hp; cases hp.1
   ·exact g2 hp
  rw [hz]; exact scaled_void C.hm h0
 ·have hz : srcE s m x y i t.op.knockout t.acc t.back = zPix := by
   unfold srcE
   rcases W.kinds i hi with k | k | k
   ·rw [if_neg (by omega)] at h
    rw [if_pos k]
    obtain ⟨g1, g2⟩ := image_at C hi k
    by_cases hp : emptyR (imageRectM s (opAt s.ops i)) = false ∧ inR (imageRectM s (opAt s.ops i)) x y
    ·simp only [Bool.or_eq_true, Bool.and_eq_true] at h
     rcases h with h | h
     ·rw [h] at hp; cases hp.1
     ·rw [g1 hp h.1]; exact clear_z h.2
    ·exact g2 hp
   ·rw [if_pos k, decide_eq_true_eq] at h
    rw [if_neg (by omega), kids_nil C hi k h, seg_nil]; exact grp_nil
   ·exact absurd k hk
  rw [hz]; exact scaled_zero C.hm
theorem plain_of (C : Pt s m x y) {i : Nat} (hi : i < s.ops.length) (hk : (opAt s.ops i).kind ≠ 3) {t : Lv} {r : List Lv} (h : At s m i (t :: r)) (h4 : (opAt s.ops i).operator ≠ 4) : t.op.isolated = true ∧ t.op.knockout = false :=
 (h.fit C hi hk).ctx.resolve_left h4
theorem rule2 (C : Pt s m x y) {i : Nat} (hi : i < s.ops.length) (hk : (opAt s.ops i).kind ≠ 3) (h : dstM s i = true) : runL m (smpM s x y) (cutOps s i) [base] = runL m (smpM s x y) s.ops [base] := by
 simp only [dstM, decide_eq_true_eq] at h
 refine cut_val C hi hk fun t r e => ?_
 have ha := at_i C i (by omega)
 rw [e] at ha
 rw [elem_acc C hi hk, h, (plain_of C hi hk ha (by omega)).2]
 have hf := ha.fit C hi hk
 have hs := src_v C hi hk ha
 rw [(plain_of C hi hk ha (by omega)).2] at hs
 exact step_dst C.hm (scl_v C hs (C.z.k0 _) (C.z.km _) hf) ha.v.head.v
theorem accOf_z : accOf zPix = zAcc := rfl
theorem rule3 (C : Pt s m x y) {i : Nat} (hi : i < s.ops.length) (hk : (opAt s.ops i).kind ≠ 3) (h : nthM s i = true) : runL m (smpM s x y) (cutOps s i) [base] = runL m (smpM s x y) s.ops [base] := by
 simp only [nthM, plnM, Bool.and_eq_true, Bool.not_eq_true', decide_eq_true_eq] at h
 obtain ⟨hop, hf, hi1, hk1⟩ := h
 refine cut_val C hi hk fun t r e => ?_
 have ha := at_i C i (by omega)
 rw [e] at ha
 obtain ⟨f1, f2⟩ := ha.frame hk
 rw [hi1] at f1
 rw [hk1] at f2
 have hb := (ha.v.head.iso f1).1
 have hx : t.acc = zAcc := by rw [first_acc C hi hf e, hb]; rfl
 have hs := src_v C hi hk ha
 rw [elem_acc C hi hk]
 rw [f2, hx] at hs ⊢
 exact step_nothing C.hm (scl_v C hs (C.z.k0 _) (C.z.km _) (ha.fit C hi hk)) hop
theorem cover_eq (C : Pt s m x y) {j : Nat} (hj : j < s.ops.length) (hk : (opAt s.ops j).kind = 1) (h : cvM s j = true) {t : Lv} {a : Acc} {r : List Lv} (h1 : At s m j (t :: r)) (h2 : At s m j ({ t with acc := a } :: r)) :
  stepL m (smpM s x y) (t :: r) (opAt s.ops j) = stepL m (smpM s x y) ({ t with acc := a } :: r) (opAt s.ops j) := by
 have hf := h1.fit C hj (by omega)
 obtain ⟨f1, f2⟩ := h1.frame (show (opAt s.ops j).kind ≠ 3 by omega)
 have hsv := scl_v C (C.z.p (opAt s.ops j)) (C.z.k0 (opAt s.ops j)) (C.z.km (opAt s.ops j)) hf
 have v1 := h1.v.head.v
 have v2 : AccV a t.back m := h2.v.head.v
 rw [stepL_draw hk, stepL_draw hk]
 suffices hh : stepM t.op.knockout (opAt s.ops j).operator (opAt s.ops j).mode m (scaledM m (opAt s.ops j) (smpM s x y (opAt s.ops j)).1 (smpM s x y (opAt s.ops j)).2) t.acc t.back =
   stepM t.op.knockout (opAt s.ops j).operator (opAt s.ops j).mode m (scaledM m (opAt s.ops j) (smpM s x y (opAt s.ops j)).1 (smpM s x y (opAt s.ops j)).2) a t.back by
  unfold paintL
  dsimp only
  rw [hh]
 rw [f2]
 simp only [cvM, Bool.or_eq_true, Bool.and_eq_true, Bool.not_eq_true', decide_eq_true_eq, unscM] at h
 rcases h with ⟨h, hko⟩ | ⟨⟨⟨⟨hm0, hop⟩, hso⟩, hcv⟩, h⟩
 ·rw [hko, h, cover_clear C.hm hsv v1, cover_clear C.hm hsv v2]
 ·have hc := (image_at C hj hk).1 (covers_in hcv C.c C.xy) hso
  rw [C.mx] at hop
  have hsc : scaledM m (opAt s.ops j) (smpM s x y (opAt s.ops j)).1 (smpM s x y (opAt s.ops j)).2 = (imgM s (opAt s.ops j).image).color := by rw [scaled_full C.hm hop (.inl hm0), hc]
  rw [hsc] at hsv ⊢
  split at h
  ·rename_i hko
   have h4 : (opAt s.ops j).operator = 4 := hf.ctx.elim id fun q => by rw [f2, hko] at q; cases q.2
   rw [decide_eq_true_eq, C.mx] at h
   rw [hko, h4]; exact cover_knock C.hm h
  ·rename_i hko
   rw [Bool.not_eq_true] at hko
   simp only [Bool.or_eq_true, Bool.and_eq_true, decide_eq_true_eq] at h
   obtain ⟨hmo, h | ⟨h, ha⟩⟩ := h
   ·rw [hko, h, hmo, cover_src C.hm hsv v1, cover_src C.hm hsv v2]
   ·rw [C.mx] at ha
    rw [hko, h, hmo, cover_over C.hm hsv v1 ha, cover_over C.hm hsv v2 ha]
theorem cd_run (C : Pt s m x y) : ∀ (f j : Nat), cdGo s f j = true → ∀ {t : Lv} {a : Acc} {r : List Lv}, At s m j (t :: r) → At s m j ({ t with acc := a } :: r) →
  runL m (smpM s x y) (s.ops.drop j) (t :: r) = runL m (smpM s x y) (s.ops.drop j) ({ t with acc := a } :: r)
 | 0, j, h, _, _, _, _, _ => by cases h
 | f + 1, j, h, t, a, r, h1, h2 => by
  rw [cdGo] at h
  simp only [Bool.and_eq_true, Bool.or_eq_true, Bool.not_eq_true', decide_eq_true_eq, decide_eq_false_iff_not] at h
  obtain ⟨⟨hj, hk⟩, h⟩ := h
  have W := C.V.wf
  rcases h with ⟨h3, h4⟩ | h
  ·have e : s.ops.drop j = opAt s.ops j :: s.ops.drop (j + 1) := by rw [List.drop_eq_getElem_cons hj, opAt, List.getD_eq_getElem?_getD, List.getElem?_eq_getElem hj]; rfl
   rw [e, run_cons, run_cons, cover_eq C hj h3 h4 h1 h2]
  ·have hel := ends_lt W hj
   have heg := ends_ge W hj
   have e : s.ops.drop j = seg s.ops j (endsM s.ops j + 1) ++ s.ops.drop (endsM s.ops j + 1) := by
    conv => lhs; rw [← List.take_append_drop (endsM s.ops j + 1) s.ops]
    rw [List.drop_append_of_le_length (by rw [List.length_take]; omega)]; rfl
   have g1 := at_run C h1 (show j ≤ endsM s.ops j + 1 by omega) (by omega)
   have g2 := at_run C h2 (show j ≤ endsM s.ops j + 1 by omega) (by omega)
   rw [run_elem C hj hk] at g1 g2
   rw [e, run_app, run_app, run_elem C hj hk, run_elem C hj hk]
   exact cd_run C f (endsM s.ops j + 1) h g1 g2
theorem rule4 (C : Pt s m x y) {i : Nat} (hi : i < s.ops.length) (hk : (opAt s.ops i).kind ≠ 3) (h : cdM s i = true) : runL m (smpM s x y) (cutOps s i) [base] = runL m (smpM s x y) s.ops [base] := by
 have W := C.V.wf
 have hel := ends_lt W hi
 have heg := ends_ge W hi
 obtain ⟨t, r, e⟩ := (at_i C i (by omega)).ne
 have ha := at_i C i (by omega)
 rw [e] at ha
 have g1 := at_run C ha (show i ≤ endsM s.ops i + 1 by omega) (by omega)
 rw [run_elem C hi hk] at g1
 have g2 := ha.same (stk_ends W hi hk)
 have e1 : s.ops = s.ops.take i ++ (seg s.ops i (endsM s.ops i + 1) ++ s.ops.drop (endsM s.ops i + 1)) := by
  have : seg s.ops i (endsM s.ops i + 1) ++ s.ops.drop (endsM s.ops i + 1) = s.ops.drop i := by
   conv => rhs; rw [← List.take_append_drop (endsM s.ops i + 1) s.ops]
   rw [List.drop_append_of_le_length (by rw [List.length_take]; omega)]; rfl
  rw [this, List.take_append_drop]
 have e2 : runL m (smpM s x y) (s.ops.take i) [base] = t :: r := e
 conv => rhs; rw [e1]
 rw [cutOps, run_app, run_app, run_app, e2, run_elem C hi hk]
 exact cd_run C _ _ h g2 g1
end
end Go.Proofs.YtlblgkelhibdoaaGreatDoor
set_option maxHeartbeats 1000000
namespace Go.Proofs.YtlblgkelhibdoaaGreatDoor
section
variable {s : Script} {m x y : Int}
theorem rule5 (C : Pt s m x y) {i : Nat} (hi : i < s.ops.length) (hk : (opAt s.ops i).kind ≠ 3) (h : fullM s (opAt s.ops i) = true) : runL m (smpM s x y) (s.ops.set i (chgOp 5 (opAt s.ops i))) [base] = runL m (smpM s x y) s.ops [base] := by
 simp only [fullM, smB, Bool.and_eq_true, Bool.not_eq_true', decide_eq_true_eq, decide_eq_false_iff_not] at h
 obtain ⟨⟨⟨h0, hso⟩, ha⟩, hcv⟩ := h
 have hsm : smA s (opAt s.ops i) = (imgM s ((opAt s.ops i).mask - 1)).color.a := if_neg h0
 rw [hsm, C.mx] at ha
 have hz : (smpM s x y (opAt s.ops i)).2 = m := by rw [(mask_at C hi hk h0).1 (covers_in hcv C.c C.xy) hso, ha]
 refine set_val C hi hk rfl fun t r e => ?_
 rw [elem_set C hi hk (o := chgOp 5 (opAt s.ops i)) rfl, elem_acc C hi hk]
 have key : ∀ p k, scaledM m (chgOp 5 (opAt s.ops i)) p k = scaledM m (opAt s.ops i) p m := fun p k => by
  unfold scaledM
  rw [if_neg h0]; rfl
 rw [key, hz]; rfl
theorem begin_zero (C : Pt s m x y) {i : Nat} (hi : i < s.ops.length) (hk : (opAt s.ops i).kind ≠ 3) (h1 : isoM s i = true) (h2 : firstM s.ops i = true ∨ koM s i = true) {t : Lv} {r : List Lv} (e : stAt m (smpM s x y) s.ops i = t :: r) (b : Bool) : beginA b t.op.knockout t.acc t.back = zPix := by
 have ha := at_i C i (by omega)
 rw [e] at ha
 obtain ⟨f1, f2⟩ := ha.frame hk
 have hb := (ha.v.head.iso (f1.trans h1)).1
 unfold beginA
 split
 ·rfl
 split
 ·exact hb
 ·rename_i q2
  have hf : firstM s.ops i = true := h2.elim id fun q => absurd (f2.trans q) q2
  rw [first_acc C hi hf e, hb]; rfl
theorem rule6 (C : Pt s m x y) {i : Nat} (hi : i < s.ops.length) (hk : (opAt s.ops i).kind ≠ 3) (h : iseM s i = true) : runL m (smpM s x y) (s.ops.set i (chgOp 6 (opAt s.ops i))) [base] = runL m (smpM s x y) s.ops [base] := by
 simp only [iseM, Bool.and_eq_true, Bool.or_eq_true, Bool.not_eq_true', decide_eq_true_eq] at h
 obtain ⟨⟨⟨h1, h2⟩, h3⟩, h4⟩ := h
 refine set_val C hi hk rfl fun t r e => ?_
 rw [elem_set C hi hk (o := chgOp 6 (opAt s.ops i)) rfl, elem_acc C hi hk, srcE, begin_zero C hi hk h3 h4 e (opAt s.ops i).isolated, begin_zero C hi hk h3 h4 e]
 rfl
theorem rule7 (C : Pt s m x y) {i : Nat} (hi : i < s.ops.length) (hk : (opAt s.ops i).kind ≠ 3) (h : nrmM s i = true) : runL m (smpM s x y) (s.ops.set i (chgOp 7 (opAt s.ops i))) [base] = runL m (smpM s x y) s.ops [base] := by
 simp only [nrmM, Bool.and_eq_true] at h
 obtain ⟨h1, h⟩ := h
 refine set_val C hi hk rfl fun t r e => ?_
 have ha := at_i C i (by omega)
 rw [e] at ha
 obtain ⟨f1, f2⟩ := ha.frame hk
 rw [h1] at f1
 have hb := (ha.v.head.iso f1).1
 have hs := src_v C hi hk ha
 have hfit := ha.fit C hi hk
 have hsv := scl_v C hs (C.z.k0 (opAt s.ops i)) (C.z.km (opAt s.ops i)) hfit
 rw [elem_set C hi hk (o := chgOp 7 (opAt s.ops i)) rfl, elem_acc C hi hk]
 show stepM _ 4 1 m (scaledM m (opAt s.ops i) (srcE s m x y i t.op.knockout t.acc t.back) (smpM s x y (opAt s.ops i)).2) _ _ = _
 generalize scaledM m (opAt s.ops i) (srcE s m x y i t.op.knockout t.acc t.back) (smpM s x y (opAt s.ops i)).2 = p at *
 split at h
 ·rename_i hko
  have h4 : (opAt s.ops i).operator = 4 := hfit.ctx.elim id fun q => by rw [f2, hko] at q; cases q.2
  have hv := ha.v.head.v
  rw [hb] at hv
  rw [h4, f2, hko, hb]
  exact step_mode C.hm hsv hv
 ·rename_i hko
  rw [Bool.not_eq_true] at hko
  simp only [Bool.and_eq_true, freshM, decide_eq_true_eq] at h
  obtain ⟨⟨hf, hfr⟩, _⟩ := h
  have hx : t.acc = zAcc := by rw [first_acc C hi hf e, hb]; rfl
  rw [f2, hko, hx, step_fresh C.hm hsv (.inr (.inl rfl)), step_fresh C.hm hsv hfr]
theorem single_end (C : Pt s m x y) {i : Nat} (hi : i < s.ops.length) (hk : (opAt s.ops i).kind = 2) (h : kidsM s.ops i = 1) : (opAt s.ops (i + 1)).kind ≠ 3 ∧ endsM s.ops (i + 1) + 1 = endsM s.ops i ∧ i + 2 ≤ endsM s.ops i := by
 have W := C.V.wf
 obtain ⟨h1, h2⟩ := kid_next W hi hk (by omega)
 have hel := ends_lt W hi
 have hsp := stk_push (ops := s.ops) hk
 have hs2 := stk_ends W (show i + 1 < s.ops.length by omega) h2
 have hge := ends_ge W (show i + 1 < s.ops.length by omega)
 obtain ⟨e3, e4, hin⟩ := grp_end W hi hk
 have hlt : endsM s.ops (i + 1) < endsM s.ops i := by
  have hl2 := ends_lt W (show i + 1 < s.ops.length by omega)
  refine Nat.not_le.1 fun q => ?_
  rcases W.kinds (i + 1) (by omega) with k | k | k
  ·rw [ends_draw W (by omega) k] at q; omega
  ·have : (i + 1) ∈ stk s.ops (endsM s.ops i) := (open_iff W (by omega) (by omega)).2 ⟨k, q⟩
   rw [e4] at this
   rcases List.mem_cons.1 this with q2 | q2
   ·omega
   ·have := stk_lt q2; omega
  ·exact h2 k
 refine ⟨h2, ?_, h1⟩
 refine Nat.le_antisymm hlt (Nat.not_lt.1 fun q => ?_)
 have hn3 : (opAt s.ops (endsM s.ops (i + 1) + 1)).kind ≠ 3 := fun q3 => by
  have := ends_pop W (show endsM s.ops (i + 1) + 1 < s.ops.length by omega) q3 (hs2.trans hsp)
  omega
 have := kids_two (ops := s.ops) (i := i + 1) (j := endsM s.ops (i + 1) + 1) (g := i) (by omega) (by omega) h2 hn3 (topAt_cons hsp) (topAt_cons (hs2.trans hsp))
 omega
theorem single_acc (C : Pt s m x y) {i : Nat} (hi : i < s.ops.length) (hk : (opAt s.ops i).kind = 2) (h : kidsM s.ops i = 1) {ko : Bool} {a : Acc} {b : Pixel} :
  accL m (smpM s x y) (seg s.ops (i + 1) (endsM s.ops i)) ko a b = stepM ko (opAt s.ops (i + 1)).operator (opAt s.ops (i + 1)).mode m (scaledM m (opAt s.ops (i + 1)) (srcE s m x y (i + 1) ko a b) (smpM s x y (opAt s.ops (i + 1))).2) a b := by
 obtain ⟨h2, h3, h4⟩ := single_end C hi hk h
 have hel := ends_lt C.V.wf hi
 rw [← h3, elem_acc C (by omega) h2]
theorem rule8 (C : Pt s m x y) {i : Nat} (hi : i < s.ops.length) (hk : (opAt s.ops i).kind ≠ 3) (h : sngM s i = true) : runL m (smpM s x y) (s.ops.set i (chgOp 8 (opAt s.ops i))) [base] = runL m (smpM s x y) s.ops [base] := by
 simp only [sngM, Bool.and_eq_true, decide_eq_true_eq] at h
 obtain ⟨⟨h1, h2⟩, h3⟩ := h
 obtain ⟨k1, k2, k3⟩ := single_end C hi h1 h3
 have hel := ends_lt C.V.wf hi
 refine set_val C hi hk rfl fun t r e => ?_
 have ha := at_i C i (by omega)
 rw [e] at ha
 have hin := at_in C hi h1 ha
 have hfit := hin.fit C (show i + 1 < s.ops.length by omega) k1
 have h4 : (opAt s.ops (i + 1)).operator = 4 := hfit.ctx.elim id fun q => by
  have : (opAt s.ops i).knockout = false := q.2
  rw [h2] at this; cases this
 have hs := src_v C (show i + 1 < s.ops.length by omega) k1 hin
 have hsv := scl_v C hs (C.z.k0 (opAt s.ops (i + 1))) (C.z.km (opAt s.ops (i + 1))) hfit
 obtain ⟨b1, b2⟩ := begin_v (i := (opAt s.ops i).isolated) (k := t.op.knockout) C.hm ha.v.head.v
 rw [elem_set C hi hk (o := chgOp 8 (opAt s.ops i)) rfl, elem_acc C hi hk, srcE]
 show stepM _ _ _ m (scaledM m (opAt s.ops i) (if (opAt s.ops i).kind = 1 then _ else grpP m (smpM s x y) (seg s.ops (i + 1) (endsM s.ops i)) false (beginA (opAt s.ops i).isolated t.op.knockout t.acc t.back)) (smpM s x y (opAt s.ops i)).2) _ _ = _
 rw [if_neg (by omega), if_neg (by omega), h2]
 have hg : grpP m (smpM s x y) (seg s.ops (i + 1) (endsM s.ops i)) false (beginA (opAt s.ops i).isolated t.op.knockout t.acc t.back) = grpP m (smpM s x y) (seg s.ops (i + 1) (endsM s.ops i)) true (beginA (opAt s.ops i).isolated t.op.knockout t.acc t.back) := by
  unfold grpP
  rw [single_acc C hi h1 h3, single_acc C hi h1 h3, h4]
  have e1 : srcE s m x y (i + 1) false (accOf (beginA (opAt s.ops i).isolated t.op.knockout t.acc t.back)) (beginA (opAt s.ops i).isolated t.op.knockout t.acc t.back) = srcE s m x y (i + 1) true (accOf (beginA (opAt s.ops i).isolated t.op.knockout t.acc t.back)) (beginA (opAt s.ops i).isolated t.op.knockout t.acc t.back) := by
   generalize beginA (opAt s.ops i).isolated t.op.knockout t.acc t.back = B at *
   have : beginA (opAt s.ops (i + 1)).isolated false (accOf B) B = beginA (opAt s.ops (i + 1)).isolated true (accOf B) B := by
    have q : (⟨(accOf B).c0, (accOf B).c1, (accOf B).c2, (accOf B).a, (accOf B).a⟩ : Pixel) = B := by
     obtain ⟨c0, c1, c2, a, f⟩ := B
     dsimp only at b2
     rw [b2]; rfl
    unfold beginA
    rw [q]; rfl
   unfold srcE
   rw [this]
  have e2 : srcE s m x y (i + 1) (beginL (opAt s.ops i) t).op.knockout (beginL (opAt s.ops i) t).acc (beginL (opAt s.ops i) t).back = srcE s m x y (i + 1) true (accOf (beginA (opAt s.ops i).isolated t.op.knockout t.acc t.back)) (beginA (opAt s.ops i).isolated t.op.knockout t.acc t.back) := by
   show srcE s m x y (i + 1) (opAt s.ops i).knockout _ _ = _
   rw [h2]; rfl
  rw [e2] at hsv
  rw [e1, step_single C.hm hsv b1]
 rw [hg]; rfl
theorem begin_z {a k : Bool} : beginA a k zAcc zPix = zPix := by
 cases a <;> cases k <;> rfl
theorem rule9 (C : Pt s m x y) {i : Nat} (hi : i < s.ops.length) (hk : (opAt s.ops i).kind ≠ 3) (h : unwM s i = true) : runL m (smpM s x y) (unwOps s i) [base] = runL m (smpM s x y) s.ops [base] := by
 have W := C.V.wf
 simp only [unwM, Bool.and_eq_true, Bool.or_eq_true, decide_eq_true_eq] at h
 obtain ⟨⟨⟨h1, hiso⟩, h3⟩, ⟨h4, hmo⟩, hun⟩ := h
 obtain ⟨k1, k2, k3⟩ := single_end C hi h1 h3
 have hel := ends_lt W hi
 have hi1 : i + 1 < s.ops.length := by omega
 obtain ⟨t, r, e⟩ := (at_i C i (by omega)).ne
 have ha := at_i C i (by omega)
 rw [e] at ha
 have hin := at_in C hi h1 ha
 have hfit := hin.fit C hi1 k1
 have hs := src_v C hi1 k1 hin
 have hB : beginA (opAt s.ops i).isolated t.op.knockout t.acc t.back = zPix := by rw [hiso]; rfl
 have hsE : srcE s m x y (i + 1) (beginL (opAt s.ops i) t).op.knockout (beginL (opAt s.ops i) t).acc (beginL (opAt s.ops i) t).back = srcE s m x y (i + 1) (opAt s.ops i).knockout zAcc zPix := by
  show srcE s m x y (i + 1) (opAt s.ops i).knockout (accOf (beginA (opAt s.ops i).isolated t.op.knockout t.acc t.back)) (beginA (opAt s.ops i).isolated t.op.knockout t.acc t.back) = _
  rw [hB]; rfl
 rw [hsE] at hs
 have hsv := scl_v C hs (C.z.k0 (opAt s.ops (i + 1))) (C.z.km (opAt s.ops (i + 1))) hfit
 -- the operations, as parts
 have e1 : s.ops = s.ops.take i ++ ((seg s.ops i (endsM s.ops i + 1)) ++ s.ops.drop (endsM s.ops i + 1)) := by
  have : seg s.ops i (endsM s.ops i + 1) ++ s.ops.drop (endsM s.ops i + 1) = s.ops.drop i := by
   conv => rhs; rw [← List.take_append_drop (endsM s.ops i + 1) s.ops]
   rw [List.drop_append_of_le_length (by rw [List.length_take]; omega)]; rfl
  rw [this, List.take_append_drop]
 have e3 : unwOps s i = s.ops.take i ++ ((unwOp s i :: seg s.ops (i + 1 + 1) (endsM s.ops (i + 1) + 1)) ++ s.ops.drop (endsM s.ops i + 1)) := by
  rw [k2]
  unfold unwOps seg
  rw [List.append_assoc, List.append_assoc]; rfl
 have e2 : runL m (smpM s x y) (s.ops.take i) [base] = t :: r := e
 have hkk : (unwOp s i).kind = (opAt s.ops (i + 1)).kind := by
  unfold unwOp unw3 unw2 unw1
  split <;> split <;> rfl
 have hk2 : (unw2 (opAt s.ops i) (unw1 s (opAt s.ops i) (opAt s.ops (i + 1)))).kind = (opAt s.ops (i + 1)).kind := by
  unfold unw2 unw1; split <;> rfl
 have hE' : Elm (unwOp s i :: seg s.ops (i + 1 + 1) (endsM s.ops (i + 1) + 1)) := by
  rcases W.kinds (i + 1) hi1 with q | q | q
  ·rw [ends_draw W hi1 q, seg_nil]; exact .draw (hkk.trans q) .nil
  ·have := ends_push W hi1 q
   rw [seg_snoc (show i + 1 + 1 ≤ endsM s.ops (i + 1) by omega) (by omega)]
   exact .grp (hkk.trans q) (elm_in W hi1 q) (grp_end W hi1 q).1 .nil
  ·exact absurd q k1
 conv => rhs; rw [e1]
 rw [e3, run_app, run_app, run_app, run_app, e2, run_elem C hi hk, run_elm hE']
 suffices hh : accL m (smpM s x y) (unwOp s i :: seg s.ops (i + 1 + 1) (endsM s.ops (i + 1) + 1)) t.op.knockout t.acc t.back = accL m (smpM s x y) (seg s.ops i (endsM s.ops i + 1)) t.op.knockout t.acc t.back by rw [hh]
 rw [elem_acc C hi hk, elem_set C hi1 k1 hkk, srcE, if_neg (show ¬ (opAt s.ops i).kind = 1 by omega), hB]
 -- the group's source is the element's
 have hg : grpP m (smpM s x y) (seg s.ops (i + 1) (endsM s.ops i)) (opAt s.ops i).knockout zPix = scaledM m (opAt s.ops (i + 1)) (srcE s m x y (i + 1) (opAt s.ops i).knockout zAcc zPix) (smpM s x y (opAt s.ops (i + 1))).2 := by
  unfold grpP
  rw [single_acc C hi h1 h3, accOf_z, h4, hmo]
  generalize scaledM m (opAt s.ops (i + 1)) (srcE s m x y (i + 1) (opAt s.ops i).knockout zAcc zPix) (smpM s x y (opAt s.ops (i + 1))).2 = p at *
  have hst : stepM (opAt s.ops i).knockout 4 1 m p zAcc zPix = accS p := by
   cases (opAt s.ops i).knockout with
   | false => exact step_fresh C.hm hsv (.inr (.inl rfl))
   | true =>
    rw [← accOf_z, step_single C.hm hsv (zPix_v C.hm), accOf_z]
    exact step_fresh C.hm hsv (.inr (.inl rfl))
  have hv := step_v (ko := (opAt s.ops i).knockout) (op := 4) (mode := 1) C.hm hsv (zAcc_v C.hm) (.inl rfl)
  rw [hst] at hv ⊢
  exact result_iso C.hm hv rfl
 rw [hg]
 -- the new element's source
 have hsrc : (if (unwOp s i).kind = 1 then (smpM s x y (unwOp s i)).1 else grpP m (smpM s x y) (seg s.ops (i + 1 + 1) (endsM s.ops (i + 1))) (unwOp s i).knockout (beginA (unwOp s i).isolated t.op.knockout t.acc t.back)) = srcE s m x y (i + 1) (opAt s.ops i).knockout zAcc zPix := by
  unfold srcE
  rw [hkk]
  split
  ·rename_i q
   have : unwOp s i = unw2 (opAt s.ops i) (unw1 s (opAt s.ops i) (opAt s.ops (i + 1))) := by
    unfold unwOp unw3
    rw [if_neg (by rw [hk2]; omega)]
   rw [this]
   unfold unw2 unw1
   by_cases hu : unscM s (opAt s.ops (i + 1)) = true
   ·rw [if_pos hu]; rfl
   ·rw [if_neg hu]; rfl
  ·rename_i q
   have q2 : (opAt s.ops (i + 1)).kind = 2 := by
    rcases W.kinds (i + 1) hi1 with k | k | k
    ·exact absurd k q
    ·exact k
    ·exact absurd k k1
   have a1 : (unwOp s i).isolated = true := by
    unfold unwOp unw3
    rw [if_pos (hk2.trans q2)]
   have a2 : (unwOp s i).knockout = (opAt s.ops (i + 1)).knockout := by
    unfold unwOp unw3
    rw [if_pos (hk2.trans q2)]
    unfold unw2 unw1
    by_cases hu : unscM s (opAt s.ops (i + 1)) = true
    ·rw [if_pos hu]
    ·rw [if_neg hu]
   rw [a1, a2, begin_z]; rfl
 rw [hsrc]
 have aop : (unwOp s i).operator = (opAt s.ops i).operator ∧ (unwOp s i).mode = (opAt s.ops i).mode := by
  unfold unwOp unw3 unw2
  split <;> exact ⟨rfl, rfl⟩
 rw [aop.1, aop.2]
 congr 1
 generalize srcE s m x y (i + 1) (opAt s.ops i).knockout zAcc zPix = p at *
 have full : ∀ o, unscM s o = true → ∀ p k, scaledM m o p k = p := fun o ho p k => by
  simp only [unscM, Bool.and_eq_true, decide_eq_true_eq, C.mx] at ho
  exact scaled_full C.hm ho.2 (.inl ho.1)
 by_cases hu : unscM s (opAt s.ops (i + 1)) = true
 ·rw [full _ hu]
  have b1 : (unwOp s i).mask = (opAt s.ops i).mask ∧ (unwOp s i).maskX = (opAt s.ops i).maskX ∧ (unwOp s i).maskY = (opAt s.ops i).maskY ∧ (unwOp s i).opacity = (opAt s.ops i).opacity := by
   unfold unwOp unw3 unw2 unw1
   rw [if_pos hu]
   split <;> exact ⟨rfl, rfl, rfl, rfl⟩
  obtain ⟨b1, b2, b3, b4⟩ := b1
  have b5 : (smpM s x y (unwOp s i)).2 = (smpM s x y (opAt s.ops i)).2 := by
   unfold smpM
   dsimp only
   rw [b1, b2, b3]
  rw [b5]
  unfold scaledM
  rw [b1, b4]
 ·have ho := hun.resolve_left hu
  rw [full _ ho]
  have b1 : (unwOp s i).mask = (opAt s.ops (i + 1)).mask ∧ (unwOp s i).maskX = (opAt s.ops (i + 1)).maskX ∧ (unwOp s i).maskY = (opAt s.ops (i + 1)).maskY ∧ (unwOp s i).opacity = (opAt s.ops (i + 1)).opacity := by
   unfold unwOp unw3 unw2 unw1
   rw [if_neg hu]
   split <;> exact ⟨rfl, rfl, rfl, rfl⟩
  obtain ⟨b1, b2, b3, b4⟩ := b1
  have b5 : (smpM s x y (unwOp s i)).2 = (smpM s x y (opAt s.ops (i + 1))).2 := by
   unfold smpM
   dsimp only
   rw [b1, b2, b3]
  rw [b5]
  unfold scaledM
  rw [b1, b4]
theorem rule_val (C : Pt s m x y) {n i : Int} (h : apM s n i = true) : valueM (withOps s (rwM s n.toNat i.toNat)) x y = valueM s x y := by
 simp only [apM, Bool.and_eq_true, Bool.not_eq_true', decide_eq_true_eq, decide_eq_false_iff_not] at h
 obtain ⟨⟨⟨⟨⟨h1, h2⟩, h3⟩, h4⟩, h5⟩, h6⟩ := h
 obtain ⟨k, rfl⟩ := Int.eq_ofNat_of_zero_le h3
 rw [Int.toNat_natCast] at *
 have hi : k < s.ops.length := by omega
 suffices hh : runL m (smpM s x y) (rwM s n.toNat k) [base] = runL m (smpM s x y) s.ops [base] by
  show valL (maxOf s.bits) (runL (maxOf s.bits) (smpM s x y) (rwM s n.toNat k) [base]) = _
  unfold valueM
  rw [C.mx, hh]
 have hv : n = 1 ∨ n = 2 ∨ n = 3 ∨ n = 4 ∨ n = 5 ∨ n = 6 ∨ n = 7 ∨ n = 8 ∨ n = 9 := by omega
 rcases hv with rfl | rfl | rfl | rfl | rfl | rfl | rfl | rfl | rfl
 ·exact rule1 C hi h5 h6
 ·exact rule2 C hi h5 h6
 ·exact rule3 C hi h5 h6
 ·exact rule4 C hi h5 h6
 ·exact rule5 C hi h5 h6
 ·exact rule6 C hi h5 h6
 ·exact rule7 C hi h5 h6
 ·exact rule8 C hi h5 h6
 ·exact rule9 C hi h5 h6
end
end Go.Proofs.YtlblgkelhibdoaaGreatDoor
