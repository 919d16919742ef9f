/- Part of the proof: EP, E4, ER, E7, E8, E9, EA, VE. -/
import Derived.Test.YtlblgkelhibdoaaGreatDoorM59
set_option linter.unusedSimpArgs false
set_option linter.unusedVariables false
set_option maxRecDepth 8000
set_option maxHeartbeats 2000000
namespace Go.Proofs.YtlblgkelhibdoaaGreatDoor
open Go Go.SL
def wtOp (o : Op) : Nat := (if o.mask = 0 then 0 else 1) + (if o.kind = 2 ∧ o.isolated = false then 1 else 0) + (if o.operator = 4 ∧ o.mode = 1 then 0 else 1) + (if o.knockout = true then 1 else 0) + (if o.kind = 3 then 0 else 1)
theorem wt_pos {o : Op} (h : o.kind ≠ 3) : 1 ≤ wtOp o := by rw [wtOp, if_neg h]; omega
theorem wt_unw (s : Script) (o k : Op) (ho : o.kind = 2) (hi : o.isolated = true) (h4 : k.operator = 4) (h1 : k.mode = 1) : wtOp (unw3 (unw2 o (unw1 s o k))) < wtOp o + wtOp k := by
 have e1 : (unw1 s o k).kind = k.kind := by unfold unw1; split <;> rfl
 have e2 : (unw1 s o k).knockout = k.knockout := by unfold unw1; split <;> rfl
 have e3 : (if (unw1 s o k).mask = 0 then 0 else 1) ≤ (if o.mask = 0 then 0 else 1) + (if k.mask = 0 then 0 else 1) := by
  unfold unw1
  split
  ·dsimp only; exact Nat.le_add_right _ _
  ·exact Nat.le_add_left _ _
 have e : wtOp (unw3 (unw2 o (unw1 s o k))) ≤ (if (unw1 s o k).mask = 0 then 0 else 1) + (if k.kind = 2 ∧ k.isolated = false then 1 else 0) + (if o.operator = 4 ∧ o.mode = 1 then 0 else 1) + (if k.knockout = true then 1 else 0) + (if k.kind = 3 then 0 else 1) := by
  unfold unw3
  have k1 : (unw2 o (unw1 s o k)).kind = k.kind := e1
  by_cases hk : k.kind = 2
  ·rw [if_pos (by rw [k1]; exact hk)]
   simp only [wtOp, unw2, e1, e2]
   rw [if_neg (c := k.kind = 2 ∧ true = false) (by simp)]
   omega
  ·rw [if_neg (by rw [k1]; exact hk)]
   simp only [wtOp, unw2, e1, e2, hk, false_and]
   exact Nat.le_refl _
 have f1 : wtOp o = (if o.mask = 0 then 0 else 1) + 0 + (if o.operator = 4 ∧ o.mode = 1 then 0 else 1) + (if o.knockout = true then 1 else 0) + 1 := by
  rw [wtOp, if_neg (c := o.kind = 2 ∧ _) (by simp [hi]), if_neg (c := o.kind = 3) (by omega)]
 have f2 : wtOp k = (if k.mask = 0 then 0 else 1) + (if k.kind = 2 ∧ k.isolated = false then 1 else 0) + 0 + (if k.knockout = true then 1 else 0) + (if k.kind = 3 then 0 else 1) := by
  rw [wtOp, if_pos (c := k.operator = 4 ∧ _) ⟨h4, h1⟩]
 omega
theorem wt5 {o : Op} (h : o.mask ≠ 0) : wtOp (chgOp 5 o) < wtOp o := by
 have e : wtOp (chgOp 5 o) = (if (0 : Int) = 0 then 0 else 1) + (if o.kind = 2 ∧ o.isolated = false then 1 else 0) + (if o.operator = 4 ∧ o.mode = 1 then 0 else 1) + (if o.knockout = true then 1 else 0) + (if o.kind = 3 then 0 else 1) := rfl
 have f : wtOp o = (if o.mask = 0 then 0 else 1) + (if o.kind = 2 ∧ o.isolated = false then 1 else 0) + (if o.operator = 4 ∧ o.mode = 1 then 0 else 1) + (if o.knockout = true then 1 else 0) + (if o.kind = 3 then 0 else 1) := rfl
 rw [e, f, if_neg h, if_pos rfl]; omega
theorem wt6 {o : Op} (h : o.kind = 2) (h2 : o.isolated = false) : wtOp (chgOp 6 o) < wtOp o := by
 have e : wtOp (chgOp 6 o) = (if o.mask = 0 then 0 else 1) + (if o.kind = 2 ∧ true = false then 1 else 0) + (if o.operator = 4 ∧ o.mode = 1 then 0 else 1) + (if o.knockout = true then 1 else 0) + (if o.kind = 3 then 0 else 1) := rfl
 have f : wtOp o = (if o.mask = 0 then 0 else 1) + (if o.kind = 2 ∧ o.isolated = false then 1 else 0) + (if o.operator = 4 ∧ o.mode = 1 then 0 else 1) + (if o.knockout = true then 1 else 0) + (if o.kind = 3 then 0 else 1) := rfl
 rw [e, f, if_pos (c := o.kind = 2 ∧ o.isolated = false) ⟨h, h2⟩, if_neg (c := o.kind = 2 ∧ true = false) (by simp)]; omega
theorem wt7 {o : Op} (h : ¬ (o.operator = 4 ∧ o.mode = 1)) : wtOp (chgOp 7 o) < wtOp o := by
 have e : wtOp (chgOp 7 o) = (if o.mask = 0 then 0 else 1) + (if o.kind = 2 ∧ o.isolated = false then 1 else 0) + (if (4 : Int) = 4 ∧ (1 : Int) = 1 then 0 else 1) + (if o.knockout = true then 1 else 0) + (if o.kind = 3 then 0 else 1) := rfl
 have f : wtOp o = (if o.mask = 0 then 0 else 1) + (if o.kind = 2 ∧ o.isolated = false then 1 else 0) + (if o.operator = 4 ∧ o.mode = 1 then 0 else 1) + (if o.knockout = true then 1 else 0) + (if o.kind = 3 then 0 else 1) := rfl
 rw [e, f, if_neg h, if_pos (c := (4 : Int) = 4 ∧ (1 : Int) = 1) (by decide)]; omega
theorem wt8 {o : Op} (h : o.knockout = true) : wtOp (chgOp 8 o) < wtOp o := by
 have e : wtOp (chgOp 8 o) = (if o.mask = 0 then 0 else 1) + (if o.kind = 2 ∧ o.isolated = false then 1 else 0) + (if o.operator = 4 ∧ o.mode = 1 then 0 else 1) + (if false = true then 1 else 0) + (if o.kind = 3 then 0 else 1) := rfl
 have f : wtOp o = (if o.mask = 0 then 0 else 1) + (if o.kind = 2 ∧ o.isolated = false then 1 else 0) + (if o.operator = 4 ∧ o.mode = 1 then 0 else 1) + (if o.knockout = true then 1 else 0) + (if o.kind = 3 then 0 else 1) := rfl
 rw [e, f, if_pos h, if_neg (c := false = true) (by decide)]; omega
theorem wt_less {s : Script} (W : Wf s.ops) {n i : Int} (h : apM s n i = true) : sumW wtOp (rwM s n.toNat i.toNat) < sumW wtOp s.ops := by
 obtain ⟨h1, h2, h3, h4, h5⟩ := apM_lt h
 have hn : n = 1 ∨ n = 2 ∨ n = 3 ∨ n = 4 ∨ n = 5 ∨ n = 6 ∨ n = 7 ∨ n = 8 ∨ n = 9 := by omega
 have hcut : n ≤ 4 → sumW wtOp (rwM s n.toNat i.toNat) < sumW wtOp s.ops := by
  intro hn
  rw [rwM, if_pos (by omega)]
  have := sum_cut wtOp W h3
  have := wt_pos h4
  omega
 have hset : (5 ≤ n ∧ n ≤ 8) → wtOp (chgOp n.toNat (opAt s.ops i.toNat)) < wtOp (opAt s.ops i.toNat) → sumW wtOp (rwM s n.toNat i.toNat) < sumW wtOp s.ops := by
  intro hn hw
  rw [rwM, if_neg (by omega), if_neg (by omega)]
  have := sum_set wtOp h3 (chgOp n.toNat (opAt s.ops i.toNat))
  omega
 rcases hn with hn | hn | hn | hn | hn | hn | hn | hn | hn
 ·exact hcut (by omega)
 ·exact hcut (by omega)
 ·exact hcut (by omega)
 ·exact hcut (by omega)
 ·refine hset (by omega) ?_
  subst hn
  have hu : mskM s i.toNat = true := h5
  simp only [mskM, fullM, smB, Bool.and_eq_true, Bool.not_eq_true', decide_eq_false_iff_not] at hu
  exact wt5 hu.1.1.1
 ·refine hset (by omega) ?_
  subst hn
  have hu : iseM s i.toNat = true := h5
  simp only [iseM, Bool.and_eq_true, Bool.not_eq_true', decide_eq_true_eq] at hu
  exact wt6 hu.1.1.1 hu.1.1.2
 ·refine hset (by omega) ?_
  subst hn
  have hu : nrmM s i.toNat = true := h5
  have : ¬ ((opAt s.ops i.toNat).operator = 4 ∧ (opAt s.ops i.toNat).mode = 1) := by
   rintro ⟨a, b⟩
   rw [nrmM, a, b] at hu
   cases koM s i.toNat <;> simp at hu
  exact wt7 this
 ·refine hset (by omega) ?_
  subst hn
  have hu : sngM s i.toNat = true := h5
  simp only [sngM, Bool.and_eq_true, decide_eq_true_eq] at hu
  exact wt8 hu.1.2
 ·subst hn
  have hu : unwM s i.toNat = true := h5
  simp only [unwM, Bool.and_eq_true, Bool.or_eq_true, decide_eq_true_eq] at hu
  obtain ⟨⟨⟨k1, k2⟩, k3⟩, ⟨k4, k5⟩, k6⟩ := hu
  obtain ⟨he, hk3⟩ := kid_next W h3 k1 (by rw [k3]; exact Nat.le_refl _)
  have hl := ends_lt W h3
  have := sum_unw wtOp W (i := i.toNat) (by omega) k1 he
  show sumW wtOp (rwM s 9 i.toNat) < _
  rw [rwM, if_neg (by decide), if_pos (by decide)]
  have hw : wtOp (unwOp s i.toNat) < wtOp (opAt s.ops i.toNat) + wtOp (opAt s.ops (i.toNat + 1)) := wt_unw s _ _ k1 k2 k4 k5
  omega
end Go.Proofs.YtlblgkelhibdoaaGreatDoor
set_option maxHeartbeats 2000000
set_option maxRecDepth 16000
namespace Go.Proofs.YtlblgkelhibdoaaGreatDoor
open Go Go.SL
open Go.RowKit (wrap64)
theorem cloneOps_spec (n : Nat) (g : Nat → Nat → PV) (hn : n ≤ 1000000000) : Pure Sg 116 [.c (.p (.lst 12 n g))] (fun x => x = .b (.c (.p (.lst 12 n g)))) := by
 rcases Nat.eq_zero_or_pos n with h0 | h0
 ·subst h0
  refine pure_lst0 fun a c => ?_
  cases a with
  | none =>
   refine pure_le ?_
   refine fn_a Tryz.func116 [.tmp 2] ?_
   repeat' (first | refine un_a ?_ | (refine st_a (fun K hK => ?_); and_intros; (all_goals first | (refine hK _ ?_; clear hK K) | exact auto_cl | skip)) | (refine if_a (fun hb => ?_) (fun hb => ?_); all_goals try exact bad_a) | (refine ret_a ?_; (try clear hB KB); (try clear hK K)))
   exact sle_b (ble_c nil_le)
  | some a =>
   refine pure_le ?_
   refine fn_a Tryz.func116 [.tmp 2] ?_
   repeat' (first | refine un_a ?_ | ((with_reducible refine cw_stepV (id := 1) (fun K hW => ?_)); (try simp (maxSteps := 1000000) (disch := omega) only [go_sem]); and_intros; (all_goals first | (refine hK _ ?_; clear hK K) | exact auto_cl | skip)) | (refine st_a (fun K hK => ?_); and_intros; (all_goals first | (refine hK _ ?_; clear hK K) | exact auto_cl | skip)))
   refine hW _ (mkSt [(0, .b (.c (.p (.lst 12 0 g)))), (4, .b (B false))] [] 1) ?_ ?_
   ·refine le_a [] ?_ ?_
    and_intros
    all_goals first | exact le_cl | skip
    exact le_lst0
   clear hW
   repeat' (first | refine un_a ?_ | (refine st_a (fun K hK => ?_); and_intros; (all_goals first | (refine hK _ ?_; clear hK K) | exact auto_cl | skip)) | (refine if_a (fun hb => ?_) (fun hb => ?_); all_goals try exact bad_a) | (refine ret_a ?_; (try clear hB KB); (try clear hK K)))
   ·exact absurd hb (by decide)
   ·first | exact sle_b (ble_c appF0) | exact sle_b (ble_c lst_le0)
 ·refine pure_le ?_
  refine fn_a Tryz.func116 [.tmp 2] ?_
  repeat' (first | refine un_a ?_ | (refine st_a (fun K hK => ?_); and_intros; (all_goals first | (refine hK _ ?_; clear hK K) | exact auto_cl | skip)) | (refine if_a (fun hb => ?_) (fun hb => ?_); all_goals try exact bad_a) | (refine ret_a ?_; (try clear hB KB); (try clear hK K)))
  ·exact absurd hb (by decide)
  ·exact sle_b (ble_c appF0)
end Go.Proofs.YtlblgkelhibdoaaGreatDoor
set_option maxRecDepth 8000
set_option maxHeartbeats 2000000
namespace Go.Proofs.YtlblgkelhibdoaaGreatDoor
open Go Go.SL
theorem red_none {s : Script} (h : (redM s).head? = none) : redM s = [] := by
 cases hl : redM s with
 | nil => rfl
 | cons a t => rw [hl] at h; cases h
end Go.Proofs.YtlblgkelhibdoaaGreatDoor
set_option maxHeartbeats 2000000
set_option maxRecDepth 16000
namespace Go.Proofs.YtlblgkelhibdoaaGreatDoor
open Go Go.SL
open Go.RowKit (wrap64)
attribute [local go_sem] Int.toNat_natCast vP vf0 vf1 vf2 vf3 vf4 vf5 vf6 vf7 vf8 vf9 vf10 vf11 vf12 vf13 vf14 rxE tiF1 tiF2 tiF3 flR0 flR1 elR
theorem rxAt_pre (s : Script) (i : Nat) {n m : Nat} (h : n ≤ m) : ∃ r, rxAt s i m = rxAt s i n ++ r := by
 induction m with
 | zero => exact ⟨[], by rw [show n = 0 by omega, List.append_nil]⟩
 | succ m ih =>
  rcases Nat.lt_or_ge n (m + 1) with h1 | h1
  ·obtain ⟨r, hr⟩ := ih (by omega)
   rw [rxAt_succ, hr, List.append_assoc]
   exact ⟨_, rfl⟩
  ·exact ⟨[], by rw [show n = m + 1 by omega, List.append_nil]⟩
theorem rxTo_pre (s : Script) {n m : Nat} (h : n ≤ m) : ∃ r, rxTo s m = rxTo s n ++ r := by
 induction m with
 | zero => exact ⟨[], by rw [show n = 0 by omega, List.append_nil]⟩
 | succ m ih =>
  rcases Nat.lt_or_ge n (m + 1) with h1 | h1
  ·obtain ⟨r, hr⟩ := ih (by omega)
   rw [rxTo_succ, hr, List.append_assoc]
   exact ⟨_, rfl⟩
  ·exact ⟨[], by rw [show n = m + 1 by omega, List.append_nil]⟩
theorem rx_head {s : Script} {i n : Nat} (hi : i < s.ops.length) (hn : n < 10) (h0 : rxTo s i = []) (h1 : rxAt s i n = []) (ha : apM s n i = true) : (rxTo s s.ops.length).head? = some ((n : Int), (i : Int)) := by
 obtain ⟨r, hr⟩ := rxTo_pre s (n := i + 1) (m := s.ops.length) hi
 obtain ⟨q, hq⟩ := rxAt_pre s i (n := n + 1) (m := 10) hn
 rw [hr, rxTo_succ, h0, hq, rxAt_succ, h1, if_pos ha]
 rfl
theorem First_no (s : Script) (hs : ScriptLen s) (he : (opsM s).1 ≠ 0) : Pure Sg 117 [ag (scriptE s)] (fun x => x = .tup [ag [PI 0, PI 0], B false]) := by
 have h1 := look_no s hs he
 refine fn_a Tryz.func117 [.cell 2 65, .tmp 3] ?_
 repeat' (first | refine un_a ?_ | ((first | refine st_a (fun K hK => ?_) | refine call_c (h1) ?_); and_intros; (all_goals first | (refine hK _ ?_; clear hK K) | exact auto_cl | skip)) | (refine if_a (fun hb => ?_) (fun hb => ?_); all_goals try exact bad_a) | (refine ret_a ?_; (try clear hB KB); (try clear hK K)))
 ·rfl
 ·exact absurd hb (by decide)
def firstV (l : List Rx) : SV := match l with | [] => .tup [ag [PI 0, PI 0], B false] | r :: _ => .tup [ag (rxE r), B true]
theorem firstV_nil {l : List Rx} (h : l = []) : firstV l = .tup [ag [PI 0, PI 0], B false] := by rw [h]; rfl
theorem firstV_head {l : List Rx} {r : Rx} (h : l.head? = some r) : firstV l = .tup [ag (rxE r), B true] := by
 cases l with
 | nil => cases h
 | cons a t => rw [List.head?_cons, Option.some.injEq] at h; rw [h]; rfl
theorem First_yes (s : Script) (V : VOps s) (hs : ScriptLen s) : Pure Sg 117 [ag (scriptE s)] (fun x => x = firstV (redM s)) := by
 have hn := V.cnt
 have h1 := look_spec s V hs (ops_ok V)
 rw [redM, if_pos (ops_ok V)]
 refine fn_a Tryz.func117 [.cell 2 65, .tmp 3] ?_
 repeat' (first | refine un_a ?_ | ((first | refine st_a (fun K hK => ?_) | refine call_c (h1) ?_); and_intros; (all_goals first | (refine hK _ ?_; clear hK K) | exact auto_cl | skip)) | (refine if_a (fun hb => ?_) (fun hb => ?_); all_goals try exact bad_a) | (refine ret_a ?_; (try clear hB KB); (try clear hK K)))
 ·exact absurd hb (by decide)
 refine cw_loop (X := Nat) (fun i => mkSt [(1, .b (.c (.ptr 0 0))), (2, .b (.c (.ptr 1 0))), (4, .b (vP s)), (18, .b (I s.ops.length)), (19, .b (I i))]
  [(0, .fix ((scriptE s).map CV.p)), (1, .fix [.p (PI 0), .p (PI 0)])] 2) (fun i => i ≤ s.ops.length ∧ rxTo s i = []) (fun i => s.ops.length - i) 0 ?_ ?_ ?_
 ·exact ⟨Nat.zero_le _, rfl⟩
 ·refine le_a [(1, some 1)] ?_ ?_
  and_intros
  all_goals first | exact le_cl | skip
 ·rintro i ⟨hi, h0⟩
  rcases Nat.lt_or_ge i s.ops.length with hlt | hge
  ·repeat' (first | refine un_a ?_ | ((first | refine st_a (fun K hK => ?_) | refine call_c (table_sp) ?_); and_intros; (all_goals first | (refine hK _ ?_; clear hK K) | exact auto_cl | skip)) | (refine if_a (fun hb => ?_) (fun hb => ?_); all_goals try exact bad_a))
   refine cw_loop (X := Nat) (fun n => mkSt [(1, .b (.c (.ptr 0 0))), (2, .b (.c (.ptr 1 0))), (4, .b (vP s)), (6, .b (I i)), (18, .b (I s.ops.length)), (19, .b (I i)), (23, .b (I 10)), (24, .b (I n))]
    [(0, .fix ((scriptE s).map CV.p)), (1, .fix [.p (PI 0), .p (PI 0)])] 2) (fun n => n ≤ 10 ∧ rxAt s i n = []) (fun n => 10 - n) 0 ?_ ?_ ?_
   ·exact ⟨Nat.zero_le _, rfl⟩
   ·refine le_a [(1, some 1)] ?_ ?_
    and_intros
    all_goals first | exact le_cl | skip
   ·rintro n ⟨hn10, h2⟩
    rcases Nat.lt_or_ge n 10 with hnl | hng
    ·by_cases ha : apM s n i = true
     ·repeat' (first | refine dec_a ha ?_ | refine un_a ?_ | ((first | refine st_a (fun K hK => ?_) | refine call_c (applies_sp s V hs n i) ?_); and_intros; (all_goals first | (refine hK _ ?_; clear hK K) | exact auto_cl | skip)) | (refine if_a (fun hb => ?_) (fun hb => ?_); all_goals try exact bad_a) | (refine ret_a ?_; (try clear hB KB); (try clear hK K)))
      rw [firstV_head (rx_head hlt hnl h0 h2 ha)]
      rfl
     ·have e : rxAt s i (n + 1) = [] := by rw [rxAt_succ, if_neg ha, h2]; rfl
      rw [Bool.not_eq_true] at ha
      repeat' (first | refine dec_a ha ?_ | refine un_a ?_ | ((first | refine st_a (fun K hK => ?_) | refine call_c (applies_sp s V hs n i) ?_); and_intros; (all_goals first | (refine hK _ ?_; clear hK K) | exact auto_cl | skip)) | (refine if_a (fun hb => ?_) (fun hb => ?_); all_goals try exact bad_a))
      rw [thenQ_normal]
      refine wk_loop (n + 1) ?_ ⟨by omega, e⟩ (by omega)
      refine le_a [(1, some 1)] ?_ ?_
      and_intros
      all_goals first | exact le_cl | skip
    ·have hn2 : n = 10 := by omega
     subst hn2
     repeat' (first | refine un_a ?_ | (refine st_a (fun K hK => ?_); and_intros; (all_goals first | (refine hK _ ?_; clear hK K) | exact auto_cl | skip)) | (refine if_a (fun hb => ?_) (fun hb => ?_); all_goals try exact bad_a))
     rw [thenQ_normal]
     refine wk_loop (i + 1) ?_ ⟨by omega, by rw [rxTo_succ, h0, h2]; rfl⟩ (by omega)
     refine le_a [(1, some 1)] ?_ ?_
     and_intros
     all_goals first | exact le_cl | skip
  ·have hi2 : i = s.ops.length := by omega
   subst hi2
   repeat' (first | refine un_a ?_ | (refine st_a (fun K hK => ?_); and_intros; (all_goals first | (refine hK _ ?_; clear hK K) | exact auto_cl | skip)) | (refine if_a (fun hb => ?_) (fun hb => ?_); all_goals try exact bad_a) | (refine ret_a ?_; (try clear hB KB); (try clear hK K)))
   rw [firstV_nil h0]
   rfl
end Go.Proofs.YtlblgkelhibdoaaGreatDoor
set_option maxHeartbeats 2000000
set_option maxRecDepth 16000
namespace Go.Proofs.YtlblgkelhibdoaaGreatDoor
open Go Go.SL
open Go.RowKit (wrap64)
attribute [local go_sem] Int.toNat_natCast rxE
attribute [local go_sem] withB
theorem First_sp (s : Script) (hs : ScriptLen s) : Pure Sg 117 [ag (scriptE s)] (fun x => x = firstV (redM s)) := by
 by_cases he : (opsM s).1 = 0
 ·exact First_yes s (vops_of he) hs
 ·rw [firstV_nil (show redM s = [] by rw [redM, if_neg he])]
  exact First_no s hs he
theorem Normal_sp (s : Script) (hs : ScriptLen s) : Pure Sg 61 [ag (scriptE s)] (fun x => x = .b (B (decide (redM s = [])))) := by
 have h1 := First_sp s hs
 cases hr : redM s with
 | nil =>
  rw [firstV_nil hr] at h1
  refine fn_a Tryz.func61 [.tmp 2] ?_
  repeat' (first | ((first | refine st_a (fun K hK => ?_) | refine call_c (h1) ?_); and_intros; (all_goals first | (refine hK _ ?_; clear hK K) | exact auto_cl | skip)) | (refine ret_a ?_; (try clear hB KB); (try clear hK K)))
  rfl
 | cons r t =>
  rw [firstV_head (r := r) (by rw [hr]; rfl)] at h1
  refine fn_a Tryz.func61 [.tmp 2] ?_
  repeat' (first | ((first | refine st_a (fun K hK => ?_) | refine call_c (h1) ?_); and_intros; (all_goals first | (refine hK _ ?_; clear hK K) | exact auto_cl | skip)) | (refine ret_a ?_; (try clear hB KB); (try clear hK K)))
  rfl
end Go.Proofs.YtlblgkelhibdoaaGreatDoor
set_option maxHeartbeats 2000000
set_option maxRecDepth 16000
namespace Go.Proofs.YtlblgkelhibdoaaGreatDoor
open Go Go.SL
open Go.RowKit (wrap64)
attribute [local go_sem] Int.toNat_natCast rxE
def runM (s : Script) : List Op × List Rx := runGo (sumW wtOp s.ops + 1) s
theorem len_with {s : Script} (hs : ScriptLen s) {l : List Op} (h : l.length ≤ 1000000) : ScriptLen (withOps s l) := ⟨hs.order, hs.images, by show l.length ≤ _; omega⟩
theorem wt_bnd : ∀ l : List Op, sumW wtOp l ≤ 5 * l.length
 | [] => Nat.le_refl _
 | o :: l => by
  have := wt_bnd l
  have h : wtOp o ≤ 5 := by
   unfold wtOp
   split <;> split <;> split <;> split <;> split <;> omega
  rw [sumW_cons, List.length_cons]
  omega
attribute [local go_sem] zerosB
theorem run_sp (s : Script) (hs : ScriptLen s) (H : Sml s) (ho : s.ops.length ≤ 1000000) :
  Pure Sg 60 [ag (scriptE s)] (fun x => x = .tup [ag (scriptE (withOps s (runM s).1)), .c (.p (.lst 2 (runM s).2.length (fnOf rxE (runM s).2)))]) := by
 have h1 := cloneOps_spec s.ops.length (fnOf opE s.ops) (by omega)
 have h2 := With_sp s s.ops H (by omega)
 have hwb := wt_bnd s.ops
 refine pure_le ?_
 refine fn_a Tryz.func60 [.cell 2 36, .tmp 3] ?_
 repeat' (first | ((with_reducible refine cw_stepV (id := 1) (fun K hW => ?_)); (try simp (maxSteps := 1000000) (disch := omega) only [go_sem]); and_intros; (all_goals first | (refine hK _ ?_; clear hK K) | exact auto_cl | skip)) | (refine st_a (fun K hK => ?_); and_intros; (all_goals first | (refine hK _ ?_; clear hK K) | exact auto_cl | skip)))
 refine hW _ (mkSt [(1, .b (.c (.ptr 0 0))), (2, .b (.c (.ptr 1 0))), (4, .b (.c (.p (.val (.slice none 0 0)))))] [(0, .fix ((scriptE s).map CV.p)), (1, zerosB)] 2) ?_ ?_
 ·refine le_a [(1, some 1)] ?_ ?_
  and_intros
  all_goals first | exact le_cl | skip
 clear hW
 refine cw_stepR (id := 2) (.br 1 (.br 2 (.br 0 (.br 3 (.br 4 (.br 5 (.br 6 .leaf .nil) .nil) (.br 5 (.br 4 (.br 6 .leaf .nil) .nil) .nil)) (.br 5 (.br 3 (.br 4 (.br 6 .leaf .nil) .nil) .nil) .nil)) (.br 3 (.br 0 (.br 4 (.br 5 (.br 6 .leaf .nil) .nil) (.br 5 (.br 4 (.br 6 .leaf .nil) .nil) .nil)) .nil) (.br 5 (.br 0 (.br 3 (.br 4 (.br 6 .leaf .nil) .nil) .nil) (.br 3 (.br 0 (.br 4 (.br 6 .leaf .nil) .nil) .nil) .nil)) .nil))) .nil) .nil) (by decide +kernel) (by (first | (refine And.intro (fun iw hiw => ?_) ?_; (focus ((try simp (maxSteps := 1000000) (disch := omega) only [go_sem] at hiw ⊢); (repeat (refine Eq.trans (if_neg ?_) ?_; (focus omega))); exact hw iw (by omega))); (focus (first | exact Nat.zero_le _ | (simp (maxSteps := 1000000) (disch := omega) only [go_sem]; done) | (simp (maxSteps := 1000000) (disch := omega) only [go_sem]; omega)))) | exact wf_a)) (fun K0 hW => ?_)
 refine (fun (tl : ∀ st, Le st (mkSt [(2, .b (.c (.ptr 1 0))), (4, .b (.c (.p (.val (.slice none 0 0))))), (5, .b (.c (.ptr 2 0)))] [(1, zerosB), (2, .fix ((scriptE s).map CV.p))] 3) → K0 st) => ?_) (fun st hl => hW st _ hl ?_)
 ·clear hW
  repeat' (first | exact tree_nil | (refine tree_br (fun K' hK' => ?_) ?_) | (refine tree_leaf (tl _ ?_); clear tl) | ((first | refine call_c (h1) ?_ | refine call_c (h2) ?_); (try simp (maxSteps := 1000000) (disch := omega) only [go_sem]); and_intros; (all_goals first | (refine hK' _ ?_; clear hK' K') | trivial | omega | exact Nat.le_of_ble_eq_true rfl | exact auto_cl | skip)) | (simp (maxSteps := 1000000) (disch := omega) only [go_sem]; and_intros; (all_goals first | (refine hK' _ ?_; clear hK' K') | trivial | omega | exact Nat.le_of_ble_eq_true rfl | exact auto_cl | skip)))
  all_goals
   refine le_a [(1, some 1), (2, some 2)] ?_ ?_
   and_intros
   all_goals first | exact le_cl | skip
 clear hW
 repeat' (refine un_a ?_)
 refine cw_loop (X := Nat × List Op × List Rx) (fun x => mkSt [(2, .b (.c (.ptr 1 0))), (4, .b (.c (.own 3 x.2.2.length))), (5, .b (.c (.ptr 2 0)))] [(1, zerosB), (2, .fix ((scriptE (withOps s x.2.1)).map CV.p)), (3, .arr 65 2 x.2.2.length (fnOf rxE x.2.2))] 4)
  (fun x => sumW wtOp x.2.1 < x.1 ∧ x.2.1.length ≤ 1000000 ∧ x.2.2.length + x.1 ≤ 5000001 ∧ runM s = ((runGo x.1 (withOps s x.2.1)).1, x.2.2 ++ (runGo x.1 (withOps s x.2.1)).2)) (fun x => x.1) (sumW wtOp s.ops + 1, s.ops, []) ?_ ?_ ?_
 ·exact ⟨Nat.lt_succ_self _, ho, by dsimp only [List.length_nil]; omega, rfl⟩
 ·refine le_a [(1, some 1), (2, some 2), (3, none)] ?_ ?_
  and_intros
  all_goals first | exact le_cl | skip
 ·rintro ⟨f, cur, steps⟩ ⟨i1, i2, i3, i4⟩
  dsimp only at i1 i2 i3 i4 ⊢
  have hs2 := len_with hs i2
  have hf := First_sp (withOps s cur) hs2
  cases hr : (redM (withOps s cur)).head? with
  | none =>
   rw [firstV_nil (red_none hr)] at hf
   rw [run_none hr] at i4
   repeat' (first | refine un_a ?_ | ((first | refine st_a (fun K hK => ?_) | refine call_c (hf) ?_); and_intros; (all_goals first | (refine hK _ ?_; clear hK K) | exact auto_cl | skip)) | (refine if_a (fun hb => ?_) (fun hb => ?_); all_goals try exact bad_a) | (refine ret_a ?_; (try clear hB KB); (try clear hK K)))
   ·have e : runM s = (cur, steps) := by rw [i4]; exact congrArg (fun q => (cur, q)) (List.append_nil _)
    rw [e]
    refine sle_tup ⟨ble_agg ?_, ble_rfl trivial, trivial⟩
    simp only [List.map_cons, List.map_nil, cleL_cons, cleL_nil]
    and_intros
    all_goals first | exact .inl rfl | exact .inl trivial | exact .inr nil_le | trivial | skip
  | some r =>
   rw [firstV_head hr] at hf
   obtain ⟨f, rfl⟩ : ∃ g, f = g + 1 := ⟨f - 1, by omega⟩
   rw [run_some hr] at i4
   have hm := mem_red.1 (red_head hr).1
   have V := vops_of hm.1
   have hw := Rewrite_yes (withOps s cur) V hs2 r hm.2
   have hlt := wt_less V.wf hm.2
   have hle := rw_len V.wf hm.2
   repeat' (first | refine un_a ?_ | ((first | refine st_a (fun K hK => ?_) | refine call_c (hf) ?_ | refine call_c (hw) ?_); and_intros; (all_goals first | (refine hK _ ?_; clear hK K) | exact auto_cl | skip)) | (refine if_a (fun hb => ?_) (fun hb => ?_); all_goals try exact bad_a) | (refine ret_a ?_; (try clear hB KB); (try clear hK K)))
   ·exact absurd hb (by decide)
   ·exact absurd trivial hb
   rw [blockQ_normal, thenQ_normal]
   refine wk_loop (f, rwM (withOps s cur) r.1.toNat r.2.toNat, steps ++ [r]) ?_ ⟨?_, ?_, ?_, ?_⟩ (Nat.lt_succ_self f)
   ·dsimp only
    rw [show (steps ++ [r]).length = steps.length + 1 from List.length_append]
    refine le_a [(1, some 1), (2, some 2), (3, some 6)] ?_ ?_
    and_intros
    all_goals first | exact le_cl | skip
    exact .inr (rx_snoc fun j hj => by
     have hj2 : j = 0 ∨ j = 1 := by omega
     rcases hj2 with rfl | rfl <;> rfl)
   ·show sumW wtOp (rwM (withOps s cur) r.1.toNat r.2.toNat) < f
    have : sumW wtOp (withOps s cur).ops = sumW wtOp cur := rfl
    omega
   ·show (rwM (withOps s cur) r.1.toNat r.2.toNat).length ≤ 1000000
    have : (withOps s cur).ops.length = cur.length := rfl
    omega
   ·show (steps ++ [r]).length + f ≤ 5000001
    rw [List.length_append, List.length_cons, List.length_nil]; omega
   ·rw [i4]
    exact congrArg (fun q => (_, q)) (List.append_cons steps r _)
theorem Simplify_sp (s : Script) (hs : ScriptLen s) (H : Sml s) (ho : s.ops.length ≤ 1000000) : Pure Sg 25 [ag (scriptE s)] (fun x => x = .b (ag (scriptE (withOps s (runM s).1)))) := by
 have h1 := run_sp s hs H ho
 refine fn_a Tryz.func25 [.cell 2 36] ?_
 repeat' (first | ((first | refine st_a (fun K hK => ?_) | refine call_c (h1) ?_); and_intros; (all_goals first | (refine hK _ ?_; clear hK K) | exact auto_cl | skip)) | (refine ret_a ?_; (try clear hB KB); (try clear hK K)))
 rfl
theorem Steps_sp (s : Script) (hs : ScriptLen s) (H : Sml s) (ho : s.ops.length ≤ 1000000) : Pure Sg 62 [ag (scriptE s)] (fun x => x = .b (.c (.p (.lst 2 (runM s).2.length (fnOf rxE (runM s).2))))) := by
 have h1 := run_sp s hs H ho
 refine fn_a Tryz.func62 [.tmp 2] ?_
 repeat' (first | with_reducible exact tr_a | ((first | refine st_a (fun K hK => ?_) | refine call_c (h1) ?_); and_intros; (all_goals first | (refine hK _ ?_; clear hK K) | exact auto_cl | skip)) | (refine ret_a ?_; (try clear hB KB); (try clear hK K)))
end Go.Proofs.YtlblgkelhibdoaaGreatDoor
set_option maxHeartbeats 2000000
set_option maxRecDepth 16000
namespace Go.Proofs.YtlblgkelhibdoaaGreatDoor
open Go Go.SL
open Go.RowKit (wrap64)
attribute [local go_sem] Int.toNat_natCast rxE zerosB
def aw27 : Script := ⟨8, ⟨0, 0, 2, 2⟩, 1, 1, [], [awI 2 255], [awO, awO, awO]⟩
def aw27b : Script := ⟨8, ⟨0, 0, 2, 2⟩, 1, 1, [], [awI 2 255], [⟨1, 0, 0, 0, 0, 0, 0, 255, 1, 1, false, false⟩]⟩
theorem awake27_sp : Pure Sg 26 [] (fun x => x = .b (B true)) := by
 have s1 : Sml aw27 := ⟨by decide, by decide, by decide, one_lt (by decide), one_lt (by decide), one_lt (by decide), one_lt (by decide), one_lt (by decide)⟩
 have s2 : Sml aw27b := ⟨by decide, by decide, by decide, one_lt (by decide), one_lt (by decide), one_lt (by decide), one_lt (by decide), one_lt (by decide)⟩
 have l1 : ScriptLen aw27 := ⟨by decide, by decide, by decide⟩
 have l2 : ScriptLen aw27b := ⟨by decide, by decide, by decide⟩
 have h1 := Simplify_sp aw27 l1 s1 (by decide)
 rw [show (runM aw27).1 = [awO] by decide +kernel] at h1
 have h2 := Normal_sp aw27b l2
 rw [show decide (redM aw27b = []) = true by decide +kernel] at h2
 have h3 := Steps_sp aw27b l2 s2 (by decide)
 rw [show (runM aw27b).2 = [] by decide +kernel] at h3
 refine fn_a Tryz.func26 [.tmp 0] ?_
 repeat' (first | ((with_reducible refine cw_stepV (id := 2) (fun K hW => ?_)); (try simp (maxSteps := 1000000) (disch := omega) only [go_sem]); and_intros; (all_goals first | (refine hK _ ?_; clear hK K) | exact auto_cl | skip)) | (refine st_a (fun K hK => ?_); and_intros; (all_goals first | (refine hK _ ?_; clear hK K) | exact auto_cl | skip)))
 refine hW _ (mkSt [(0, .b (B false)), (1, .b (.c (.ptr 1 0))), (2, .b (.c (.ptr 2 0)))] [(1, .fix ((opE awO).map CV.p)), (2, .fix ((scriptE aw27).map CV.p))] 3) ?_ ?_
 ·refine le_a [(1, some 0), (2, some 3)] ?_ ?_
  and_intros
  all_goals first | exact le_cl | skip
  ·exact nil_le
  ·intro i hi j hj
   have hi0 : i = 0 := by omega
   subst hi0
   have hivl : j = 0 ∨ j = 1 ∨ j = 2 ∨ j = 3 ∨ j = 4 ∨ j = 5 ∨ j = 6 ∨ j = 7 ∨ j = 8 ∨ j = 9 ∨ j = 10 ∨ j = 11 ∨ j = 12 ∨ j = 13 ∨ j = 14 ∨ j = 15 ∨ j = 16 ∨ j = 17 ∨ j = 18 ∨ j = 19 ∨ j = 20 ∨ j = 21 ∨ j = 22 ∨ j = 23 ∨ j = 24 ∨ j = 25 ∨ j = 26 ∨ j = 27 := by omega
   rcases hivl with rfl | rfl | rfl | rfl | rfl | rfl | rfl | rfl | rfl | rfl | rfl | rfl | rfl | rfl | rfl | rfl | rfl | rfl | rfl | rfl | rfl | rfl | rfl | rfl | rfl | rfl | rfl | rfl <;> (first | exact fun _ _ _ h => h | exact nil_le)
  ·intro i hi j hj
   have hi3 : i = 0 ∨ i = 1 ∨ i = 2 := by omega
   rcases hi3 with rfl | rfl | rfl
   ·skip
    have hivl : j = 0 ∨ j = 1 ∨ j = 2 ∨ j = 3 ∨ j = 4 ∨ j = 5 ∨ j = 6 ∨ j = 7 ∨ j = 8 ∨ j = 9 ∨ j = 10 ∨ j = 11 := by omega
    rcases hivl with rfl | rfl | rfl | rfl | rfl | rfl | rfl | rfl | rfl | rfl | rfl | rfl <;> exact fun _ _ _ h => h
   ·skip
    have hivl : j = 0 ∨ j = 1 ∨ j = 2 ∨ j = 3 ∨ j = 4 ∨ j = 5 ∨ j = 6 ∨ j = 7 ∨ j = 8 ∨ j = 9 ∨ j = 10 ∨ j = 11 := by omega
    rcases hivl with rfl | rfl | rfl | rfl | rfl | rfl | rfl | rfl | rfl | rfl | rfl | rfl <;> exact fun _ _ _ h => h
   ·skip
    have hivl : j = 0 ∨ j = 1 ∨ j = 2 ∨ j = 3 ∨ j = 4 ∨ j = 5 ∨ j = 6 ∨ j = 7 ∨ j = 8 ∨ j = 9 ∨ j = 10 ∨ j = 11 := by omega
    rcases hivl with rfl | rfl | rfl | rfl | rfl | rfl | rfl | rfl | rfl | rfl | rfl | rfl <;> exact fun _ _ _ h => h
 clear hW
 repeat' (first | ((with_reducible refine cw_stepV (id := 4) (fun K hW => ?_)); (try simp (maxSteps := 1000000) (disch := omega) only [go_sem]); and_intros; (all_goals first | (refine hK _ ?_; clear hK K) | exact auto_cl | skip)) | ((first | refine st_a (fun K hK => ?_) | refine call_c (h1) ?_); and_intros; (all_goals first | (refine hK _ ?_; clear hK K) | exact auto_cl | skip)))
 refine hW _ (mkSt [(0, .b (B false)), (1, .b (.c (.ptr 1 0))), (2, .b (.c (.ptr 2 0))), (3, .b (.c (.ptr 3 0)))] [(1, .fix ((opE awO).map CV.p)), (2, .fix ((scriptE aw27b).map CV.p)), (3, .fix ((scriptE (withOps aw27 [awO])).map CV.p))] 4) ?_ ?_
 ·refine le_a [(1, some 1), (2, some 2), (3, some 3)] ?_ ?_
  and_intros
  all_goals first | exact le_cl | skip
  intro i hi j hj
  have hi0 : i = 0 := by omega
  subst hi0
  have hivl : j = 0 ∨ j = 1 ∨ j = 2 ∨ j = 3 ∨ j = 4 ∨ j = 5 ∨ j = 6 ∨ j = 7 ∨ j = 8 ∨ j = 9 ∨ j = 10 ∨ j = 11 := by omega
  rcases hivl with rfl | rfl | rfl | rfl | rfl | rfl | rfl | rfl | rfl | rfl | rfl | rfl <;> exact fun _ _ _ h => h
 clear hW
 repeat' (first | ((first | refine st_a (fun K hK => ?_) | refine gcall_c (fun hg => h2) ?_ | refine gcall_c (fun hg => h3) ?_); and_intros; (all_goals first | (refine hK _ ?_; clear hK K) | exact auto_cl | skip)) | (refine ret_a ?_; (try clear hB KB); (try clear hK K)))
 exact vb (by decide +kernel)
end Go.Proofs.YtlblgkelhibdoaaGreatDoor
set_option maxHeartbeats 4000000
set_option maxRecDepth 16000
namespace Go.Proofs.YtlblgkelhibdoaaGreatDoor
open Go Go.SL
open Go.RowKit (wrap64)
attribute [local go_sem] Int.toNat_natCast rxE
theorem skeep_law (c : Scene) (hc : SceneOk c) (l : List Int) (hl : l.length ≤ 4611686018427387904) :
  Pure Sg 7 [ag (sceneE c), .c (.p (ints l))] (fun x => x = .b (B true)) := by
 have ht : True := trivial
 have hg := gscript_spec c hc
 have hi := gImages_le c
 have hgood := (gScript_good c).len
 have hb := bias_sp (gScript c) l (gScript_len c) hl (by omega) (by show (gImages c).length ≤ _; omega)
 have hs := len_bias c l
 have H := sml_bias c l
 have ho := bias_ops c l
 have hO := Of.bias c l
 generalize hS : biasM (gScript c) l = s at *
 have hsi := Simplify_sp s hs H (by omega)
 have haw := awake27_sp
 obtain ⟨hN, hv⟩ := Of.run (sumW wtOp s.ops + 1) hO
 have hrun : withOps s (runM s).1 = withOps s (runGo (sumW wtOp s.ops + 1) s).1 := rfl
 rw [hrun] at hsi
 have hsame : renderM (withOps s (runGo (sumW wtOp s.ops + 1) s).1) = renderM s :=
  render_same hO.small (hN.cv.trans hO.cv.symm) fun x y q => hv x y (by rw [hO.cv] at q; exact q)
 have h1 := hO.render
 have h2 := hN.render
 have h3 := sameImage_sp (renderM s) (img_len hO.small)
 rw [hsame] at h2
 generalize renderM s = m at *
 generalize withOps s (runGo (sumW wtOp s.ops + 1) s).1 = t at *
 refine fn_a Tryz.func7 [.tmp 4] ?_
 repeat' (first | ((first | refine st_a (fun K hK => ?_) | refine call_c (hg) ?_ | refine call_c (hb) ?_ | refine call_c (hsi) ?_ | refine call_c (haw) ?_ | refine call_c (h1) ?_ | refine call_c (h2) ?_ | refine gcall_c (fun hg => h3) ?_); and_intros; (all_goals first | (refine hK _ ?_; clear hK K) | exact auto_cl | skip)) | (refine ret_a ?_; (try clear hB KB); (try clear hK K)))
 rfl
end Go.Proofs.YtlblgkelhibdoaaGreatDoor
