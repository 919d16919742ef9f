/- Part of the proof: FO, D4, D5, E1, EM. -/
import Derived.Test.YtlblgkelhibdoaaGreatDoorM18
set_option linter.unusedSimpArgs false
set_option linter.unusedVariables false
set_option maxRecDepth 8000
namespace Go.Proofs.YtlblgkelhibdoaaGreatDoor
open Go Go.SL
theorem opErr_zero {b : Int} {n : Nat} {o : Op} {l : List Op} : opErr b n o l = 0 ↔ (1 ≤ o.kind ∧ o.kind ≤ 3) ∧ fieldsM o = true ∧ (o.kind = 3 → 0 < l.length) ∧
  (o.kind ≠ 3 → ¬ (o.kind = 1 ∧ (o.image < 0 ∨ n ≤ o.image) ∨ o.mask < 0 ∨ n < o.mask) ∧ withinM 1048576 [o.x, o.y, o.maskX, o.maskY] = true ∧ o.opacity ≤ maxOf b ∧ isOp o.operator = true ∧ isOp o.mode = true ∧ (o.operator ≠ 4 → ctxOk l = true) ∧ (o.kind = 2 → l.length < 64)) := by
 unfold opErr
 by_cases h1 : ¬ (1 ≤ o.kind ∧ o.kind ≤ 3)
 ·rw [if_pos h1]; exact ⟨fun h => by omega, fun h => absurd h.1 h1⟩
 rw [if_neg h1]
 rw [Decidable.not_not] at h1
 by_cases h2 : fieldsM o = false
 ·rw [if_pos h2]; exact ⟨fun h => by omega, fun h => by rw [h2] at h; simp at h⟩
 rw [if_neg h2]
 rw [Bool.not_eq_false] at h2
 by_cases h3 : o.kind = 3
 ·by_cases h4 : l.length = 0
  ·rw [if_pos ⟨h3, h4⟩]; exact ⟨fun h => by omega, fun h => by have := h.2.2.1 h3; omega⟩
  ·rw [if_neg (fun q => h4 q.2), if_pos h3]; exact ⟨fun _ => ⟨h1, h2, fun _ => by omega, fun q => absurd h3 q⟩, fun _ => rfl⟩
 rw [if_neg (fun q => h3 q.1), if_neg h3]
 by_cases h5 : o.kind = 1 ∧ (o.image < 0 ∨ n ≤ o.image) ∨ o.mask < 0 ∨ n < o.mask
 ·rw [if_pos h5]; exact ⟨fun h => by omega, fun h => absurd h5 (h.2.2.2 h3).1⟩
 rw [if_neg h5]
 by_cases h6 : withinM 1048576 [o.x, o.y, o.maskX, o.maskY] = false
 ·rw [if_pos h6]; exact ⟨fun h => by omega, fun h => by have := (h.2.2.2 h3).2.1; rw [h6] at this; cases this⟩
 rw [if_neg h6]
 rw [Bool.not_eq_false] at h6
 by_cases h7 : maxOf b < o.opacity
 ·rw [if_pos h7]; exact ⟨fun h => by omega, fun h => by have := (h.2.2.2 h3).2.2.1; omega⟩
 rw [if_neg h7]
 by_cases h8 : isOp o.operator = false
 ·rw [if_pos h8]; exact ⟨fun h => by omega, fun h => by have := (h.2.2.2 h3).2.2.2.1; rw [h8] at this; cases this⟩
 rw [if_neg h8]
 rw [Bool.not_eq_false] at h8
 by_cases h9 : isOp o.mode = false
 ·rw [if_pos h9]; exact ⟨fun h => by omega, fun h => by have := (h.2.2.2 h3).2.2.2.2.1; rw [h9] at this; cases this⟩
 rw [if_neg h9]
 rw [Bool.not_eq_false] at h9
 by_cases h10 : o.operator ≠ 4 ∧ ctxOk l = false
 ·rw [if_pos h10]; exact ⟨fun h => by omega, fun h => by have := (h.2.2.2 h3).2.2.2.2.2.1 h10.1; rw [h10.2] at this; cases this⟩
 rw [if_neg h10]
 by_cases h11 : o.kind = 2 ∧ 64 ≤ l.length
 ·rw [if_pos h11]; exact ⟨fun h => by omega, fun h => by have := (h.2.2.2 h3).2.2.2.2.2.2 h11.1; omega⟩
 rw [if_neg h11]
 exact ⟨fun _ => ⟨h1, h2, fun q => absurd q h3, fun _ => ⟨h5, h6, by omega, h8, h9, fun q => by
  cases hc : ctxOk l with
  | true => rfl
  | false => exact absurd ⟨q, hc⟩ h10, fun q => by
   rcases Nat.lt_or_ge l.length 64 with h | h
   ·exact h
   ·exact absurd ⟨q, h⟩ h11⟩⟩, fun _ => rfl⟩
theorem gorder_len (s : Scene) : (gScript s).order.length ≤ 64 := by
 have ht := tiles_le s
 show (gPerm s.order _).length ≤ 64
 unfold gPerm
 split
 ·exact Nat.zero_le _
 ·rw [(permGo_ok (l := s.order) _ 0 _ (iota_len _) (iota_nodup _)).1]
  omega
theorem g_len (s : Scene) {t : Script} (ho : t.order = (gScript s).order) (hi : t.images.length ≤ 64) (hp : t.ops.length ≤ 4096) : ScriptLen t :=
 ⟨by rw [ho]; exact Nat.le_trans (gorder_len s) (by decide), by omega, by omega⟩
theorem gimages_len (s : Scene) : (gScript s).images.length ≤ 64 := by
 have := gImages_le s
 show (gImages s).length ≤ 64
 omega
theorem gops_len (s : Scene) : (gScript s).ops.length ≤ 18 := (gScript_good s).len
theorem gScript_len (s : Scene) : ScriptLen (gScript s) := g_len s rfl (gimages_len s) (Nat.le_trans (gops_len s) (by decide))
end Go.Proofs.YtlblgkelhibdoaaGreatDoor
set_option maxRecDepth 8000
namespace Go.Proofs.YtlblgkelhibdoaaGreatDoor
open Go Go.SL
theorem opsGo_zero {b : Int} {n : Nat} : ∀ {ops l : List Op} {i : Nat}, (opsGo b n i ops l).1 = 0 → okAll b n ops l ∧ openAfter ops l = []
 | [], l, i, h => by
  refine ⟨trivial, ?_⟩
  rw [opsGo] at h
  split at h
  ·cases h
  ·exact (List.eq_nil_of_length_eq_zero (by omega) : l = [])
 | o :: r, l, i, h => by
  rw [opsGo] at h
  split at h
  ·rename_i h0
   obtain ⟨h1, h2⟩ := opsGo_zero h
   exact ⟨⟨h0, h1⟩, h2⟩
  ·rename_i h0; exact absurd h h0
theorem okAll_at {b : Int} {n : Nat} {ops : List Op} (h : okAll b n ops []) {i : Nat} (hi : i < ops.length) : opErr b n (opAt ops i) (openAfter (ops.take i) []) = 0 := by
 have e : ops = ops.take i ++ ops.drop i := (List.take_append_drop i ops).symm
 rw [e, okAll_append, List.drop_eq_getElem_cons hi] at h
 have : opAt ops i = ops[i] := by rw [opAt, List.getD_eq_getElem?_getD, List.getElem?_eq_getElem hi]; rfl
 rw [this]
 exact h.2.1
theorem open_take {ops : List Op} : ∀ (i : Nat), i ≤ ops.length → openAfter (ops.take i) [] = (stk ops i).reverse.map (opAt ops)
 | 0, _ => rfl
 | i + 1, hi => by
  have ih := open_take (ops := ops) i (by omega)
  have e : opAt ops i = ops[i] := by rw [opAt, List.getD_eq_getElem?_getD, List.getElem?_eq_getElem (by omega)]; rfl
  rw [List.take_add_one, List.getElem?_eq_getElem (by omega), openAfter_append, ih]
  show nextOpen _ ops[i] = _
  rw [← e, nextOpen, stk]
  split
  ·rw [List.reverse_cons, List.map_append]; rfl
  split
  ·rw [← List.map_dropLast, List.dropLast_reverse]
  ·rfl
structure VOps (s : Script) : Prop where
 wf : Wf s.ops
 ok : ∀ i, i < s.ops.length → opErr s.bits s.images.length (opAt s.ops i) ((stk s.ops i).reverse.map (opAt s.ops)) = 0
 imgs : s.images.length ≤ 64
 cnt : s.ops.length ≤ 4096
 frame : frameM s = 0
theorem vops_of {s : Script} (h : (opsM s).1 = 0) : VOps s := by
 rw [opsM] at h
 split at h
 ·rename_i hf
  obtain ⟨h1, h2⟩ := opsGo_zero h
  have hl := frameM_ok hf
  have ok : ∀ i, i < s.ops.length → opErr s.bits s.images.length (opAt s.ops i) ((stk s.ops i).reverse.map (opAt s.ops)) = 0 := fun i hi => by
   rw [← open_take i (by omega)]; exact okAll_at h1 hi
  refine ⟨⟨fun i hi => ?_, fun i hi hk he => ?_, ?_⟩, ok, hl.1, hl.2, hf⟩
  ·have := (opErr_zero.1 (ok i hi)).1; omega
  ·have := (opErr_zero.1 (ok i hi)).2.2.1 hk
   rw [he] at this; simp at this
  ·have := open_take (ops := s.ops) s.ops.length (Nat.le_refl _)
   rw [List.take_length, h2] at this
   have := congrArg List.length this
   simp at this
   exact List.eq_nil_of_length_eq_zero this.symm
 ·rename_i hf; exact absurd h hf
end Go.Proofs.YtlblgkelhibdoaaGreatDoor
set_option maxRecDepth 8000
set_option maxHeartbeats 1000000
namespace Go.Proofs.YtlblgkelhibdoaaGreatDoor
open Go Go.SL
open Go.RowKit (wrap64)
def natsF (n : Nat) (f : Nat → Nat) : PV := .lst 1 n (fun a _ => PI (f a))
attribute [go_sem] natsF
theorem pred_cast2 {n : Nat} : (((n + 1 : Nat) : Int) - 1) = (n : Int) := by omega
attribute [local go_sem] pred_cast2 Int.toNat_natCast
def stF (l junk : List Nat) (a : Nat) : Nat := (l.reverse ++ junk).getD a 0
theorem stF_top {p : Nat} {t junk : List Nat} : stF (p :: t) junk t.length = p := by
 rw [stF, List.reverse_cons, List.append_assoc, List.getD_eq_getElem?_getD, List.getElem?_append_right (by simp)]
 simp
theorem stF_pop {p : Nat} {t junk : List Nat} : stF (p :: t) junk = stF t (p :: junk) := by
 funext a; rw [stF, stF, List.reverse_cons, List.append_assoc]; rfl
theorem stF_old {l : List Nat} {i a : Nat} {junk : List Nat} (h : a < l.length) : stF (i :: l) [] a = stF l junk a := by
 rw [stF, stF, List.reverse_cons, List.append_nil, List.getD_eq_getElem?_getD, List.getD_eq_getElem?_getD, List.getElem?_append_left (by simpa using h), List.getElem?_append_left (by simpa using h)]
theorem stk_len (ops : List Op) : ∀ i, (stk ops i).length ≤ i
 | 0 => Nat.le_refl _
 | i + 1 => by
  have := stk_len ops i
  rw [stk]
  split
  ·simp; omega
  split
  ·rw [List.length_tail]; omega
  ·omega
attribute [local go_sem] stF_top
end Go.Proofs.YtlblgkelhibdoaaGreatDoor
set_option maxHeartbeats 2000000
set_option maxRecDepth 16000
namespace Go.Proofs.YtlblgkelhibdoaaGreatDoor
open Go Go.SL
open Go.RowKit (wrap64)
def coversR (r q : Rect) : Bool := emptyR q || !emptyR r && decide (r.x0 ≤ q.x0) && decide (r.y0 ≤ q.y0) && decide (q.x1 ≤ r.x1) && decide (q.y1 ≤ r.y1)
attribute [local go_sem] pred_cast2 Int.toNat_natCast stF_top
end Go.Proofs.YtlblgkelhibdoaaGreatDoor
set_option maxRecDepth 8000
set_option maxHeartbeats 2000000
namespace Go.Proofs.YtlblgkelhibdoaaGreatDoor
open Go Go.SL
def topAt (ops : List Op) (i : Nat) : Int := match stk ops i with | [] => -1 | p :: _ => p
def grpM (ops : List Op) (i : Nat) : Int := if (opAt ops i).kind = 3 then topAt ops (i + 1) else topAt ops i
theorem stk_suf {ops : List Op} : ∀ {i : Nat} {l t : List Nat} {p : Nat}, stk ops i = l ++ p :: t → stk ops p = t
 | 0, l, t, p, h => by cases l <;> simp [stk] at h
 | i + 1, l, t, p, h => by
  rw [stk] at h
  split at h
  ·cases l with
   | nil => simp only [List.nil_append, List.cons.injEq] at h; rw [← h.1, h.2]
   | cons a l => simp only [List.cons_append, List.cons.injEq] at h; exact stk_suf h.2
  split at h
  ·cases hs : stk ops i with
   | nil => rw [hs] at h; cases l <;> simp at h
   | cons q r => rw [hs] at h; exact stk_suf (l := q :: l) (by rw [hs]; exact congrArg (q :: ·) h)
  ·exact stk_suf h
theorem topAt_nil {ops : List Op} {i : Nat} (h : stk ops i = []) : topAt ops i = -1 := by rw [topAt, h]
theorem topAt_cons {ops : List Op} {i p : Nat} {t : List Nat} (h : stk ops i = p :: t) : topAt ops i = p := by rw [topAt, h]
theorem stk_ends {ops : List Op} (W : Wf ops) {i : Nat} (hi : i < ops.length) (hk : (opAt ops i).kind ≠ 3) : stk ops (endsM ops i + 1) = stk ops i := by
 rcases W.kinds i hi with h | h | h
 ·rw [ends_draw W hi h, stk_draw h]
 ·have hm : i ∈ stk ops (i + 1) := by rw [stk_push h]; exact List.mem_cons_self ..
  obtain ⟨j, t, h1, h2, h3, h4⟩ := pop_of W (p := i) (ops.length - (i + 1)) (i + 1) (by omega) hm
  rw [ends_pop W h2 h3 h4, stk_pop h3, h4]
  exact (stk_suf (l := []) h4).symm
 ·exact absurd h hk
theorem ends_ge {ops : List Op} (W : Wf ops) {i : Nat} (hi : i < ops.length) : i ≤ endsM ops i := by
 rcases W.kinds i hi with h | h | h
 ·rw [ends_draw W hi h]; exact Nat.le_refl _
 ·have := ends_push W hi h; omega
 ·rw [ends_self W hi h]; exact Nat.le_refl _
def isoM (s : Script) (i : Nat) : Bool := decide (grpM s.ops i < 0) || (opAt s.ops (grpM s.ops i).toNat).isolated
def koM (s : Script) (i : Nat) : Bool := !decide (grpM s.ops i < 0) && (opAt s.ops (grpM s.ops i).toNat).knockout
def imgM (s : Script) (k : Int) : Image := s.images.getD k.toNat default
end Go.Proofs.YtlblgkelhibdoaaGreatDoor
