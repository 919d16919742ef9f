/- Part of the proof: D4. -/
import Derived.Test.YtlblgkelhibdoaaGreatDoorM10
import Derived.Test.YtlblgkelhibdoaaGreatDoorM21
set_option linter.unusedSimpArgs false
set_option linter.unusedVariables false
set_option maxRecDepth 8000
namespace Go.Proofs.YtlblgkelhibdoaaGreatDoor
open Go Go.SL
def upTo (P : Nat → Bool) : Nat → Nat → Nat
 | 0, k => k
 | f + 1, k => if P k = true then upTo P f (k + 1) else k
theorem upTo_step {P : Nat → Bool} {n k : Nat} (hk : k < n) : upTo P (n - k) k = if P k = true then upTo P (n - (k + 1)) (k + 1) else k := by
 rw [show n - k = (n - (k + 1)) + 1 by omega]; rfl
theorem upTo_ge {P : Nat → Bool} : ∀ (f k : Nat), k ≤ upTo P f k ∧ upTo P f k ≤ k + f ∧ ∀ j, k ≤ j → j < upTo P f k → P j = true
 | 0, k => ⟨Nat.le_refl _, Nat.le_refl _, fun j h1 h2 => absurd h2 (by rw [upTo]; omega)⟩
 | f + 1, k => by
  rw [upTo]
  split
  ·rename_i h
   obtain ⟨a, b, c⟩ := upTo_ge (P := P) f (k + 1)
   refine ⟨by omega, by omega, fun j h1 h2 => ?_⟩
   by_cases e : j = k
   ·rw [e]; exact h
   ·exact c j (by omega) h2
  ·exact ⟨Nat.le_refl _, by omega, fun j h1 h2 => by omega⟩
def preM (a b : List Op) : Nat := upTo (fun k => decide (k < a.length ∧ k < b.length ∧ opAt a k = opAt b k)) a.length 0
def sufM (a b : List Op) (p : Nat) : Nat := upTo (fun k => decide (p + k < a.length ∧ p + k < b.length ∧ opAt a (a.length - 1 - k) = opAt b (b.length - 1 - k))) a.length 0
theorem pre_le (a b : List Op) : preM a b ≤ a.length ∧ preM a b ≤ b.length := by
 obtain ⟨h1, h2, h3⟩ := upTo_ge (P := fun k => decide (k < a.length ∧ k < b.length ∧ opAt a k = opAt b k)) a.length 0
 refine ⟨by unfold preM; omega, ?_⟩
 unfold preM
 by_cases h : upTo (fun k => decide (k < a.length ∧ k < b.length ∧ opAt a k = opAt b k)) a.length 0 = 0
 ·omega
 ·have := h3 (upTo (fun k => decide (k < a.length ∧ k < b.length ∧ opAt a k = opAt b k)) a.length 0 - 1) (by omega) (by omega)
  simp only [decide_eq_true_eq] at this
  omega
theorem suf_le (a b : List Op) {p : Nat} (h1 : p ≤ a.length) (h2 : p ≤ b.length) : p + sufM a b p ≤ a.length ∧ p + sufM a b p ≤ b.length := by
 obtain ⟨q1, q2, h3⟩ := upTo_ge (P := fun k => decide (p + k < a.length ∧ p + k < b.length ∧ opAt a (a.length - 1 - k) = opAt b (b.length - 1 - k))) a.length 0
 unfold sufM
 by_cases h : upTo (fun k => decide (p + k < a.length ∧ p + k < b.length ∧ opAt a (a.length - 1 - k) = opAt b (b.length - 1 - k))) a.length 0 = 0
 ·rw [h]; omega
 ·have := h3 (upTo (fun k => decide (p + k < a.length ∧ p + k < b.length ∧ opAt a (a.length - 1 - k) = opAt b (b.length - 1 - k))) a.length 0 - 1) (by omega) (by omega)
  simp only [decide_eq_true_eq] at this
  omega
theorem opAt_ext {a b : List Op} (hl : a.length = b.length) (h : ∀ k, k < a.length → opAt a k = opAt b k) : a = b := by
 refine List.ext_getElem hl fun i h1 h2 => ?_
 have := h i h1
 rw [opAt, opAt, List.getD_eq_getElem?_getD, List.getD_eq_getElem?_getD, List.getElem?_eq_getElem h1, List.getElem?_eq_getElem h2] at this
 exact this
theorem upTo_all {P : Nat → Bool} : ∀ (f k : Nat), (∀ j, k ≤ j → j < k + f → P j = true) → upTo P f k = k + f
 | 0, k, h => rfl
 | f + 1, k, h => by
  rw [upTo, if_pos (h k (Nat.le_refl _) (by omega)), upTo_all f (k + 1) fun j h1 h2 => h j (by omega) (by omega)]
  omega
theorem pre_all {a b : List Op} : (preM a b = a.length ∧ preM a b = b.length) ↔ a = b := by
 refine ⟨fun ⟨h1, h2⟩ => opAt_ext (by omega) fun k hk => ?_, fun h => ?_⟩
 ·obtain ⟨_, _, h3⟩ := upTo_ge (P := fun k => decide (k < a.length ∧ k < b.length ∧ opAt a k = opAt b k)) a.length 0
  have := h3 k (by omega) (by unfold preM at h1; omega)
  simp only [decide_eq_true_eq] at this
  exact this.2.2
 ·subst h
  have : preM a a = a.length := by
   unfold preM
   rw [upTo_all _ _ fun j _ hj => by simp only [decide_eq_true_eq]; exact ⟨by omega, by omega, trivial⟩]
   omega
  exact ⟨this, this⟩
def sizesM (s t : Script) : Bool := decide (s.bits = t.bits ∧ s.canvas = t.canvas ∧ s.images.length = t.images.length) &&
 (List.range s.images.length).all fun i => decide ((s.images.getD i default).w = (t.images.getD i default).w ∧ (s.images.getD i default).h = (t.images.getD i default).h)
def touchedM (s : Script) (p q : Nat) : List Rect := (List.range' p (s.ops.length - q - p)).map (boxesM s) ++ (stk s.ops p).reverse.map (boxesM s)
def betweenM (s t : Script) : Rect × Int :=
 if (opsM s).1 ≠ 0 then (zeroR, (opsM s).1) else if (opsM t).1 ≠ 0 then (zeroR, (opsM t).1) else if sizesM s t = false then (zeroR, 20) else if s.ops = t.ops then (zeroR, 0)
 else (hullM (touchedM s (preM s.ops t.ops) (sufM s.ops t.ops (preM s.ops t.ops)) ++ touchedM t (preM s.ops t.ops) (sufM s.ops t.ops (preM s.ops t.ops))), 0)
end Go.Proofs.YtlblgkelhibdoaaGreatDoor
