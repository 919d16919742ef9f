/- Part of the proof: E9. -/
import Derived.Test.YtlblgkelhibdoaaGreatDoorM52
set_option linter.unusedSimpArgs false
set_option linter.unusedVariables false
set_option maxHeartbeats 2000000
set_option maxRecDepth 16000
namespace Go.Proofs.YtlblgkelhibdoaaGreatDoor
open Go Go.SL
open Go.RowKit (wrap64)
attribute [local go_sem] Int.toNat_natCast rxE
theorem sum_one (l : List Op) : sumW (fun _ => 1) l = l.length := by
 induction l with
 | nil => rfl
 | cons a l ih => rw [sumW_cons, ih, List.length_cons, Nat.add_comm]
theorem rw_len {s : Script} (W : Wf s.ops) {r : Rx} (h : apM s r.1 r.2 = true) : (rwM s r.1.toNat r.2.toNat).length ≤ s.ops.length := by
 obtain ⟨g1, g2, g3, g4, g5⟩ := apM_lt h
 rw [← sum_one, ← sum_one s.ops]
 by_cases h4 : r.1 ≤ 4
 ·rw [rwM, if_pos (by omega)]
  have := sum_cut (fun _ => 1) W g3
  omega
 by_cases h9 : r.1 = 9
 ·have e : r.1.toNat = 9 := by omega
  rw [rwM, if_neg (by omega), if_pos e]
  rw [e] at g5
  have hu : unwM s r.2.toNat = true := g5
  simp only [unwM, Bool.and_eq_true, decide_eq_true_eq] at hu
  obtain ⟨he, hk3⟩ := kid_next W g3 hu.1.1.1 (by rw [hu.1.2]; exact Nat.le_refl _)
  have hl := ends_lt W g3
  have := sum_unw (fun _ => 1) W (i := r.2.toNat) (by omega) hu.1.1.1 he
  omega
 ·have := (cnt_same h (by omega) (by omega)).2
  rw [sum_one, sum_one]; omega
def zerosB : Bx := .fix [.p (PI 0), .p (PI 0), .p (PI 0), .p (PI 0), .p (PI 0), .p (PI 0), .p (PI 0), .p (.val (.slice none 0 0)), .p (.val (.slice none 0 0)), .p (.val (.slice none 0 0))]
attribute [local go_sem] zerosB
end Go.Proofs.YtlblgkelhibdoaaGreatDoor
