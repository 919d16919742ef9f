/- Part of the proof: EM. -/
import Derived.Test.YtlblgkelhibdoaaGreatDoorM44
set_option linter.unusedSimpArgs false
set_option linter.unusedVariables false
set_option maxRecDepth 8000
set_option maxHeartbeats 2000000
namespace Go.Proofs.YtlblgkelhibdoaaGreatDoor
open Go Go.SL
def kidsTo (ops : List Op) : Nat → Int → Nat
 | 0, _ => 0
 | i + 1, g => kidsTo ops i g + if (opAt ops i).kind ≠ 3 ∧ topAt ops i = g then 1 else 0
def kidsM (ops : List Op) (g : Int) : Nat := kidsTo ops ops.length g
def firstM (ops : List Op) (i : Nat) : Bool := decide ((opAt ops i).kind ≠ 3 ∧ kidsTo ops i (topAt ops i) = 0)
theorem topAt_lt (ops : List Op) (i : Nat) : -1 ≤ topAt ops i ∧ topAt ops i < i := by
 cases h : stk ops i with
 | nil => rw [topAt_nil h]; omega
 | cons p t =>
  have := stk_lt (ops := ops) (i := i) (p := p) (by rw [h]; exact List.mem_cons_self ..)
  rw [topAt_cons h]; omega
theorem kidsTo_le (ops : List Op) (g : Int) : ∀ i, kidsTo ops i g ≤ i
 | 0 => Nat.le_refl _
 | i + 1 => by
  have := kidsTo_le ops g i
  rw [kidsTo]; split <;> omega
theorem kidsTo_mono (ops : List Op) (g : Int) {i j : Nat} (h : i ≤ j) : kidsTo ops i g ≤ kidsTo ops j g := by
 induction j with
 | zero => have : i = 0 := by omega
           rw [this]; exact Nat.le_refl _
 | succ j ih =>
  rcases Nat.lt_or_ge i (j + 1) with h1 | h1
  ·have := ih (by omega)
   rw [kidsTo]; omega
  ·have : i = j + 1 := by omega
   rw [this]; exact Nat.le_refl _
theorem kids_two {ops : List Op} {i j : Nat} {g : Int} (hij : i < j) (hj : j < ops.length) (k1 : (opAt ops i).kind ≠ 3) (k2 : (opAt ops j).kind ≠ 3) (g1 : topAt ops i = g) (g2 : topAt ops j = g) : 2 ≤ kidsM ops g := by
 have h1 : 1 ≤ kidsTo ops (i + 1) g := by rw [kidsTo, if_pos ⟨k1, g1⟩]; omega
 have h2 := kidsTo_mono ops g (i := i + 1) (j := j) (by omega)
 have h3 : kidsTo ops (j + 1) g = kidsTo ops j g + 1 := by rw [kidsTo, if_pos ⟨k2, g2⟩]
 have h4 := kidsTo_mono ops g (i := j + 1) (j := ops.length) (by omega)
 unfold kidsM
 omega
def plnM (s : Script) (i : Nat) : Bool := isoM s i && !koM s i
def unscM (s : Script) (o : Op) : Bool := decide (o.mask = 0) && decide (o.opacity = maxOf s.bits)
def smA (s : Script) (o : Op) : Int := if o.mask = 0 then 0 else (imgM s (o.mask - 1)).color.a
def smB (s : Script) (o : Op) : Bool := !decide (o.mask = 0) && (imgM s (o.mask - 1)).solid
def fullM (s : Script) (o : Op) : Bool := smB s o && decide (smA s o = maxOf s.bits) && coversR (maskRectM s o) s.canvas
def voidM (s : Script) (o : Op) : Bool := !decide (o.mask = 0) && (smB s o && decide (smA s o = 0) || emptyR (maskRectM s o))
def invM (s : Script) (i : Nat) : Bool := neutralM (opAt s.ops i).operator && (decide ((opAt s.ops i).opacity = 0) || voidM s (opAt s.ops i) ||
 if (opAt s.ops i).kind = 2 then decide (kidsM s.ops i = 0) else emptyR (imageRectM s (opAt s.ops i)) || (imgM s (opAt s.ops i).image).solid && clearP (imgM s (opAt s.ops i).image).color)
def dstM (s : Script) (i : Nat) : Bool := decide ((opAt s.ops i).operator = 3)
def nthM (s : Script) (i : Nat) : Bool := decide ((opAt s.ops i).operator = 6 ∨ (opAt s.ops i).operator = 7 ∨ (opAt s.ops i).operator = 9 ∨ (opAt s.ops i).operator = 10) && (firstM s.ops i && plnM s i)
def cvM (s : Script) (j : Nat) : Bool := decide ((opAt s.ops j).operator = 1) && !koM s j ||
 unscM s (opAt s.ops j) && (imgM s (opAt s.ops j).image).solid && coversR (imageRectM s (opAt s.ops j)) s.canvas &&
 if koM s j = true then decide ((imgM s (opAt s.ops j).image).color.f = maxOf s.bits)
 else decide ((opAt s.ops j).mode = 1) && (decide ((opAt s.ops j).operator = 2) || decide ((opAt s.ops j).operator = 4) && decide ((imgM s (opAt s.ops j).image).color.a = maxOf s.bits))
def cdGo (s : Script) : Nat → Nat → Bool
 | 0, _ => false
 | f + 1, j => decide (j < s.ops.length) && !decide ((opAt s.ops j).kind = 3) && (decide ((opAt s.ops j).kind = 1) && cvM s j || cdGo s f (endsM s.ops j + 1))
def cdM (s : Script) (i : Nat) : Bool := cdGo s s.ops.length (endsM s.ops i + 1)
def mskM (s : Script) (i : Nat) : Bool := fullM s (opAt s.ops i)
def iseM (s : Script) (i : Nat) : Bool := decide ((opAt s.ops i).kind = 2) && !(opAt s.ops i).isolated && isoM s i && (firstM s.ops i || koM s i)
def nrmM (s : Script) (i : Nat) : Bool := isoM s i && if koM s i = true then !decide ((opAt s.ops i).mode = 1) else firstM s.ops i && freshM (opAt s.ops i).operator && (!decide ((opAt s.ops i).operator = 4) || !decide ((opAt s.ops i).mode = 1))
def sngM (s : Script) (i : Nat) : Bool := decide ((opAt s.ops i).kind = 2) && (opAt s.ops i).knockout && decide (kidsM s.ops i = 1)
def unwM (s : Script) (i : Nat) : Bool := decide ((opAt s.ops i).kind = 2) && (opAt s.ops i).isolated && decide (kidsM s.ops i = 1) &&
 (decide ((opAt s.ops (i + 1)).operator = 4) && decide ((opAt s.ops (i + 1)).mode = 1) && (unscM s (opAt s.ops (i + 1)) || unscM s (opAt s.ops i)))
def ruleM (s : Script) : Nat → Nat → Bool
 | 1, i => invM s i
 | 2, i => dstM s i
 | 3, i => nthM s i
 | 4, i => cdM s i
 | 5, i => mskM s i
 | 6, i => iseM s i
 | 7, i => nrmM s i
 | 8, i => sngM s i
 | 9, i => unwM s i
 | _, _ => false
def apM (s : Script) (n i : Int) : Bool := decide (1 ≤ n) && decide (n < 10) && decide (0 ≤ i) && decide (i < s.ops.length) && !decide ((opAt s.ops i.toNat).kind = 3) && ruleM s n.toNat i.toNat
def chgOp (n : Nat) (o : Op) : Op :=
 if n = 5 then { o with mask := 0, maskX := 0, maskY := 0 } else if n = 6 then { o with isolated := true } else if n = 7 then { o with operator := 4, mode := 1 } else { o with knockout := false }
def unw1 (s : Script) (o k : Op) : Op := if unscM s k = true then { k with mask := o.mask, maskX := o.maskX, maskY := o.maskY, opacity := o.opacity } else k
def unw2 (o k : Op) : Op := { k with operator := o.operator, mode := o.mode }
def unw3 (k : Op) : Op := if k.kind = 2 then { k with isolated := true } else k
def unwOp (s : Script) (i : Nat) : Op := unw3 (unw2 (opAt s.ops i) (unw1 s (opAt s.ops i) (opAt s.ops (i + 1))))
def cutOps (s : Script) (i : Nat) : List Op := s.ops.take i ++ s.ops.drop (endsM s.ops i + 1)
def unwOps (s : Script) (i : Nat) : List Op := s.ops.take i ++ [unwOp s i] ++ (s.ops.take (endsM s.ops i)).drop (i + 2) ++ s.ops.drop (endsM s.ops i + 1)
def rwM (s : Script) (n i : Nat) : List Op := if n ≤ 4 then cutOps s i else if n = 9 then unwOps s i else s.ops.set i (chgOp n (opAt s.ops i))
abbrev Rx := Int × Int
def rxAt (s : Script) (i k : Nat) : List Rx := ((List.range k).filter (fun n : Nat => apM s n i)).map (fun n : Nat => ((n : Int), (i : Int)))
def rxTo (s : Script) (i : Nat) : List Rx := (List.range i).flatMap (fun a => rxAt s a 10)
def redM (s : Script) : List Rx := if (opsM s).1 = 0 then rxTo s s.ops.length else []
def cntM (ops : List Op) : Nat := (ops.filter (fun o => decide (o.kind = 1 ∨ o.kind = 2))).length
def withOps (s : Script) (l : List Op) : Script := { s with ops := l }
def runGo : Nat → Script → List Op × List Rx
 | 0, s => (s.ops, [])
 | f + 1, s => match (redM s).head? with
  | none => (s.ops, [])
  | some r => ((runGo f (withOps s (rwM s r.1.toNat r.2.toNat))).1, r :: (runGo f (withOps s (rwM s r.1.toNat r.2.toNat))).2)
end Go.Proofs.YtlblgkelhibdoaaGreatDoor
