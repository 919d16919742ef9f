/- Part of the proof: V3. -/
import Derived.Test.YtlblgkelhibdoaaGreatDoorM31
import Derived.Test.YtlblgkelhibdoaaGreatDoorM34
set_option linter.unusedSimpArgs false
set_option linter.unusedVariables false
set_option maxHeartbeats 2000000
set_option maxRecDepth 16000
namespace Go.Proofs.YtlblgkelhibdoaaGreatDoor
open Go Go.SL
open Go.RowKit (wrap64)
attribute [local go_sem] accE
theorem u64_sub {a b : Int} (h : b ≤ a) (ha : i64 a) (hb : i64 b) : IntKind.u64.wrap (IntKind.u64.wrap a - IntKind.u64.wrap b) = a - b := by
 obtain ⟨a1, a2⟩ := ha
 obtain ⟨b1, b2⟩ := hb
 have e : ∀ n : Int, IntKind.u64.wrap n = n % 18446744073709551616 := fun n => rfl
 rw [e, e, e]
 omega
theorem near_sp (m : Image) (x y dx dy : Int) (hx : i64 x) (hy : i64 y) (hdx : i64 dx) (hdy : i64 dy) : Pure Sg 131 [ag (imageE m), I x, I y, I dx, I dy] (fun r => r = .b (ag (pixE (nearM m x y dx dy)))) := by
 have w1 := fun h => u64_sub (a := x) (b := dx) h hx hdx
 have w2 := fun h => u64_sub (a := y) (b := dy) h hy hdy
 by_cases hc : x < dx ∨ y < dy
 ·have e : nearM m x y dx dy = zPix := by unfold nearM; rw [if_pos (by omega)]
  rw [e]
  have g : (decide (x < dx) || decide (y < dy)) = true := by simp only [Bool.or_eq_true, decide_eq_true_eq]; exact hc
  have g2 : ∀ a b : Bool, (decide (x < dx) || decide (y < dy) || a || b) = true := fun a b => by rw [g]; rfl
  refine fn_a Tryz.func131 [.cell 10 52] ?_
  repeat' (first | refine dec_a (And.intro g g2) ?_ | refine un_a ?_ | (refine st_a (fun K hK => ?_); and_intros; (all_goals first | (refine hK _ ?_; clear hK K) | exact auto_cl | skip)) | (refine ret_a ?_; (try clear hB KB); (try clear hK K)))
  rfl
 ·have hc1 : dx ≤ x := by omega
  have hc2 : dy ≤ y := by omega
  have w1 := w1 hc1
  have w2 := w2 hc2
  have g1 : decide (x < dx) = false := decide_eq_false (by omega)
  have g2 : decide (y < dy) = false := decide_eq_false (by omega)
  by_cases hd : 1099511627776 ≤ x - dx ∨ 1099511627776 ≤ y - dy
  ·have e : nearM m x y dx dy = zPix := by unfold nearM; rw [if_pos (by omega)]
   rw [e]
   have g3 : (decide (IntKind.u64.wrap (IntKind.u64.wrap x - IntKind.u64.wrap dx) ≥ 1099511627776) || decide (IntKind.u64.wrap (IntKind.u64.wrap y - IntKind.u64.wrap dy) ≥ 1099511627776)) = true := by
    rw [w1, w2]
    simp only [Bool.or_eq_true, decide_eq_true_eq]
    omega
   refine fn_a Tryz.func131 [.cell 10 52] ?_
   repeat' (first | refine dec_a (And.intro g1 (And.intro g2 g3)) ?_ | refine un_a ?_ | (refine st_a (fun K hK => ?_); and_intros; (all_goals first | (refine hK _ ?_; clear hK K) | exact auto_cl | skip)) | (refine ret_a ?_; (try clear hB KB); (try clear hK K)))
   rfl
  ·have e : nearM m x y dx dy = imgAt m (x - dx) (y - dy) := by unfold nearM; rw [if_neg (by omega)]
   rw [e]
   have ha := at_sp m (x - dx) (y - dy)
   generalize imgAt m (x - dx) (y - dy) = q at *
   have g3 : decide (IntKind.u64.wrap (IntKind.u64.wrap x - IntKind.u64.wrap dx) ≥ 1099511627776) = false := by rw [w1]; exact decide_eq_false (by omega)
   have g4 : decide (IntKind.u64.wrap (IntKind.u64.wrap y - IntKind.u64.wrap dy) ≥ 1099511627776) = false := by rw [w2]; exact decide_eq_false (by omega)
   refine fn_a Tryz.func131 [.cell 10 52] ?_
   repeat' (first | refine dec_a (And.intro g1 (And.intro g2 (And.intro g3 g4))) ?_ | refine un_a ?_ | ((first | refine st_a (fun K hK => ?_) | refine call_c (ha) ?_); and_intros; (all_goals first | (refine hK _ ?_; clear hK K) | exact auto_cl | skip)) | (refine ret_a ?_; (try clear hB KB); (try clear hK K)))
   rfl
theorem colours_sp (a : Acc) : Pure Sg 81 [ag (accE a)] (fun r => r = .b (ag (pixE ⟨a.c0, a.c1, a.c2, a.a, a.f⟩))) := by
 have ht : True := trivial
 refine fn_a Tryz.func81 [.cell 2 52] ?_
 repeat' (first | (refine st_a (fun K hK => ?_); and_intros; (all_goals first | (refine hK _ ?_; clear hK K) | exact auto_cl | skip)) | (refine ret_a ?_; (try clear hB KB); (try clear hK K)))
 rfl
theorem scaled_sp (m : Int) (o : Op) (p : Pixel) (k : Int) (hm : Full m) (hp : PixV p m) (hk : 0 ≤ k) (hkm : k ≤ m) (ho : 0 ≤ o.opacity) (hom : o.opacity ≤ m) :
  Pure Sg 133 [ag (opE o), ag (pixE p), U k, U m] (fun r => r = .tup [ag (pixE (scaledM m o p k)), B true]) := by
 have hpos := hm.pos
 unfold scaledM
 by_cases h : o.mask = 0
 ·rw [if_pos h]
  have hb := both_sp p m o.opacity m hm hp (by omega) (Int.le_refl _) ho hom
  have g : (o.mask != 0) = false := by rw [bne_eq_false_iff_eq]; exact h
  generalize scaleM (scaleM p m m) o.opacity m = q at *
  refine fn_a Tryz.func133 [.cell 8 52, .tmp 9] ?_
  repeat' (first | refine dec_a g ?_ | refine un_a ?_ | ((first | refine st_a (fun K hK => ?_) | refine call_c (hb) ?_); and_intros; (all_goals first | (refine hK _ ?_; clear hK K) | exact auto_cl | skip)) | (refine ret_a ?_; (try clear hB KB); (try clear hK K)))
  rfl
 ·rw [if_neg h]
  have hb := both_sp p k o.opacity m hm hp hk hkm ho hom
  have g : (o.mask != 0) = true := by rw [bne_iff_ne]; exact h
  generalize scaleM (scaleM p k m) o.opacity m = q at *
  refine fn_a Tryz.func133 [.cell 8 52, .tmp 9] ?_
  repeat' (first | refine dec_a g ?_ | refine un_a ?_ | ((first | refine st_a (fun K hK => ?_) | refine call_c (hb) ?_); and_intros; (all_goals first | (refine hK _ ?_; clear hK K) | exact auto_cl | skip)) | (refine ret_a ?_; (try clear hB KB); (try clear hK K)))
  rfl
theorem sample_sp (s : Script) (o : Op) (x y : Int) (hs : ScriptLen s) (hx : i64 x) (hy : i64 y) (h1 : i64 o.x) (h2 : i64 o.y) (h3 : i64 o.maskX) (h4 : i64 o.maskY) :
  Pure Sg 79 [ag (scriptE s), ag (opE o), I x, I y] (fun r => r = .tup [ag (pixE (smpM s x y o).1), U (smpM s x y o).2]) := by
 have hl := hs.images
 have n1 := near_sp (s.images.getD o.image.toNat default) x y o.x o.y hx hy h1 h2
 have n2 := near_sp (s.images.getD (o.mask - 1).toNat default) x y o.maskX o.maskY hx hy h3 h4
 unfold smpM imgM
 by_cases c1 : o.kind = 1 ∧ 0 ≤ o.image ∧ o.image < s.images.length
 ·have g1 : (o.kind == 1 && decide (o.image ≥ 0) && decide (o.image < s.images.length)) = true := by
   simp only [Bool.and_eq_true, beq_iff_eq, decide_eq_true_eq]; omega
  by_cases c2 : 1 ≤ o.mask ∧ o.mask ≤ s.images.length
  ·have g2 : (decide (o.mask ≥ 1) && decide (o.mask ≤ s.images.length)) = true := by
    simp only [Bool.and_eq_true, decide_eq_true_eq]; omega
   rw [if_pos c1, if_pos c2]
   generalize nearM (s.images.getD o.image.toNat default) x y o.x o.y = q1 at *
   generalize nearM (s.images.getD (o.mask - 1).toNat default) x y o.maskX o.maskY = q2 at *
   refine fn_a Tryz.func79 [.cell 8 52, .tmp 9] ?_
   repeat' (first | refine dec_a (And.intro g1 g2) ?_ | refine un_a ?_ | ((first | refine st_a (fun K hK => ?_) | refine call_c (n1) ?_ | refine call_c (n2) ?_); and_intros; (all_goals first | (refine hK _ ?_; clear hK K) | exact auto_cl | skip)) | (refine ret_a ?_; (try clear hB KB); (try clear hK K)))
   rfl
  ·have g2 : (decide (o.mask ≥ 1) && decide (o.mask ≤ s.images.length)) = false := by
    rw [← Bool.not_eq_true, Bool.and_eq_true, decide_eq_true_eq, decide_eq_true_eq]; omega
   rw [if_pos c1, if_neg c2]
   generalize nearM (s.images.getD o.image.toNat default) x y o.x o.y = q1 at *
   refine fn_a Tryz.func79 [.cell 8 52, .tmp 9] ?_
   repeat' (first | refine dec_a (And.intro g1 g2) ?_ | refine un_a ?_ | ((first | refine st_a (fun K hK => ?_) | refine call_c (n1) ?_); and_intros; (all_goals first | (refine hK _ ?_; clear hK K) | exact auto_cl | skip)) | (refine ret_a ?_; (try clear hB KB); (try clear hK K)))
   rfl
 ·have g1 : (o.kind == 1 && decide (o.image ≥ 0) && decide (o.image < s.images.length)) = false := by
   rw [← Bool.not_eq_true, Bool.and_eq_true, Bool.and_eq_true, beq_iff_eq, decide_eq_true_eq, decide_eq_true_eq]; omega
  by_cases c2 : 1 ≤ o.mask ∧ o.mask ≤ s.images.length
  ·have g2 : (decide (o.mask ≥ 1) && decide (o.mask ≤ s.images.length)) = true := by
    simp only [Bool.and_eq_true, decide_eq_true_eq]; omega
   rw [if_neg c1, if_pos c2]
   generalize nearM (s.images.getD (o.mask - 1).toNat default) x y o.maskX o.maskY = q2 at *
   refine fn_a Tryz.func79 [.cell 8 52, .tmp 9] ?_
   repeat' (first | refine dec_a (And.intro g1 g2) ?_ | refine un_a ?_ | ((first | refine st_a (fun K hK => ?_) | refine call_c (n2) ?_); and_intros; (all_goals first | (refine hK _ ?_; clear hK K) | exact auto_cl | skip)) | (refine ret_a ?_; (try clear hB KB); (try clear hK K)))
   rfl
  ·have g2 : (decide (o.mask ≥ 1) && decide (o.mask ≤ s.images.length)) = false := by
    rw [← Bool.not_eq_true, Bool.and_eq_true, decide_eq_true_eq, decide_eq_true_eq]; omega
   rw [if_neg c1, if_neg c2]
   refine fn_a Tryz.func79 [.cell 8 52, .tmp 9] ?_
   repeat' (first | refine dec_a (And.intro g1 g2) ?_ | refine un_a ?_ | (refine st_a (fun K hK => ?_); and_intros; (all_goals first | (refine hK _ ?_; clear hK K) | exact auto_cl | skip)) | (refine ret_a ?_; (try clear hB KB); (try clear hK K)))
   rfl
end Go.Proofs.YtlblgkelhibdoaaGreatDoor
