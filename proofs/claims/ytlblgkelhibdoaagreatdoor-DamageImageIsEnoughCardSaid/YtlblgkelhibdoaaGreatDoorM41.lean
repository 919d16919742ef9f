/- Part of the proof: VD. -/
import Derived.Test.YtlblgkelhibdoaaGreatDoorM26
import Derived.Test.YtlblgkelhibdoaaGreatDoorM39
import Derived.Test.YtlblgkelhibdoaaGreatDoorM40
set_option linter.unusedSimpArgs false
set_option linter.unusedVariables false
set_option maxHeartbeats 4000000
set_option maxRecDepth 16000
namespace Go.Proofs.YtlblgkelhibdoaaGreatDoor
open Go Go.SL
open Go.RowKit (wrap64)
attribute [local go_sem] Int.toNat_natCast
def conB (r : Rect) (x y : Int) : Bool := !emptyR r && decide (r.x0 ≤ x) && decide (x < r.x1) && decide (r.y0 ≤ y) && decide (y < r.y1)
theorem con_iff {r : Rect} {x y : Int} : conB r x y = true ↔ inB r x y := by
 unfold conB inB inR
 simp only [Bool.and_eq_true, Bool.not_eq_true', decide_eq_true_eq, and_assoc]
theorem contains_sp (r : Rect) (x y : Int) : Pure Sg 15 [ag (rectE r), I x, I y] (fun q => q = .b (B (conB r x y))) := by
 have ht : True := trivial
 have h1 := r13empty_spec r
 refine fn_a Tryz.func15 [.tmp 6] ?_
 repeat' (first | with_reducible exact tr_a | refine dec_a ht ?_ | refine un_a ?_ | ((first | refine st_a (fun K hK => ?_) | refine rg_a ?_ | refine call_c (h1) ?_ | refine gcall_c (fun hg => h1) ?_); and_intros; (all_goals first | (refine hK _ ?_; clear hK K) | exact auto_cl | skip)) | ((first | apply cw_ite | apply cw_iteN); (case hf => rfl); (case hc => exact ev_a); (all_goals first | (intro hb; (try simp only [hbs] at hb)) | skip)) | exact atN_intro | (refine if_a (fun hb => ?_) (fun hb => ?_); all_goals try exact bad_a) | refine cw_blocks (fun KB hB => ?_) | (refine hB _ ?_; clear hB KB) | refine exit_by (S := Sg) (by assumption) ?_ | (refine ret_a ?_; (try clear hB KB); (try clear hK K)))
 rfl
def ptX (r : Rect) (x : Int) : Int := r.x0 + x % (r.x1 - r.x0)
def ptY (r : Rect) (y : Int) : Int := r.y0 + y % (r.y1 - r.y0)
theorem point_sp (r : Rect) (x y : Int) (hr : Small r) : Pure Sg 12 [ag (rectE r), I x, I y] (fun q => q = .tup [I (ptX r x), I (ptY r y)]) := by
 have ht : True := trivial
 obtain ⟨x0, x1, y0, y1, hw, hh⟩ := hr
 have h1 := modp_spec x (r.x1 - r.x0) (by omega) (by omega)
 have h2 := modp_spec y (r.y1 - r.y0) (by omega) (by omega)
 have a1 := Int.emod_nonneg x (show r.x1 - r.x0 ≠ 0 by omega)
 have a2 := Int.emod_lt_of_pos x (show 0 < r.x1 - r.x0 by omega)
 have a3 := Int.emod_nonneg y (show r.y1 - r.y0 ≠ 0 by omega)
 have a4 := Int.emod_lt_of_pos y (show 0 < r.y1 - r.y0 by omega)
 unfold ptX ptY
 generalize x % (r.x1 - r.x0) = a at *
 generalize y % (r.y1 - r.y0) = b at *
 refine fn_a Tryz.func12 [.tmp 6, .tmp 7] ?_
 repeat' (first | with_reducible exact tr_a | refine dec_a ht ?_ | refine un_a ?_ | ((first | refine st_a (fun K hK => ?_) | refine rg_a ?_ | refine call_c (h1) ?_ | refine gcall_c (fun hg => h1) ?_ | refine call_c (h2) ?_ | refine gcall_c (fun hg => h2) ?_); and_intros; (all_goals first | (refine hK _ ?_; clear hK K) | exact auto_cl | skip)) | ((first | apply cw_ite | apply cw_iteN); (case hf => rfl); (case hc => exact ev_a); (all_goals first | (intro hb; (try simp only [hbs] at hb)) | skip)) | exact atN_intro | (refine if_a (fun hb => ?_) (fun hb => ?_); all_goals try exact bad_a) | refine cw_blocks (fun KB hB => ?_) | (refine hB _ ?_; clear hB KB) | refine exit_by (S := Sg) (by assumption) ?_ | (refine ret_a ?_; (try clear hB KB); (try clear hK K)))
theorem pt_in {r : Rect} (hr : Small r) (x y : Int) : inR r (ptX r x) (ptY r y) := by
 obtain ⟨x0, x1, y0, y1, hw, hh⟩ := hr
 have a1 := Int.emod_nonneg x (show r.x1 - r.x0 ≠ 0 by omega)
 have a2 := Int.emod_lt_of_pos x (show 0 < r.x1 - r.x0 by omega)
 have a3 := Int.emod_nonneg y (show r.y1 - r.y0 ≠ 0 by omega)
 have a4 := Int.emod_lt_of_pos y (show 0 < r.y1 - r.y0 by omega)
 unfold ptX ptY inR
 omega
theorem two_value {c : Scene} {s t : Script} (hs : Of c s) (ht : Of c t) (him : s.images = t.images) (x y : Int) :
  (betweenM s t).2 = 0 ∧ (conB (betweenM s t).1 (ptX s.canvas x) (ptY s.canvas y) = false → valueM s (ptX s.canvas x) (ptY s.canvas y) = valueM t (ptX s.canvas x) (ptY s.canvas y)) := by
 have e1 : (opsM s).1 = 0 := by rw [vops0 hs.V]
 have e2 : (opsM t).1 = 0 := by rw [vops0 ht.V]
 have hz : sizesM s t = true := by
  unfold sizesM
  rw [him, decide_eq_true ⟨hs.b.trans ht.b.symm, hs.cv.trans ht.cv.symm, rfl⟩, Bool.true_and, List.all_eq_true]
  exact fun i _ => decide_eq_true ⟨rfl, rfl⟩
 have hsm : Small s.canvas := by rw [hs.cv]; exact gCanvas_small c
 refine ⟨?_, fun h => ?_⟩
 ·unfold betweenM
  rw [if_neg (by simp [e1]), if_neg (by simp [e2]), if_neg (by simp [hz])]
  split <;> rfl
 ·have hin := pt_in hsm x y
  have hin2 := hin
  rw [hs.cv] at hin2
  refine between_value (hs.pt (by rw [hs.cv]; exact hin2)) (ht.pt (by rw [hs.cv]; exact hin2)) ⟨him, hs.cv.trans ht.cv.symm⟩ (fun q => ?_) e1 e2 hz
  rw [con_iff.2 q] at h
  cases h
end Go.Proofs.YtlblgkelhibdoaaGreatDoor
