/- Part of the proof: E6. -/
import Derived.Test.YtlblgkelhibdoaaGreatDoorM48
import Derived.Test.YtlblgkelhibdoaaGreatDoorM49
set_option linter.unusedSimpArgs false
set_option linter.unusedVariables false
set_option maxHeartbeats 2000000
set_option maxRecDepth 16000
namespace Go.Proofs.YtlblgkelhibdoaaGreatDoor
open Go Go.SL
open Go.RowKit (wrap64)
attribute [local go_sem] Int.toNat_natCast vP vf0 vf1 vf2 vf3 vf4 vf5 vf6 vf7 vf8 vf9 vf10 vf11 vf12 vf13 vf14 tiF1 tiF2 tiF3
theorem flR0 : Sg.fld 180 0 = some (0, 1, false) := by kernel_rfl
theorem flR1 : Sg.fld 180 1 = some (1, 1, false) := by kernel_rfl
theorem elR : Sg.el 117 = some (none, 180, 2, true) := by kernel_rfl
attribute [local go_sem] flR0 flR1 elR
theorem applies_sp (s : Script) (V : VOps s) (hs : ScriptLen s) (n i : Int) : Pure Sg 51 [vP s, I n, I i] (fun x => x = .b (B (apM s n i))) := by
 have hn := V.cnt
 refine fn_a Tryz.func51 [.tmp 6] ?_
 repeat' ((first | refine st_a (fun K hK => ?_) | refine call_c (table_sp) ?_); and_intros; (all_goals first | (refine hK _ ?_; clear hK K) | exact auto_cl | skip))
 refine rgs_split (B false) ?_ ?_ trivial ?_ (fun hg => ?_) (fun hg => ?_)
 ·rfl
 ·rfl
 ·first | (simp (maxSteps := 1000000) (disch := omega) only [go_sem]; done) | (simp (maxSteps := 1000000) (disch := omega) only [go_sem]; rfl)
 ·simp only [Bool.and_eq_true, decide_eq_true_eq, bne_iff_ne, ne_eq, ge_iff_le] at hg
  obtain ⟨⟨⟨⟨g1, g2⟩, g3⟩, g4⟩, h3⟩ := hg
  obtain ⟨k, rfl⟩ := Int.eq_ofNat_of_zero_le g3
  have hk : k < s.ops.length := by omega
  have h3 : (opAt s.ops k).kind ≠ 3 := h3
  have g2 : n < 10 := g2
  have hv : n = 1 ∨ n = 2 ∨ n = 3 ∨ n = 4 ∨ n = 5 ∨ n = 6 ∨ n = 7 ∨ n = 8 ∨ n = 9 := by omega
  rcases hv with rfl | rfl | rfl | rfl | rfl | rfl | rfl | rfl | rfl
  ·have hsp := invisible_sp s V hs k hk h3
   have ht : tblF (Int.toNat 1) 0 = fnV 94 := rfl
   simp (maxSteps := 1000000) (disch := omega) only [go_sem, ht, fnV]
   refine ⟨⟨⟨⟨⟨by decide, by decide⟩, g3⟩, g4⟩, h3⟩, ?_⟩
   refine call_a hsp ?_
   simp (maxSteps := 1000000) (disch := omega) only [go_sem]
   refine hK _ ?_
   clear hK
   repeat' (refine ret_a ?_; (try clear hB KB); (try clear hK K))
   exact vb rfl
  ·have hsp := dst_sp s V k hk
   have ht : tblF (Int.toNat 2) 0 = fnV 96 := rfl
   simp (maxSteps := 1000000) (disch := omega) only [go_sem, ht, fnV]
   refine ⟨⟨⟨⟨⟨by decide, by decide⟩, g3⟩, g4⟩, h3⟩, ?_⟩
   refine call_a hsp ?_
   simp (maxSteps := 1000000) (disch := omega) only [go_sem]
   refine hK _ ?_
   clear hK
   repeat' (refine ret_a ?_; (try clear hB KB); (try clear hK K))
   exact vb rfl
  ·have hsp := nothing_sp s V k hk
   have ht : tblF (Int.toNat 3) 0 = fnV 97 := rfl
   simp (maxSteps := 1000000) (disch := omega) only [go_sem, ht, fnV]
   refine ⟨⟨⟨⟨⟨by decide, by decide⟩, g3⟩, g4⟩, h3⟩, ?_⟩
   refine call_a hsp ?_
   simp (maxSteps := 1000000) (disch := omega) only [go_sem]
   refine hK _ ?_
   clear hK
   repeat' (refine ret_a ?_; (try clear hB KB); (try clear hK K))
   exact vb rfl
  ·have hsp := covered_sp s V hs k hk
   have ht : tblF (Int.toNat 4) 0 = fnV 98 := rfl
   simp (maxSteps := 1000000) (disch := omega) only [go_sem, ht, fnV]
   refine ⟨⟨⟨⟨⟨by decide, by decide⟩, g3⟩, g4⟩, h3⟩, ?_⟩
   refine call_a hsp ?_
   simp (maxSteps := 1000000) (disch := omega) only [go_sem]
   refine hK _ ?_
   clear hK
   repeat' (refine ret_a ?_; (try clear hB KB); (try clear hK K))
   exact vb rfl
  ·have hsp := mask_sp s V hs k hk
   have ht : tblF (Int.toNat 5) 0 = fnV 99 := rfl
   simp (maxSteps := 1000000) (disch := omega) only [go_sem, ht, fnV]
   refine ⟨⟨⟨⟨⟨by decide, by decide⟩, g3⟩, g4⟩, h3⟩, ?_⟩
   refine call_a hsp ?_
   simp (maxSteps := 1000000) (disch := omega) only [go_sem]
   refine hK _ ?_
   clear hK
   repeat' (refine ret_a ?_; (try clear hB KB); (try clear hK K))
   exact vb rfl
  ·have hsp := isolate_sp s V k hk
   have ht : tblF (Int.toNat 6) 0 = fnV 102 := rfl
   simp (maxSteps := 1000000) (disch := omega) only [go_sem, ht, fnV]
   refine ⟨⟨⟨⟨⟨by decide, by decide⟩, g3⟩, g4⟩, h3⟩, ?_⟩
   refine call_a hsp ?_
   simp (maxSteps := 1000000) (disch := omega) only [go_sem]
   refine hK _ ?_
   clear hK
   repeat' (refine ret_a ?_; (try clear hB KB); (try clear hK K))
   exact vb rfl
  ·have hsp := normal_sp s V k hk
   have ht : tblF (Int.toNat 7) 0 = fnV 104 := rfl
   simp (maxSteps := 1000000) (disch := omega) only [go_sem, ht, fnV]
   refine ⟨⟨⟨⟨⟨by decide, by decide⟩, g3⟩, g4⟩, h3⟩, ?_⟩
   refine call_a hsp ?_
   simp (maxSteps := 1000000) (disch := omega) only [go_sem]
   refine hK _ ?_
   clear hK
   repeat' (refine ret_a ?_; (try clear hB KB); (try clear hK K))
   exact vb rfl
  ·have hsp := single_sp s V k hk
   have ht : tblF (Int.toNat 8) 0 = fnV 106 := rfl
   simp (maxSteps := 1000000) (disch := omega) only [go_sem, ht, fnV]
   refine ⟨⟨⟨⟨⟨by decide, by decide⟩, g3⟩, g4⟩, h3⟩, ?_⟩
   refine call_a hsp ?_
   simp (maxSteps := 1000000) (disch := omega) only [go_sem]
   refine hK _ ?_
   clear hK
   repeat' (refine ret_a ?_; (try clear hB KB); (try clear hK K))
   exact vb rfl
  ·have hsp := unwrap_sp s V k hk
   have ht : tblF (Int.toNat 9) 0 = fnV 108 := rfl
   simp (maxSteps := 1000000) (disch := omega) only [go_sem, ht, fnV]
   refine ⟨⟨⟨⟨⟨by decide, by decide⟩, g3⟩, g4⟩, h3⟩, ?_⟩
   refine call_a hsp ?_
   simp (maxSteps := 1000000) (disch := omega) only [go_sem]
   refine hK _ ?_
   clear hK
   repeat' (refine ret_a ?_; (try clear hB KB); (try clear hK K))
   exact vb rfl
 ·simp (maxSteps := 1000000) (disch := omega) only [go_sem]
  refine hK _ ?_
  clear hK
  repeat' (refine ret_a ?_; (try clear hB KB); (try clear hK K))
  refine vb ?_
  rw [apM, show (decide (1 ≤ n) && decide (n < 10) && decide (0 ≤ i) && decide (i < s.ops.length) && !decide ((opAt s.ops i.toNat).kind = 3)) = false from hg, Bool.and_false]
  rfl
end Go.Proofs.YtlblgkelhibdoaaGreatDoor
