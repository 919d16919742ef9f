/- Part of the proof: EC. -/
import Derived.Test.YtlblgkelhibdoaaGreatDoorM19
import Derived.Test.YtlblgkelhibdoaaGreatDoorM25
import Derived.Test.YtlblgkelhibdoaaGreatDoorM54
set_option linter.unusedSimpArgs false
set_option linter.unusedVariables false
set_option maxRecDepth 8000
set_option maxHeartbeats 2000000
namespace Go.Proofs.YtlblgkelhibdoaaGreatDoor
open Go Go.SL
open Go.RowKit (wrap64)
attribute [local go_sem] Int.toNat_natCast rxE
structure PlB (m : Image) : Prop where
 p0 : m.p0.s.length ≤ 1000000000
 p1 : m.p1.s.length ≤ 1000000000
 p2 : m.p2.s.length ≤ 1000000000
 p3 : m.p3.s.length ≤ 1000000000
 p4 : m.p4.s.length ≤ 1000000000
theorem plb_solid (w h : Int) (p : Pixel) : PlB (solidOf w h p) := ⟨Nat.zero_le _, Nat.zero_le _, Nat.zero_le _, Nat.zero_le _, Nat.zero_le _⟩
theorem plb_imageOf (w h : Int) (l : List Pixel) (hl : l.length ≤ 1000000000) : PlB (imageOf w h l) := by
 refine ⟨?_, ?_, ?_, ?_, ?_⟩ <;> (show (List.map _ l).length ≤ _; rw [List.length_map]; exact hl)
theorem plb_g (c : Scene) (i : Nat) (hi : i < (gImages c).length) : PlB ((gImages c).getD i default) := by
 have hm : (gImages c).getD i default ∈ gImages c := by
  rw [List.getD_eq_getElem?_getD, List.getElem?_eq_getElem hi]; exact List.getElem_mem _
 generalize (gImages c).getD i default = m at hm
 unfold gImages at hm
 split at hm
 ·rw [List.mem_singleton.1 hm]; exact plb_solid _ _ _
 ·unfold gImages0 at hm
  obtain ⟨p, hp, rfl⟩ := List.mem_map.1 hm
  unfold gImage
  split
  ·exact plb_solid _ _ _
  ·refine plb_imageOf _ _ _ ?_
   have := gW_le (p := p) (gCanvas_small c)
   rw [gPixels, List.length_map, List.length_range]
   omega
theorem plb_bias (c : Scene) (l : List Int) (i : Nat) (hi : i < (biasM (gScript c) l).images.length) : PlB ((biasM (gScript c) l).images.getD i default) := by
 show PlB ((bImgs (gScript c)).getD i default)
 have hl : (bImgs (gScript c)).length = (gImages c).length + 2 := by rw [bImgs, List.length_append]; rfl
 have hi : i < (bImgs (gScript c)).length := hi
 rcases Nat.lt_or_ge i (gImages c).length with h | h
 ·have e : (bImgs (gScript c)).getD i default = (gImages c).getD i default := by
   show (gImages c ++ [bCover (gScript c), bDot (gScript c)]).getD i default = _
   rw [List.getD_eq_getElem?_getD, List.getD_eq_getElem?_getD, List.getElem?_append_left h]
  rw [e]; exact plb_g c i h
 ·have hv : i = (gImages c).length ∨ i = (gImages c).length + 1 := by omega
  rcases hv with rfl | rfl
  ·have e : (bImgs (gScript c)).getD (gImages c).length default = bCover (gScript c) := by
    show (gImages c ++ [bCover (gScript c), bDot (gScript c)]).getD (gImages c).length default = _
    rw [List.getD_eq_getElem?_getD, List.getElem?_append_right (Nat.le_refl _), Nat.sub_self]; rfl
   rw [e]; exact plb_solid _ _ _
  ·have e : (bImgs (gScript c)).getD ((gImages c).length + 1) default = bDot (gScript c) := by
    show (gImages c ++ [bCover (gScript c), bDot (gScript c)]).getD ((gImages c).length + 1) default = _
    rw [List.getD_eq_getElem?_getD, List.getElem?_append_right (Nat.le_succ _), Nat.succ_sub (Nat.le_refl _), Nat.sub_self]; rfl
   rw [e]; exact plb_solid _ _ _
theorem bias_imgs (c : Scene) (l : List Int) : (biasM (gScript c) l).images.length = (gImages c).length + 2 := by
 show (bImgs (gScript c)).length = _
 rw [bImgs, List.length_append]; rfl
theorem bias_ops (c : Scene) (l : List Int) : (biasM (gScript c) l).ops.length = (gScript c).ops.length := bAt_len _ _ _
theorem sml_bias (c : Scene) (l : List Int) : Sml (biasM (gScript c) l) := by
 have hi := gImages_le c
 have hn := bias_imgs c l
 have ht := tiles_le c
 refine ⟨?_, by omega, by omega, fun i h => (plb_bias c l i h).p0, fun i h => (plb_bias c l i h).p1, fun i h => (plb_bias c l i h).p2, fun i h => (plb_bias c l i h).p3, fun i h => (plb_bias c l i h).p4⟩
 exact Nat.le_trans (gorder_len c) (by decide)
theorem len_bias (c : Scene) (l : List Int) : ScriptLen (biasM (gScript c) l) := by
 have h := gScript_len c
 have hi := gImages_le c
 have hn := bias_imgs c l
 have ho := bias_ops c l
 exact ⟨h.order, by omega, by rw [ho]; exact h.ops⟩
end Go.Proofs.YtlblgkelhibdoaaGreatDoor
