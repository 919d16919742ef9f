/- Part of the proof: VE. -/
import Derived.Test.YtlblgkelhibdoaaGreatDoorM55
import Derived.Test.YtlblgkelhibdoaaGreatDoorM56
import Derived.Test.YtlblgkelhibdoaaGreatDoorM58
set_option linter.unusedSimpArgs false
set_option linter.unusedVariables false
set_option maxHeartbeats 4000000
set_option maxRecDepth 16000
namespace Go.Proofs.YtlblgkelhibdoaaGreatDoor
open Go Go.SL
open Go.RowKit (wrap64)
attribute [local go_sem] Int.toNat_natCast rxE
theorem Of.slen {c : Scene} {s : Script} (h : Of c s) : ScriptLen s := by
 have h1 := (gScript_len c).order
 exact ⟨by rw [h.o]; exact h1, Nat.le_trans h.n2 (by decide), Nat.le_trans h.len (by decide)⟩
theorem Of.small {c : Scene} {s : Script} (h : Of c s) : Small s.canvas := by rw [h.cv]; exact gCanvas_small c
theorem Of.render {c : Scene} {s : Script} (h : Of c s) : Pure Sg 23 [ag (scriptE s)] (fun r => r = .tup [ag (imageE (renderM s)), I 0, I 0]) :=
 render_sp s h.slen h.small h.V (by rw [h.mx]; exact full_g c) h.im (fun x y q => ⟨_, h.pt (by rw [h.cv] at q; exact q)⟩)
theorem render_same {s t : Script} (hc : Small s.canvas) (e : t.canvas = s.canvas) (h : ∀ x y, inR s.canvas x y → valueM t x y = valueM s x y) : renderM t = renderM s := by
 have hp : pointsM t ((s.canvas.x1 - s.canvas.x0) * (s.canvas.y1 - s.canvas.y0)).toNat = pointsM s ((s.canvas.x1 - s.canvas.x0) * (s.canvas.y1 - s.canvas.y0)).toNat := by
  refine List.map_congr_left fun q hq => ?_
  rw [List.mem_range] at hq
  unfold ptM
  rw [e]
  refine h _ _ ?_
  obtain ⟨x0, x1, y0, y1, hw, hh⟩ := hc
  obtain ⟨W, hW⟩ : ∃ W : Nat, (W : Int) = s.canvas.x1 - s.canvas.x0 := ⟨(s.canvas.x1 - s.canvas.x0).toNat, by omega⟩
  obtain ⟨H, hH⟩ : ∃ H : Nat, (H : Int) = s.canvas.y1 - s.canvas.y0 := ⟨(s.canvas.y1 - s.canvas.y0).toNat, by omega⟩
  rw [← hW, ← hH, ← Int.natCast_mul, Int.toNat_natCast] at hq
  have eW : (s.canvas.x1 - s.canvas.x0).toNat = W := by omega
  rw [eW]
  have q1 := Nat.mod_lt q (show W > 0 by omega)
  have q2 := Nat.div_lt_of_lt_mul hq
  unfold inR
  generalize q % W = a at *
  generalize q / W = b at *
  omega
 unfold renderM
 rw [e, hp]
theorem img_len {s : Script} (hc : Small s.canvas) : ImgLen (renderM s) := by
 obtain ⟨x0, x1, y0, y1, hw, hh⟩ := hc
 have hl : ((s.canvas.x1 - s.canvas.x0) * (s.canvas.y1 - s.canvas.y0)).toNat ≤ 20 := by
  have := Int.mul_le_mul hw.2 hh.2 (by omega) (by decide : (0 : Int) ≤ 5)
  omega
 have hn := @points_len s ((s.canvas.x1 - s.canvas.x0) * (s.canvas.y1 - s.canvas.y0)).toNat
 unfold renderM imageOfM
 split
 ·refine ⟨?_, ?_, ?_, ?_, ?_⟩ <;> (show (List.map _ _).length ≤ _; rw [List.length_map, hn]; omega)
 ·exact ⟨Nat.zero_le _, Nat.zero_le _, Nat.zero_le _, Nat.zero_le _, Nat.zero_le _⟩
theorem Of.bias (c : Scene) (l : List Int) : Of c (biasM (gScript c) l) := of_bias (of_g c) (gImages_le c).2 l
end Go.Proofs.YtlblgkelhibdoaaGreatDoor
