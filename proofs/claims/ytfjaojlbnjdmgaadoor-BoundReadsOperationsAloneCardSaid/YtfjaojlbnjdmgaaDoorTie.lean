/-
  DERIVED. GIVEN WITH THE SEED: THE PROGRAM's TIES (one call each: nine closed facts by the kernel) AND EACH ROW's TIE, after the 31st guide's Derived/Test/Toyas{Tie, Card}.lean. No idea stands in it: it is a product of the set-up. Laid BY PROGRAM, IN A SANDBOX (cutbox-door.mjs). By AI agents, Wed Nov 11 2026. No macro, syntax, notation, axiom, sorry.
-/
import Derived.Test.YtfjaojlbnjdmgaaDoorRows
import Derived.LaidByTextLater
import Derived.SevenTiedAt
import Derived.LaidSub
import Derived.LaidOnce
namespace Go.Proofs.YtfjaojlbnjdmgaaDoor
open Go
set_option maxRecDepth 100000
theorem seatTie1 : Tryd.prog.laidByTextLater [("compositor/operator.rules", Rows.laid_compositor_operator_rules), ("compositor/blend.names", Rows.laid_compositor_blend_names), ("compositor/bound.constants", Rows.laid_compositor_bound_constants)] [.data, .data, .data] true :=
  Program.laidByTextLater_by_one 47 8 53 (by kernel_rfl) (by kernel_rfl) (by kernel_rfl) (by kernel_rfl) (by kernel_rfl) (by kernel_rfl) (fun _ _ => by kernel_rfl)
theorem noOwnUnsafe : Tryd.pinned.checked.prog.headLifts.contains "ownunsafe" = false := by kernel_rfl
theorem tie : Tryd.prog.laidByTextLater [("compositor/operator.rules", Rows.laid_compositor_operator_rules), ("compositor/blend.names", Rows.laid_compositor_blend_names), ("compositor/bound.constants", Rows.laid_compositor_bound_constants)] [.data, .data, .data] true :=
  Program.laidByTextLater.sub seatTie1 ["compositor/operator.rules", "compositor/blend.names", "compositor/bound.constants"] (by kernel_rfl) (by kernel_rfl)
theorem boundConstantsAgree_row_tie : Rows.boundConstantsAgreeRow.laidByTextAt .later Tryd.pinned [.data, .data, .data] true :=
  OpenClaim.laidByTextAt_later rfl rfl tie noOwnUnsafe
theorem boundErrorAgrees_row_tie : Rows.boundErrorAgreesRow.laidByTextAt .later Tryd.pinned [.data, .data, .data] true :=
  OpenClaim.laidByTextAt_later rfl rfl tie noOwnUnsafe
theorem boundOfNormalLayers_row_tie : Rows.boundOfNormalLayersRow.laidByTextAt .later Tryd.pinned [.data, .data, .data] true :=
  OpenClaim.laidByTextAt_later rfl rfl tie noOwnUnsafe
theorem boundReadsOperationsAlone_row_tie : Rows.boundReadsOperationsAloneRow.laidByTextAt .later Tryd.pinned [.data, .data, .data] true :=
  OpenClaim.laidByTextAt_later rfl rfl tie noOwnUnsafe
theorem boundGrows_row_tie : Rows.boundGrowsRow.laidByTextAt .later Tryd.pinned [.data, .data, .data] true :=
  OpenClaim.laidByTextAt_later rfl rfl tie noOwnUnsafe
theorem boundConstantsAgreeUpto_row_tie : Rows.boundConstantsAgreeUptoRow.laidByTextAt .later Tryd.pinned [.data, .data, .data] true :=
  OpenClaim.laidByTextAt_later rfl rfl tie noOwnUnsafe
theorem boundErrorAgreesUpto_row_tie : Rows.boundErrorAgreesUptoRow.laidByTextAt .later Tryd.pinned [.data, .data, .data] true :=
  OpenClaim.laidByTextAt_later rfl rfl tie noOwnUnsafe
theorem boundOfNormalLayersUpto_row_tie : Rows.boundOfNormalLayersUptoRow.laidByTextAt .later Tryd.pinned [.data, .data, .data] true :=
  OpenClaim.laidByTextAt_later rfl rfl tie noOwnUnsafe
theorem boundReadsOperationsAloneUpto_row_tie : Rows.boundReadsOperationsAloneUptoRow.laidByTextAt .later Tryd.pinned [.data, .data, .data] true :=
  OpenClaim.laidByTextAt_later rfl rfl tie noOwnUnsafe
theorem boundGrowsUpto_row_tie : Rows.boundGrowsUptoRow.laidByTextAt .later Tryd.pinned [.data, .data, .data] true :=
  OpenClaim.laidByTextAt_later rfl rfl tie noOwnUnsafe
end Go.Proofs.YtfjaojlbnjdmgaaDoor
