/- Part of the proof: BrV. -/
import Derived.Test.YtdjmpacladhijaaGreatDoorM54
set_option linter.unusedSimpArgs false
set_option linter.unusedVariables false
set_option maxRecDepth 8000
namespace Go.Proofs.YtdjmpacladhijaaGreatDoor
open Go Go.SL Go.ChangeShapes Go.WideShapes Go.ChangeAt Go.RowKit
theorem a7Y:ri Sg.P 30 n4E (fun _=>True):=by
 refine ri.to (gI ?_ ?_ (aO dt rfl (aO dt rfl (aO dt rfl (aO dt rfl jz))))) (fun (a,b,c,d,_)=>(⟨a,b,c,d⟩:N4)) (fun _=>rfl) ?_
 ·kernel_rfl
 ·kernel_rfl
 ·intro _ _;trivial
end Go.Proofs.YtdjmpacladhijaaGreatDoor
