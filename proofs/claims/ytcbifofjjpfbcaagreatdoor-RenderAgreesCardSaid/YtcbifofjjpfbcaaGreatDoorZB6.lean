/-
  The law RenderAgrees of compositorlaw25 answers true for every scene and every integer that it is given, and leaves both of them as they were. It asks nothing else of its arguments; the package-level variables that its row lists hold what the row says.
-/
import Derived.Test.YtcbifofjjpfbcaaGreatDoorCards
import Derived.Test.YtcbifofjjpfbcaaGreatDoorTie
import Derived.Deep.DeepHandedRow
import Derived.Test.YtcbifofjjpfbcaaGreatDoorM36
import Derived.Test.YtcbifofjjpfbcaaGreatDoorM35
set_option maxRecDepth 100000
namespace Go.Proofs.YtcbifofjjpfbcaaGreatDoor.renderAgrees
open Go.ChangeShapes Go.WideShapes Go.ChangeAt Go.RowKit Go.SL
theorem and_tt {a b:Bool} (ha:a=true) (hb:b=true):(a && b)=true:=by rw [ha,hb];rfl
set_option maxHeartbeats 4000000 in
theorem closed:joinedFacts Tryz.pinned.checked.prog 3 Tryz.f3 (OpenSpec.ofChange Rows.renderAgreesSpec).bare Rows.renderAgreesRow=true:=by
 unfold joinedFacts
 repeat' (with_reducible refine and_tt ?_ ?_)
 all_goals as_aux_lemma=>kernel_rfl
end Go.Proofs.YtcbifofjjpfbcaaGreatDoor.renderAgrees
