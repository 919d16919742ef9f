/-
  The law RenderRegionIsAPart of compositorlaw25 answers true for every scene, every two arrays of four integers and every two integers that it is given, and leaves all of them as they were. It asks nothing else of its arguments; the package-level variables that its row lists hold what the row says.
-/
import Derived.Test.YtcbifofjjpfbcaaGreatDoorCards
import Derived.Test.YtcbifofjjpfbcaaGreatDoorTie
import Derived.Deep.DeepHandedRow
import Derived.Test.YtcbifofjjpfbcaaGreatDoorM38
set_option maxRecDepth 100000
namespace Go.Proofs.YtcbifofjjpfbcaaGreatDoor.renderRegionIsAPart
open Go.ChangeShapes Go.WideShapes Go.ChangeAt Go.RowKit Go.SL
theorem and_tt {a b:Bool} (ha:a=true) (hb:b=true):(a && b)=true:=by rw [ha,hb];rfl
set_option maxHeartbeats 4000000 in
theorem closed:joinedFacts Tryz.pinned.checked.prog 6 Tryz.f6 (OpenSpec.ofChange Rows.renderRegionIsAPartSpec).bare Rows.renderRegionIsAPartRow=true:=by
 unfold joinedFacts
 repeat' (with_reducible refine and_tt ?_ ?_)
 all_goals as_aux_lemma=>kernel_rfl
end Go.Proofs.YtcbifofjjpfbcaaGreatDoor.renderRegionIsAPart
