/-
  The law RenderRejects of compositorlaw25 answers true for every scene, every integer, every operation and every rectangle that it is given, and leaves all of them as they were. It asks nothing else of its arguments; the package-level variables that its row lists hold what the row says.
-/
import Derived.Test.YtcbifofjjpfbcaaGreatDoorCards
import Derived.Test.YtcbifofjjpfbcaaGreatDoorTie
import Derived.Deep.DeepHandedRow
import Derived.Test.YtcbifofjjpfbcaaGreatDoorM37
set_option maxRecDepth 100000
namespace Go.Proofs.YtcbifofjjpfbcaaGreatDoor.renderRejects
open Go.ChangeShapes Go.WideShapes Go.ChangeAt Go.RowKit Go.SL
theorem and_tt {a b:Bool} (ha:a=true) (hb:b=true):(a && b)=true:=by rw [ha,hb];rfl
set_option maxHeartbeats 4000000 in
theorem closed:joinedFacts Tryz.pinned.checked.prog 8 Tryz.f8 (OpenSpec.ofChange Rows.renderRejectsSpec).bare Rows.renderRejectsRow=true:=by
 unfold joinedFacts
 repeat' (with_reducible refine and_tt ?_ ?_)
 all_goals as_aux_lemma=>kernel_rfl
end Go.Proofs.YtcbifofjjpfbcaaGreatDoor.renderRejects
