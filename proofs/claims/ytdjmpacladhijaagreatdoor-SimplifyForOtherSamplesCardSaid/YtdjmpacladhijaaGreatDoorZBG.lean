/-
  The law SimplifyForOtherSamples of compositorlaw27 answers true for every two scenes and every list of integers that it is given, and leaves all of them as they were. It asks nothing else of its arguments; the package-level variables that its row lists hold what the row says.
-/
import Derived.Test.YtdjmpacladhijaaGreatDoorXtP
import Derived.Test.YtdjmpacladhijaaGreatDoorCards
import Derived.Test.YtdjmpacladhijaaGreatDoorTie
import Derived.Deep.DeepHandedRow
import Derived.Test.YtdjmpacladhijaaGreatDoorM55
import Derived.Test.YtdjmpacladhijaaGreatDoorM62
set_option maxRecDepth 100000
namespace Go.Proofs.YtdjmpacladhijaaGreatDoor.simplifyForOtherSamples
open Go.ChangeShapes Go.WideShapes Go.ChangeAt Go.RowKit Go.SL
theorem and_tt {a b:Bool} (ha:a=true) (hb:b=true):(a && b)=true:=by rw [ha,hb];rfl
set_option maxHeartbeats 4000000 in
theorem closed:joinedFacts Tryz.pinned.checked.prog 8 Tryz.f8 (OpenSpec.ofChange Rows.simplifyForOtherSamplesSpec).bare Rows.simplifyForOtherSamplesRow=true:=by
 unfold joinedFacts
 repeat' (with_reducible refine and_tt ?_ ?_)
 all_goals as_aux_lemma=>kernel_rfl
end Go.Proofs.YtdjmpacladhijaaGreatDoor.simplifyForOtherSamples
