/-
  The law SimplifyKeepsErrors of compositorlaw27 answers true for every scene, every list of integers, every two integers and every pixel that it is given, and leaves all of them as they were. It asks nothing else of its arguments; the package-level variables that its row lists hold what the row says.
-/
import Derived.Test.YtdjmpacladhijaaGreatDoorXtP
import Derived.Test.YtdjmpacladhijaaGreatDoorCards
import Derived.Test.YtdjmpacladhijaaGreatDoorTie
import Derived.Deep.DeepHandedRow
import Derived.Test.YtdjmpacladhijaaGreatDoorM60
set_option maxRecDepth 100000
namespace Go.Proofs.YtdjmpacladhijaaGreatDoor.simplifyKeepsErrors
open Go.ChangeShapes Go.WideShapes Go.ChangeAt Go.RowKit Go.SL
theorem and_tt {a b:Bool} (ha:a=true) (hb:b=true):(a && b)=true:=by rw [ha,hb];rfl
set_option maxHeartbeats 4000000 in
theorem closed:joinedFacts Tryz.pinned.checked.prog 9 Tryz.f9 (OpenSpec.ofChange Rows.simplifyKeepsErrorsSpec).bare Rows.simplifyKeepsErrorsRow=true:=by
 unfold joinedFacts
 repeat' (with_reducible refine and_tt ?_ ?_)
 all_goals as_aux_lemma=>kernel_rfl
end Go.Proofs.YtdjmpacladhijaaGreatDoor.simplifyKeepsErrors
