/-
  The law RulesKeepErrors of compositorlaw26 answers true for every scene, every list of integers, every two integers and every pixel that it is given, and leaves all of them as they were. It asks nothing else of its arguments; the package-level variables that its row lists hold what the row says.
-/
import Derived.Test.YtdjmpacladhijaaGreatDoorXtP
import Derived.Test.YtdjmpacladhijaaGreatDoorCards
import Derived.Test.YtdjmpacladhijaaGreatDoorTie
import Derived.Deep.DeepHandedRow
import Derived.Test.YtdjmpacladhijaaGreatDoorM59
set_option maxRecDepth 100000
namespace Go.Proofs.YtdjmpacladhijaaGreatDoor.rulesKeepErrors
open Go.ChangeShapes Go.WideShapes Go.ChangeAt Go.RowKit Go.SL
theorem and_tt {a b:Bool} (ha:a=true) (hb:b=true):(a && b)=true:=by rw [ha,hb];rfl
set_option maxHeartbeats 4000000 in
theorem closed:joinedFacts Tryz.pinned.checked.prog 7 Tryz.f7 (OpenSpec.ofChange Rows.rulesKeepErrorsSpec).bare Rows.rulesKeepErrorsRow=true:=by
 unfold joinedFacts
 repeat' (with_reducible refine and_tt ?_ ?_)
 all_goals as_aux_lemma=>kernel_rfl
end Go.Proofs.YtdjmpacladhijaaGreatDoor.rulesKeepErrors
