/-
  The law DamageUpdateAgrees of compositorlaw31 answers true for every scene, every row of numbers, every two arrays of four integers, every integer and every operation that it is given, and leaves all of them as they were. It asks nothing else of its arguments; the package-level variables that its row lists hold what the row says.
-/
import Derived.Test.YtdjmpacladhijaaGreatDoorXtR
import Derived.Test.YtdjmpacladhijaaGreatDoorCards
import Derived.Test.YtdjmpacladhijaaGreatDoorTie
import Derived.Deep.DeepHandedRow
import Derived.Test.YtdjmpacladhijaaGreatDoorM42
set_option maxRecDepth 100000
namespace Go.Proofs.YtdjmpacladhijaaGreatDoor.damageUpdateAgrees
open Go.ChangeShapes Go.WideShapes Go.ChangeAt Go.RowKit Go.SL
theorem and_tt {a b:Bool} (ha:a=true) (hb:b=true):(a && b)=true:=by rw [ha,hb];rfl
set_option maxHeartbeats 4000000 in
theorem closed:joinedFacts Tryz.pinned.checked.prog 3 Tryz.f3 (OpenSpec.ofChange Rows.damageUpdateAgreesSpec).bare Rows.damageUpdateAgreesRow=true:=by
 unfold joinedFacts
 repeat' (with_reducible refine and_tt ?_ ?_)
 all_goals as_aux_lemma=>kernel_rfl
end Go.Proofs.YtdjmpacladhijaaGreatDoor.damageUpdateAgrees
