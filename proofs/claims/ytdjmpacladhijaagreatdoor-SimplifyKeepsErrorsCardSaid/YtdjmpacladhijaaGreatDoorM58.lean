/- Part of the proof: TF. -/
import Derived.Test.YtdjmpacladhijaaGreatDoorM51
set_option linter.unusedSimpArgs false
set_option linter.unusedVariables false
set_option maxRecDepth 8000
set_option maxHeartbeats 200000
namespace Go.Proofs.YtdjmpacladhijaaGreatDoor
open Go Go.SL
theorem IS:∀ (f:Nat) {s:Script},VOps s→(∀ o ∈ s.ops,0≤o.opacity)→VOps (cl s (jA f s).1)∧∀ o ∈ (jA f s).1,0≤o.opacity
 | 0,s,V,h=>⟨V,h⟩
 | f+1,s,V,h=>by
  cases hr:(fc s).head? with
  | none=>rw [vw hr];exact ⟨V,h⟩
  | some r =>
   rw [vl hr];have hm:=(vF.1 (vX hr).1)
   obtain ⟨V2,h2⟩:=xp V h hm.2;exact IS f V2 h2
end Go.Proofs.YtdjmpacladhijaaGreatDoor
