/- A part of the proof that the law ProofNil returns true for every input (its card: YtfemddccapnonaaGreatDoorMyCard): AaWP6. Conditions: those of the given row alone. -/
import Derived.Test.YtfemddccapnonaaGreatDoorMyStates
namespace Go.Ev
open Go.Proofs
set_option maxRecDepth 1000000
set_option maxHeartbeats 0
set_option linter.all false
theorem pAaW6 (w : World) (b0 : Nat) (budget : Int) (e1 : Int) : gcO [5291, 5032, 5044, 5037, 5043] (runO (E.at w) (runF (E.at w) 100000) out 133 (sAaW5 b0 budget e1)) = (sAaW6 b0 budget e1) := by kernel_rfl
end Go.Ev
