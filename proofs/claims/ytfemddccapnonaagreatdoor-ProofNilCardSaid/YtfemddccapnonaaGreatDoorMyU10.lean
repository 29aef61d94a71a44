/- A part of the proof that the law ProofNil returns true for every input (its card: YtfemddccapnonaaGreatDoorMyCard): AaUP10. Conditions: those of the given row alone. -/
import Derived.Test.YtfemddccapnonaaGreatDoorMyStates
namespace Go.Ev
open Go.Proofs
set_option maxRecDepth 1000000
set_option maxHeartbeats 0
set_option linter.all false
theorem pAaU10 (w : World) (b0 : Nat) (budget : Int) : gcO [4876, 275, 4980, 4994, 4995, 4863, 4864, 4873, 3, 9, 3506, 4936, 13, 5004, 12] (runO (E.at w) (runF (E.at w) 100000) out 72 (sAaU9 b0 budget)) = (sAaU10 b0 budget) := by kernel_rfl
end Go.Ev
