/- A part of the proof that the law ProofNil returns true for every input (its card: YtfemddccapnonaaGreatDoorMyCard): AaUP1. Conditions: those of the given row alone. -/
import Derived.Test.YtfemddccapnonaaGreatDoorMyStates
namespace Go.Ev
open Go.Proofs
set_option maxRecDepth 1000000
set_option maxHeartbeats 0
set_option linter.all false
theorem pAaU1 (w : World) (b0 : Nat) (budget : Int) : gcO [13, 3, 9, 14, 12] (runO (E.at w) (runF (E.at w) 100000) out 51 (sAaU0 b0 budget)) = (sAaU1 b0 budget) := by kernel_rfl
end Go.Ev
