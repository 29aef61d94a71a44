/- A part of the proof that the law ProofNil returns true for every input (its card: YtfemddccapnonaaGreatDoorMyCard): AaUP8. Conditions: those of the given row alone. -/
import Derived.Test.YtfemddccapnonaaGreatDoorMyStates
namespace Go.Ev
open Go.Proofs
set_option maxRecDepth 1000000
set_option maxHeartbeats 0
set_option linter.all false
theorem pAaU8 (w : World) (b0 : Nat) (budget : Int) : gcO [292, 275, 911, 286, 283, 903, 12, 226, 3, 9, 13, 906, 284, 251, 274, 293, 253, 14, 273, 904, 285, 278, 295] (runO (E.at w) (runF (E.at w) 100000) out 331 (sAaU7 b0 budget)) = (sAaU8 b0 budget) := by kernel_rfl
end Go.Ev
