/- A part of the proof that the law ProofNil returns true for every input (its card: YtfemddccapnonaaGreatDoorMyCard): AaUP11. Conditions: those of the given row alone. -/
import Derived.Test.YtfemddccapnonaaGreatDoorMyStates
namespace Go.Ev
open Go.Proofs
set_option maxRecDepth 1000000
set_option maxHeartbeats 0
set_option linter.all false
theorem pAaU11 (w : World) (b0 : Nat) (budget : Int) : gcO [] (runO (E.at w) (runF (E.at w) 100000) out 13 (sAaU10 b0 budget)) = (sAaU11 b0 budget) := by kernel_rfl
end Go.Ev
