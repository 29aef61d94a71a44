/- A part of the proof that the law ProofNil returns true for every input (its card: YtfemddccapnonaaGreatDoorMyCard): AaWP3. Conditions: those of the given row alone. -/
import Derived.Test.YtfemddccapnonaaGreatDoorMyStates
namespace Go.Ev
open Go.Proofs
set_option maxRecDepth 1000000
set_option maxHeartbeats 0
set_option linter.all false
theorem pAaW3 (w : World) (b0 : Nat) (budget : Int) (e1 : Int) : gcO [5291, 5302, 5299, 5914, 5037, 5043, 5917, 5300, 5267, 5290, 5269, 5045, 5289, 5915, 5301, 5294, 5922, 5032, 5044] (runO (E.at w) (runF (E.at w) 100000) out 110 (sAaW2 b0 budget e1)) = (sAaW3 b0 budget e1) := by kernel_rfl
end Go.Ev
