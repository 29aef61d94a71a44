/- A part of the proof that the law ProofNil returns true for every input (its card: YtfemddccapnonaaGreatDoorMyCard): AaWP4. Conditions: those of the given row alone. -/
import Derived.Test.YtfemddccapnonaaGreatDoorMyStates
namespace Go.Ev
open Go.Proofs
set_option maxRecDepth 1000000
set_option maxHeartbeats 0
set_option linter.all false
theorem pAaW4 (w : World) (b0 : Nat) (budget : Int) (e1 : Int) : gcO [5922, 6474, 6183, 6477, 6478, 6473, 6476, 6475, 5291, 5302, 5299, 5914, 5037, 5043, 5917, 5300, 5267, 5290, 5269, 5045, 5289, 5915, 5301, 5294, 5032, 5044] (runO (E.at w) (runF (E.at w) 100000) out 74 (sAaW3 b0 budget e1)) = (sAaW4 b0 budget e1) := by kernel_rfl
end Go.Ev
