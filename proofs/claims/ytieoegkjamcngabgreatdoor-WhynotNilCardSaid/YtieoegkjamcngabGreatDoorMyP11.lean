/- A part of the proof that pedigreelaw19.WhynotNil returns true for every input (its card: YtieoegkjamcngabGreatDoorMyCard): GP11. Conditions: those of the given row alone. -/
import Derived.Test.YtieoegkjamcngabGreatDoorMyStates
namespace Go.Ev
open Go.Proofs
set_option maxRecDepth 1000000
set_option maxHeartbeats 0
theorem pA11 : gcO [1, 5438, 0] (runO E (runF E 100000) out 59 sA10) = sA11 := by kernel_rfl
end Go.Ev
