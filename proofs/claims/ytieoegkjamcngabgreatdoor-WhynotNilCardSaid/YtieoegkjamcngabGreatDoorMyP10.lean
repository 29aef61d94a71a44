/- A part of the proof that pedigreelaw19.WhynotNil returns true for every input (its card: YtieoegkjamcngabGreatDoorMyCard): GP10. Conditions: those of the given row alone. -/
import Derived.Test.YtieoegkjamcngabGreatDoorMyStates
namespace Go.Ev
open Go.Proofs
set_option maxRecDepth 1000000
set_option maxHeartbeats 0
theorem pA10 : gcO [4130, 277, 14, 3508, 15, 5, 11, 4133, 1, 0] (runO E (runF E 100000) out 50 sA9) = sA10 := by kernel_rfl
end Go.Ev
