/- A part of the proof that pedigreelaw19.WhynotNil returns true for every input (its card: YtieoegkjamcngabGreatDoorMyCard): GP4. Conditions: those of the given row alone. -/
import Derived.Test.YtieoegkjamcngabGreatDoorMyStates
namespace Go.Ev
open Go.Proofs
set_option maxRecDepth 1000000
set_option maxHeartbeats 0
theorem pA4 : gcO [913, 1470, 1179, 1473, 1474, 1469, 1472, 1471, 277, 294, 288, 285, 905, 14, 228, 5, 11, 15, 908, 286, 253, 276, 295, 255, 16, 275, 906, 287, 280, 297, 1, 0] (runO E (runF E 100000) out 93 sA3) = sA4 := by kernel_rfl
end Go.Ev
