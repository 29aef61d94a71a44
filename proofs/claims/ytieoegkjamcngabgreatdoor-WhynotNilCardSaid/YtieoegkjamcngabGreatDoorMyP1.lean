/- A part of the proof that pedigreelaw19.WhynotNil returns true for every input (its card: YtieoegkjamcngabGreatDoorMyCard): GP1. Conditions: those of the given row alone. -/
import Derived.Test.YtieoegkjamcngabGreatDoorMyStates
namespace Go.Ev
open Go.Proofs
set_option maxRecDepth 1000000
set_option maxHeartbeats 0
noncomputable def sA0 : OS := ⟨(enterA E 3 argsA false).getD default, [], eAH⟩
theorem pA1 : gcO [277, 14, 228, 5, 11, 15, 248, 276, 255, 16, 275, 278, 1, 0] (runO E (runF E 100000) out 150 sA0) = sA1 := by kernel_rfl
end Go.Ev
