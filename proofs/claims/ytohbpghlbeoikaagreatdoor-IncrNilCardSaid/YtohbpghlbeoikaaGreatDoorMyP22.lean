/- A part of the proof that the law IncrNil returns true for every input (its card: YtohbpghlbeoikaaGreatDoorMyCard): AcP22. Conditions: those of the given row alone. -/
import Derived.Test.YtohbpghlbeoikaaGreatDoorMyStates
import Derived.Test.YtohbpghlbeoikaaGreatDoorMyStates2
namespace Go.Ev
open Go.Proofs
set_option maxRecDepth 1000000
set_option maxHeartbeats 0
theorem pA22 : gcO [7929, 7937, 7936, 0, 7933, 7949, 7938, 7939, 7940, 7941, 7927, 1] (runO E (runF E 100000) out 312 sA21) = sA22 := by kernel_rfl
end Go.Ev
