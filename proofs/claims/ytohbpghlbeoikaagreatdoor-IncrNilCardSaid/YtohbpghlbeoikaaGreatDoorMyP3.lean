/- A part of the proof that the law IncrNil returns true for every input (its card: YtohbpghlbeoikaaGreatDoorMyCard): AcP3. Conditions: those of the given row alone. -/
import Derived.Test.YtohbpghlbeoikaaGreatDoorMyStates
namespace Go.Ev
open Go.Proofs
set_option maxRecDepth 1000000
set_option maxHeartbeats 0
theorem pA3 : gcO [255, 266, 263, 878, 6, 7, 881, 264, 231, 254, 233, 9, 253, 879, 265, 258, 886, 8, 0, 1] (runO E (runF E 100000) out 110 sA2) = sA3 := by kernel_rfl
end Go.Ev
