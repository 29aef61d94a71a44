/- A part of the proof that the law IncrNil returns true for every input (its card: YtohbpghlbeoikaaGreatDoorMyCard): AcP6. Conditions: those of the given row alone. -/
import Derived.Test.YtohbpghlbeoikaaGreatDoorMyStates
namespace Go.Ev
open Go.Proofs
set_option maxRecDepth 1000000
set_option maxHeartbeats 0
theorem pA6 : gcO [255, 8, 2084, 6, 7, 1821, 1841, 0, 1] (runO E (runF E 100000) out 148 sA5) = sA6 := by kernel_rfl
end Go.Ev
