/- A part of the proof that the law IncrNil returns true for every input (its card: YtohbpghlbeoikaaGreatDoorMyCard): AcP7. Conditions: those of the given row alone. -/
import Derived.Test.YtohbpghlbeoikaaGreatDoorMyStates
namespace Go.Ev
open Go.Proofs
set_option maxRecDepth 1000000
set_option maxHeartbeats 0
theorem pA7 : gcO [2205, 2098, 2118, 2206, 2196, 2197, 2195, 2120, 2150, 2084, 2194, 2147, 2148, 2146, 6, 7, 0, 1] (runO E (runF E 100000) out 182 sA6) = sA7 := by kernel_rfl
end Go.Ev
