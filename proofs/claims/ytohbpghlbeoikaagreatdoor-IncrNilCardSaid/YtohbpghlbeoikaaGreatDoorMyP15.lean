/- A part of the proof that the law IncrNil returns true for every input (its card: YtohbpghlbeoikaaGreatDoorMyCard): AcP15. Conditions: those of the given row alone. -/
import Derived.Test.YtohbpghlbeoikaaGreatDoorMyStates
import Derived.Test.YtohbpghlbeoikaaGreatDoorMyStates2
namespace Go.Ev
open Go.Proofs
set_option maxRecDepth 1000000
set_option maxHeartbeats 0
theorem pA15 : gcO [5804, 5803, 2146, 2120, 5907, 5980, 2147, 6, 7, 0, 1] (runO E (runF E 100000) out 119 sA14) = sA15 := by kernel_rfl
end Go.Ev
