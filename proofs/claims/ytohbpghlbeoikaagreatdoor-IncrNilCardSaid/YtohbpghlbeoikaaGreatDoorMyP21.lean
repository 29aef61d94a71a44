/- A part of the proof that the law IncrNil returns true for every input (its card: YtohbpghlbeoikaaGreatDoorMyCard): AcP21. Conditions: those of the given row alone. -/
import Derived.Test.YtohbpghlbeoikaaGreatDoorMyStates
import Derived.Test.YtohbpghlbeoikaaGreatDoorMyStates2
namespace Go.Ev
open Go.Proofs
set_option maxRecDepth 1000000
set_option maxHeartbeats 0
theorem pA21 : gcO [2120, 6027, 5987, 5984, 2150, 5985, 7868, 5804, 5803, 2146, 5983, 5907, 5980, 2147, 6, 7, 0, 1] (runO E (runF E 100000) out 177 sA20) = sA21 := by kernel_rfl
end Go.Ev
