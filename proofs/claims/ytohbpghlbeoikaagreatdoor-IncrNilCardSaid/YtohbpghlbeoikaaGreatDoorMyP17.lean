/- A part of the proof that the law IncrNil returns true for every input (its card: YtohbpghlbeoikaaGreatDoorMyCard): AcP17. Conditions: those of the given row alone. -/
import Derived.Test.YtohbpghlbeoikaaGreatDoorMyStates
import Derived.Test.YtohbpghlbeoikaaGreatDoorMyStates2
namespace Go.Ev
open Go.Proofs
set_option maxRecDepth 1000000
set_option maxHeartbeats 0
theorem pA17 : gcO [6278, 6289, 6286, 6901, 2098, 2118, 6287, 6254, 6277, 6256, 6032, 6276, 6288, 6281, 6029, 6030, 6028, 2120, 5987, 2150, 6027, 5984, 5985, 5804, 5803, 2146, 5983, 5907, 5980, 2147, 6, 7, 0, 1] (runO E (runF E 100000) out 145 sA16) = sA17 := by kernel_rfl
end Go.Ev
