/- A part of the proof that the law WatchNil returns true for every input (its card: YtoiihnenoedbmaaGreatDoorMyCard): AdP4. Conditions: those of the given row alone. -/
import Derived.Test.YtoiihnenoedbmaaGreatDoorMyStates
namespace Go.Ev
open Go.Proofs
set_option maxRecDepth 1000000
set_option maxHeartbeats 0
theorem pA4 : gcO [914, 1471, 1180, 1474, 1475, 1470, 1473, 1472, 278, 295, 289, 286, 906, 13, 229, 4, 10, 14, 909, 287, 254, 277, 296, 256, 17, 276, 907, 288, 281, 298, 16, 15, 0] (runO E (runF E 100000) out 74 sA3) = sA4 := by kernel_rfl
end Go.Ev
