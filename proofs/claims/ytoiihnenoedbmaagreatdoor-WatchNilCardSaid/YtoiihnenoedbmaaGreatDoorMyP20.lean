/- A part of the proof that the law WatchNil returns true for every input (its card: YtoiihnenoedbmaaGreatDoorMyCard): AdP20. Conditions: those of the given row alone. -/
import Derived.Test.YtoiihnenoedbmaaGreatDoorMyStates
import Derived.Test.YtoiihnenoedbmaaGreatDoorMyStates2
namespace Go.Ev
open Go.Proofs
set_option maxRecDepth 1000000
set_option maxHeartbeats 0
theorem pA20 : gcO [3878, 4066, 4022, 4019, 3788, 4020, 9366, 3961, 4018, 3963, 14, 4, 10, 4013, 13, 0] (runO E (runF E 100000) out 95 sA19) = sA20 := by kernel_rfl
end Go.Ev
