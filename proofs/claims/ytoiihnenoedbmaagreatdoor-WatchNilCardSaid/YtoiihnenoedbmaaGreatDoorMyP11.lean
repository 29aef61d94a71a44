/- A part of the proof that the law WatchNil returns true for every input (its card: YtoiihnenoedbmaaGreatDoorMyCard): AdP11. Conditions: those of the given row alone. -/
import Derived.Test.YtoiihnenoedbmaaGreatDoorMyStates
import Derived.Test.YtoiihnenoedbmaaGreatDoorMyStates2
namespace Go.Ev
open Go.Proofs
set_option maxRecDepth 1000000
set_option maxHeartbeats 0
theorem pA11 : gcO [4084, 3856, 3876, 4093, 4068, 4069, 4067, 3878, 4022, 3788, 4066, 4019, 4020, 3961, 4018, 3963, 14, 4, 10, 4013, 13, 0] (runO E (runF E 100000) out 39 sA10) = sA11 := by kernel_rfl
end Go.Ev
