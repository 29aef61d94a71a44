/- A part of the proof that the law WatchNil returns true for every input (its card: YtoiihnenoedbmaaGreatDoorMyCard): AdP15. Conditions: those of the given row alone. -/
import Derived.Test.YtoiihnenoedbmaaGreatDoorMyStates
import Derived.Test.YtoiihnenoedbmaaGreatDoorMyStates2
namespace Go.Ev
open Go.Proofs
set_option maxRecDepth 1000000
set_option maxHeartbeats 0
theorem pA15 : (spawnO E I 55 103 100000 100000 out sA14).map (gcO [5026, 5587, 5296, 5590, 5591, 5586, 5589, 5588, 4369, 4386, 4380, 4377, 5018, 4082, 4320, 3856, 3876, 4084, 5021, 4378, 4345, 4368, 4408, 4347, 4093, 4367, 5019, 4379, 4372, 4410, 4068, 4069, 4067, 3878, 4022, 3788, 4066, 4019, 4020, 3961, 4018, 3963, 14, 4, 10, 4013, 13, 0]) = some sA15 := by kernel_rfl
end Go.Ev
