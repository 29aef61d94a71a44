/- A part of the proof that the law WatchNil returns true for every input (its card: YtoiihnenoedbmaaGreatDoorMyCard): AdP19. Conditions: those of the given row alone. -/
import Derived.Test.YtoiihnenoedbmaaGreatDoorMyStates
import Derived.Test.YtoiihnenoedbmaaGreatDoorMyStates2
namespace Go.Ev
open Go.Proofs
set_option maxRecDepth 1000000
set_option maxHeartbeats 0
theorem pA19 : gcO [6886, 6919, 8106, 4380, 6921, 6885, 6930, 4369, 6917, 4368, 6905, 6918, 4379, 6920, 6909, 4386, 5026, 4377, 5018, 4082, 4320, 3856, 3876, 4084, 5021, 4378, 4345, 4408, 4347, 4093, 4367, 5019, 4372, 4410, 4068, 4069, 4067, 3878, 4022, 3788, 4066, 4019, 4020, 3961, 4018, 3963, 14, 4, 10, 4013, 13, 0] (runO E (runF E 100000) out 25 sA18) = sA19 := by kernel_rfl
end Go.Ev
