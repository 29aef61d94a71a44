/- A part of the proof that the law WatchNil returns true for every input (its card: YtoiihnenoedbmaaGreatDoorMyCard): AdP21. Conditions: those of the given row alone. -/
import Derived.Test.YtoiihnenoedbmaaGreatDoorMyStates
import Derived.Test.YtoiihnenoedbmaaGreatDoorMyStates2
namespace Go.Ev
open Go.Proofs
set_option maxRecDepth 1000000
set_option maxHeartbeats 0
theorem pA21 : gcO [0, 9485] (runO E (runF E 100000) out 259 sA20) = sA21 := by kernel_rfl
end Go.Ev
