/- A part of the proof that the law WatchNil returns true for every input (its card: YtoiihnenoedbmaaGreatDoorMyCard): AdP9. Conditions: those of the given row alone. -/
import Derived.Test.YtoiihnenoedbmaaGreatDoorMyStates
namespace Go.Ev
open Go.Proofs
set_option maxRecDepth 1000000
set_option maxHeartbeats 0
theorem pA9 : gcO [278, 16, 3788, 14, 4, 10, 3520, 3540, 3545, 15, 13, 0] (runO E (runF E 100000) out 66 sA8) = sA9 := by kernel_rfl
end Go.Ev
