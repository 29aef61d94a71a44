/- A part of the proof that the law WatchNil returns true for every input (its card: YtoiihnenoedbmaaGreatDoorMyCard): AdP8. Conditions: those of the given row alone. -/
import Derived.Test.YtoiihnenoedbmaaGreatDoorMyStates
namespace Go.Ev
open Go.Proofs
set_option maxRecDepth 1000000
set_option maxHeartbeats 0
theorem pA8 : gcO [2298, 2328, 2339, 289, 2330, 2297, 2337, 278, 2326, 277, 2317, 2327, 288, 2329, 2321, 295, 914, 286, 906, 13, 229, 4, 10, 14, 909, 287, 254, 296, 256, 17, 276, 907, 281, 298, 16, 15, 0] (runO E (runF E 100000) out 473 sA7) = sA8 := by kernel_rfl
end Go.Ev
