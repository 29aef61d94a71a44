/- A part of the proof that the law WatchNil returns true for every input (its card: YtoiihnenoedbmaaGreatDoorMyCard): AdP6. Conditions: those of the given row alone. -/
import Derived.Test.YtoiihnenoedbmaaGreatDoorMyStates
namespace Go.Ev
open Go.Proofs
set_option maxRecDepth 1000000
set_option maxHeartbeats 0
theorem pA6 : gcO [914, 1848, 1841, 1851, 1852, 1847, 1850, 1849, 1419, 1458, 1836, 1832, 278, 282, 913, 266, 1186, 298, 1815, 1840, 1839, 919, 277, 1820, 1180, 1464, 295, 289, 286, 906, 13, 229, 4, 10, 14, 909, 287, 254, 296, 256, 17, 276, 907, 288, 281, 16, 15, 0] (runO E (runF E 100000) out 283 sA5) = sA6 := by kernel_rfl
end Go.Ev
