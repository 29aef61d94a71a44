/- A part of the proof that the law IncrNil returns true for every input (its card: YtohbpghlbeoikaaGreatDoorMyCard): AcP5. Conditions: those of the given row alone. -/
import Derived.Test.YtohbpghlbeoikaaGreatDoorMyStates
namespace Go.Ev
open Go.Proofs
set_option maxRecDepth 1000000
set_option maxHeartbeats 0
theorem pA5 : (spawnO E I 211 377 100000 100000 out sA4).map (gcO [886, 1438, 1147, 1441, 1442, 1437, 1440, 1439, 255, 266, 263, 878, 6, 7, 881, 264, 231, 254, 233, 9, 253, 879, 265, 258, 8, 0, 1]) = some sA5 := by kernel_rfl
end Go.Ev
