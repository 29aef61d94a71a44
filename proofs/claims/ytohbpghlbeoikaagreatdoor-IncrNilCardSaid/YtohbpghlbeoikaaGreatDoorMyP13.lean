/- A part of the proof that the law IncrNil returns true for every input (its card: YtohbpghlbeoikaaGreatDoorMyCard): AcP13. Conditions: those of the given row alone. -/
import Derived.Test.YtohbpghlbeoikaaGreatDoorMyStates
import Derived.Test.YtohbpghlbeoikaaGreatDoorMyStates2
namespace Go.Ev
open Go.Proofs
set_option maxRecDepth 1000000
set_option maxHeartbeats 0
theorem pA13 : (spawnO E I 211 377 100000 100000 out sA12).map (gcO [3103, 4037, 4030, 4040, 4041, 4036, 4039, 4038, 3608, 3647, 4025, 4021, 2467, 2471, 3102, 2455, 3375, 2487, 4004, 4029, 4028, 3108, 2466, 4009, 3369, 3653, 2484, 2478, 2475, 3095, 2203, 2418, 2098, 2118, 2205, 3098, 2476, 2443, 2485, 2445, 2206, 2465, 3096, 2477, 2470, 2196, 2197, 2195, 2120, 2150, 2084, 2194, 2147, 2148, 2146, 6, 7, 0, 1]) = some sA13 := by kernel_rfl
end Go.Ev
