/- A part of the proof that the law IncrNil returns true for every input (its card: YtohbpghlbeoikaaGreatDoorMyCard): AcP10. Conditions: those of the given row alone. -/
import Derived.Test.YtohbpghlbeoikaaGreatDoorMyStates
namespace Go.Ev
open Go.Proofs
set_option maxRecDepth 1000000
set_option maxHeartbeats 0
theorem pA10 : gcO [3103, 3660, 3369, 3663, 3664, 3659, 3662, 3661, 2467, 2484, 2478, 2475, 3095, 2203, 2418, 2098, 2118, 2205, 3098, 2476, 2443, 2466, 2485, 2445, 2206, 2465, 3096, 2477, 2470, 2487, 2196, 2197, 2195, 2120, 2150, 2084, 2194, 2147, 2148, 2146, 6, 7, 0, 1] (runO E (runF E 100000) out 74 sA9) = sA10 := by kernel_rfl
end Go.Ev
