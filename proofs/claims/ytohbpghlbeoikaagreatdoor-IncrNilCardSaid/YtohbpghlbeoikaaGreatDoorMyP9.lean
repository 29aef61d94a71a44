/- A part of the proof that the law IncrNil returns true for every input (its card: YtohbpghlbeoikaaGreatDoorMyCard): AcP9. Conditions: those of the given row alone. -/
import Derived.Test.YtohbpghlbeoikaaGreatDoorMyStates
namespace Go.Ev
open Go.Proofs
set_option maxRecDepth 1000000
set_option maxHeartbeats 0
theorem pA9 : gcO [2484, 2467, 2478, 2475, 3095, 2203, 2418, 2098, 2118, 2205, 3098, 2476, 2443, 2466, 2485, 2445, 2206, 2465, 3096, 2477, 2470, 3103, 2487, 2196, 2197, 2195, 2120, 2150, 2084, 2194, 2147, 2148, 2146, 6, 7, 0, 1] (runO E (runF E 100000) out 110 sA8) = sA9 := by kernel_rfl
end Go.Ev
