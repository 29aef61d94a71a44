/- A part of the proof that the law IncrNil returns true for every input (its card: YtohbpghlbeoikaaGreatDoorMyCard): AcP1. Conditions: those of the given row alone. -/
import Derived.Test.YtohbpghlbeoikaaGreatDoorMyStates
namespace Go.Ev
open Go.Proofs
set_option maxRecDepth 1000000
set_option maxHeartbeats 0
noncomputable def sA0 : OS := ⟨(enterA E 3 argsA false).getD default, [], eAH⟩
theorem pA1 : gcO [6, 7, 9, 233, 253, 8, 0, 1] (runO E (runF E 100000) out 94 sA0) = sA1 := by kernel_rfl
end Go.Ev
