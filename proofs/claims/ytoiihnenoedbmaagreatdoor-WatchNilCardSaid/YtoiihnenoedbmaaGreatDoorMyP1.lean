/- A part of the proof that the law WatchNil returns true for every input (its card: YtoiihnenoedbmaaGreatDoorMyCard): AdP1. Conditions: those of the given row alone. -/
import Derived.Test.YtoiihnenoedbmaaGreatDoorMyStates
namespace Go.Ev
open Go.Proofs
set_option maxRecDepth 1000000
set_option maxHeartbeats 0
noncomputable def sA0 : OS := ⟨(enterA E 3 argsA false).getD default, [], eAH⟩
theorem pA1 : gcO [14, 4, 10, 17, 16, 15, 13, 0] (runO E (runF E 100000) out 81 sA0) = sA1 := by kernel_rfl
end Go.Ev
