/- A part of the proof that the law ProofNil returns true for every input (its card: YtfemddccapnonaaGreatDoorMyCard): AaUP6. Conditions: those of the given row alone. -/
import Derived.Test.YtfemddccapnonaaGreatDoorMyStates
namespace Go.Ev
open Go.Proofs
set_option maxRecDepth 1000000
set_option maxHeartbeats 0
set_option linter.all false
theorem pAaU6 (w : World) (b0 : Nat) (budget : Int) : gcO [911, 1845, 1838, 1848, 1849, 1844, 1847, 1846, 1416, 1455, 1833, 1829, 275, 279, 910, 263, 1183, 295, 1812, 1837, 1836, 916, 274, 1817, 1177, 1461, 292, 286, 283, 903, 12, 226, 3, 9, 13, 906, 284, 251, 293, 253, 14, 273, 904, 285, 278] (runO (E.at w) (runF (E.at w) 100000) out 283 (sAaU5 b0 budget)) = (sAaU6 b0 budget) := by kernel_rfl
end Go.Ev
