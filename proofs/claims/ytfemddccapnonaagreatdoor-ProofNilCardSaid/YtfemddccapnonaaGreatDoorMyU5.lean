/- A part of the proof that the law ProofNil returns true for every input (its card: YtfemddccapnonaaGreatDoorMyCard): AaUP5. Conditions: those of the given row alone. -/
import Derived.Test.YtfemddccapnonaaGreatDoorMyStates
namespace Go.Ev
open Go.Proofs
set_option maxRecDepth 1000000
set_option maxHeartbeats 0
set_option linter.all false
theorem pAaU5 (w : World) (b0 : Nat) (budget : Int) : (spawnO (E.at w) I 150 291 100000 100000 out (sAaU4 b0 budget)).map (gcO [911, 1468, 1177, 1471, 1472, 1467, 1470, 1469, 275, 292, 286, 283, 903, 12, 226, 3, 9, 13, 906, 284, 251, 274, 293, 253, 14, 273, 904, 285, 278, 295]) = some (sAaU5 b0 budget) := by kernel_rfl
end Go.Ev
