/- A part of the proof that the law ProofNil returns true for every input (its card: YtfemddccapnonaaGreatDoorMyCard): AaFactsF. Conditions: those of the given row alone. -/
import Derived.Test.YtfemddccapnonaaGreatDoorMyFactsA
namespace Go.Proofs.YtfemddccapnonaaGreatDoor
open Go
theorem k_heard : Tryz.prog.stopsHeard = true := by kernel_rfl
theorem k_enter : Tryz.prog.mayEnter = true := by kernel_rfl
end Go.Proofs.YtfemddccapnonaaGreatDoor
