/- A part of the proof that the law ProofNil returns true for every input (its card: YtfemddccapnonaaGreatDoorMyCard): AaFactsE. Conditions: those of the given row alone. -/
import Derived.Test.YtfemddccapnonaaGreatDoorMyFactsA
namespace Go.Proofs.YtfemddccapnonaaGreatDoor
open Go
theorem k_maps : mapsRowed Tryz.prog = true := by kernel_rfl
end Go.Proofs.YtfemddccapnonaaGreatDoor
