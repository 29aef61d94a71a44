/- A part of the proof that the law IncrNil returns true for every input (its card: YtohbpghlbeoikaaGreatDoorMyCard): AcFactsE. Conditions: those of the given row alone. -/
import Derived.Test.YtohbpghlbeoikaaGreatDoorMyFactsA
namespace Go.Proofs.YtohbpghlbeoikaaGreatDoor
open Go
theorem k_maps : mapsRowed Tryz.prog = true := by kernel_rfl
end Go.Proofs.YtohbpghlbeoikaaGreatDoor
