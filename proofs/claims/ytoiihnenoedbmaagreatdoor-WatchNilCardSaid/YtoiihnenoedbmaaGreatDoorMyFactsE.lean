/- A part of the proof that the law WatchNil returns true for every input (its card: YtoiihnenoedbmaaGreatDoorMyCard): AdFactsE. Conditions: those of the given row alone. -/
import Derived.Test.YtoiihnenoedbmaaGreatDoorMyFactsA
namespace Go.Proofs.YtoiihnenoedbmaaGreatDoor
open Go
theorem k_maps : mapsRowed Tryz.prog = true := by kernel_rfl
end Go.Proofs.YtoiihnenoedbmaaGreatDoor
