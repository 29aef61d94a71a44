/- A part of the proof that the law WatchNil returns true for every input (its card: YtoiihnenoedbmaaGreatDoorMyCard): AdFactsF. Conditions: those of the given row alone. -/
import Derived.Test.YtoiihnenoedbmaaGreatDoorMyFactsA
namespace Go.Proofs.YtoiihnenoedbmaaGreatDoor
open Go
theorem k_heard : Tryz.prog.stopsHeard = true := by kernel_rfl
theorem k_enter : Tryz.prog.mayEnter = true := by kernel_rfl
end Go.Proofs.YtoiihnenoedbmaaGreatDoor
