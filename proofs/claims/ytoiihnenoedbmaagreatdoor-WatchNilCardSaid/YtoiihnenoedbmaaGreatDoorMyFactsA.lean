/- A part of the proof that the law WatchNil returns true for every input (its card: YtoiihnenoedbmaaGreatDoorMyCard): AdFactsA. Conditions: those of the given row alone. -/
import Derived.Test.YtoiihnenoedbmaaGreatDoorCards
import Derived.KernelRfl
namespace Go.Proofs.YtoiihnenoedbmaaGreatDoor
open Go
theorem k_fuel : (1 + (Tryz.prog.funcs.toList.map fun g => (Tryz.prog.leadsTo g).length + 1).sum) = 1517 := by kernel_rfl
end Go.Proofs.YtoiihnenoedbmaaGreatDoor
