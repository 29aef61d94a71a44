/- A part of the proof that the law IncrNil returns true for every input (its card: YtohbpghlbeoikaaGreatDoorMyCard): AcFactsA. Conditions: those of the given row alone. -/
import Derived.Test.YtohbpghlbeoikaaGreatDoorCards
import Derived.KernelRfl
namespace Go.Proofs.YtohbpghlbeoikaaGreatDoor
open Go
theorem k_fuel : (1 + (Tryz.prog.funcs.toList.map fun g => (Tryz.prog.leadsTo g).length + 1).sum) = 1458 := by kernel_rfl
end Go.Proofs.YtohbpghlbeoikaaGreatDoor
