/- A part of the proof that the law ProofNil returns true for every input (its card: YtfemddccapnonaaGreatDoorMyCard): AaFactsA. Conditions: those of the given row alone. -/
import Derived.Test.YtfemddccapnonaaGreatDoorCards
import Derived.KernelRfl
namespace Go.Proofs.YtfemddccapnonaaGreatDoor
open Go
theorem k_fuel : (1 + (Tryz.prog.funcs.toList.map fun g => (Tryz.prog.leadsTo g).length + 1).sum) = 1324 := by kernel_rfl
end Go.Proofs.YtfemddccapnonaaGreatDoor
