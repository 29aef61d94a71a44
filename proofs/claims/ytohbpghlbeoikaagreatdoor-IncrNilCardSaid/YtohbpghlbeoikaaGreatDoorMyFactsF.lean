/- A part of the proof that the law IncrNil returns true for every input (its card: YtohbpghlbeoikaaGreatDoorMyCard): AcFactsF. Conditions: those of the given row alone. -/
import Derived.Test.YtohbpghlbeoikaaGreatDoorMyFactsA
namespace Go.Proofs.YtohbpghlbeoikaaGreatDoor
open Go
theorem k_heard : Tryz.prog.stopsHeard = true := by kernel_rfl
theorem k_enter : Tryz.prog.mayEnter = true := by kernel_rfl
end Go.Proofs.YtohbpghlbeoikaaGreatDoor
