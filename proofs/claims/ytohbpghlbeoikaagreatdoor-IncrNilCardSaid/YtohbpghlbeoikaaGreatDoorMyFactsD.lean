/- A part of the proof that the law IncrNil returns true for every input (its card: YtohbpghlbeoikaaGreatDoorMyCard): AcFactsD. Conditions: those of the given row alone. -/
import Derived.Test.YtohbpghlbeoikaaGreatDoorMyFactsC
import Derived.Test.YtohbpghlbeoikaaGreatDoorMyLift
namespace Go.Proofs.YtohbpghlbeoikaaGreatDoor
open Go.ChangeShapes Go.WideShapes Go.ChangeAt Go.RowKit Go.Conc Go.ConcM
theorem named_ : Tryz.pinned.checked.prog.funcNamed Rows.incrNilRow.func = some 3 := k_head
theorem inst_ : Tryz.f3.isInstance Tryz.pinned.checked.prog Rows.incrNilRow.origin Rows.incrNilRow.targs := of_decide_eq_true (by kernel_rfl)
theorem wrap_ : Tryz.f3.isWrapper Tryz.pinned.checked.prog Rows.incrNilRow.wrapper Rows.incrNilRow.mainSum := by unfold Func.isWrapper; first | (rw [if_pos (by decide +kernel)]; kernel_rfl) | (rw [if_neg (by decide +kernel)]; exact ⟨rfl, rfl⟩)
end Go.Proofs.YtohbpghlbeoikaaGreatDoor
