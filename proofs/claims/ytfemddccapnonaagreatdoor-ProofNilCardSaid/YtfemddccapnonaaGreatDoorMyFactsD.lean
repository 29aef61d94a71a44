/- A part of the proof that the law ProofNil returns true for every input (its card: YtfemddccapnonaaGreatDoorMyCard): AaFactsD. Conditions: those of the given row alone. -/
import Derived.Test.YtfemddccapnonaaGreatDoorMyFactsC
import Derived.Test.YtfemddccapnonaaGreatDoorMyLift
namespace Go.Proofs.YtfemddccapnonaaGreatDoor
open Go.ChangeShapes Go.WideShapes Go.ChangeAt Go.RowKit Go.Conc Go.ConcM
theorem named_ : Tryz.pinned.checked.prog.funcNamed Rows.proofNilRow.func = some 3 := k_head
theorem inst_ : Tryz.f3.isInstance Tryz.pinned.checked.prog Rows.proofNilRow.origin Rows.proofNilRow.targs := of_decide_eq_true (by kernel_rfl)
theorem wrap_ : Tryz.f3.isWrapper Tryz.pinned.checked.prog Rows.proofNilRow.wrapper Rows.proofNilRow.mainSum := by unfold Func.isWrapper; first | (rw [if_pos (by decide +kernel)]; kernel_rfl) | (rw [if_neg (by decide +kernel)]; exact ⟨rfl, rfl⟩)
end Go.Proofs.YtfemddccapnonaaGreatDoor
