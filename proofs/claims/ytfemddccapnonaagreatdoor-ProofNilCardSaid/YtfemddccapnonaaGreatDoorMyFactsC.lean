/- A part of the proof that the law ProofNil returns true for every input (its card: YtfemddccapnonaaGreatDoorMyCard): AaFactsC. Conditions: those of the given row alone. -/
import Derived.Test.YtfemddccapnonaaGreatDoorMyFactsA
import Derived.Test.YtfemddccapnonaaGreatDoorMyFactsB
namespace Go.Proofs.YtfemddccapnonaaGreatDoor
open Go
theorem k_clo : Tryz.prog.closure 3 = cloL := by unfold Program.closure; rw [k_fuel]; exact k_via
theorem k_unf : Tryz.prog.unfollowed 3 = true := by unfold Program.unfollowed; rw [k_clo]; kernel_rfl
theorem k_unfollowed : (Rows.proofNilRow.unfollowed == Tryz.prog.unfollowed 3) = true := by rw [k_unf]; kernel_rfl
theorem k_recurses : (Rows.proofNilRow.recurses == Tryz.prog.recurses 3) = true := by unfold Program.recurses; rw [k_unf, Bool.true_or]; kernel_rfl
theorem k_inPlace : (Rows.proofNilRow.inPlace == Tryz.prog.inPlace 3) = true := by unfold Program.inPlace; rw [k_clo]; kernel_rfl
theorem k_named : (Rows.proofNilRow.named == Tryz.prog.varsNamed 3) = true := by unfold Program.varsNamed; rw [k_clo]; kernel_rfl
theorem k_head : Tryz.pinned.checked.prog.funcNamed Rows.proofNilRow.func = some 3 := by kernel_rfl
theorem k_go : Tryz.prog.goes 3 = true := by unfold Program.goes; rw [k_clo, Bool.or_eq_true]; left; kernel_rfl
theorem k_goes : true = Rows.proofNilRow.goesBy Tryz.pinned.checked.prog := by
  unfold OpenClaim.goesBy Program.goesAt Program.goesFrom
  rw [k_head, Option.any_some, show Tryz.pinned.checked.prog.goes 3 = true from k_go, Bool.true_or]
end Go.Proofs.YtfemddccapnonaaGreatDoor
