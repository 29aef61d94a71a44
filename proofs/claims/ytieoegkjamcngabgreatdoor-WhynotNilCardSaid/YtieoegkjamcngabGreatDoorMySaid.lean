/- A part of the proof that pedigreelaw19.WhynotNil returns true for every input (its card: YtieoegkjamcngabGreatDoorMyCard): GFinC. Conditions: those of the given row alone. -/
import Derived.Test.YtieoegkjamcngabGreatDoorMyLift
import Derived.Test.YtieoegkjamcngabGreatDoorMyFactsA
import Derived.Test.YtieoegkjamcngabGreatDoorMyFactsB
namespace Go.Proofs.YtieoegkjamcngabGreatDoor
open Go.ChangeShapes Go.WideShapes Go.ChangeAt Go.RowKit Go.Conc Go.ConcM
theorem named_ : Tryz.pinned.checked.prog.funcNamed Rows.whynotNilRow.func = some 3 := by kernel_rfl
theorem inst_ : Tryz.f3.isInstance Tryz.pinned.checked.prog Rows.whynotNilRow.origin Rows.whynotNilRow.targs := of_decide_eq_true (by kernel_rfl)
theorem wrap_ : Tryz.f3.isWrapper Tryz.pinned.checked.prog Rows.whynotNilRow.wrapper Rows.whynotNilRow.mainSum := by unfold Func.isWrapper; first | (rw [if_pos (by decide +kernel)]; kernel_rfl) | (rw [if_neg (by decide +kernel)]; exact ⟨rfl, rfl⟩)
theorem closed_ : joinedFacts Tryz.prog 3 Tryz.f3 Rows.whynotNilSpec Rows.whynotNilRow = true := by
  unfold joinedFacts
  simp only [k_inPlace, k_unfollowed, k_recurses, k_named, Bool.and_true, Bool.true_and]
  kernel_rfl
theorem said : Rows.WhynotNilSaid :=
  OpenClaim.holds_of_wide_leaving_time 3 Tryz.f3 rfl rfl rfl rfl rfl rfl rfl ⟨rfl, rfl, rfl, rfl, rfl⟩ rfl rfl rfl rfl rfl named_ Tryz.func3 closed_ inst_ wrap_
    (fun os started H enc _ F => by rw [OpenClaim.pre_eq_preRow]; exact lifted os started H enc F)
end Go.Proofs.YtieoegkjamcngabGreatDoor
