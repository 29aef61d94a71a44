/- A part of the proof that the law ProofNil returns true for every input (its card: YtfemddccapnonaaGreatDoorMyCard): AaSaid. Conditions: those of the given row alone. -/
import Derived.Test.YtfemddccapnonaaGreatDoorMyFactsD
import Derived.Test.YtfemddccapnonaaGreatDoorMyFactsE
import Derived.Test.YtfemddccapnonaaGreatDoorMyFactsF
namespace Go.Proofs.YtfemddccapnonaaGreatDoor
open Go.ChangeShapes Go.WideShapes Go.ChangeAt Go.RowKit Go.Conc Go.ConcM
theorem closed_ : joinedFacts Tryz.prog 3 Tryz.f3 Rows.proofNilSpec Rows.proofNilRow = true := by
  unfold joinedFacts
  simp only [laidOut, k_inPlace, k_unfollowed, k_recurses, k_named, k_maps, k_heard, k_enter, Bool.and_true]
  kernel_rfl
theorem said : Rows.ProofNilSaid :=
  OpenClaim.holds_of_wide_leaving_time 3 Tryz.f3 rfl rfl rfl rfl rfl rfl rfl ⟨rfl, rfl, rfl, rfl, rfl⟩ rfl rfl rfl rfl rfl named_ Tryz.func3 closed_ inst_ wrap_
    (fun os started H enc _ F => by rw [OpenClaim.pre_eq_preRow]; exact lifted os started H enc F)
end Go.Proofs.YtfemddccapnonaaGreatDoor
