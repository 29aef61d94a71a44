/- A part of the proof that the law WatchNil returns true for every input (its card: YtoiihnenoedbmaaGreatDoorMyCard): AdSaid. Conditions: those of the given row alone. -/
import Derived.Test.YtoiihnenoedbmaaGreatDoorMyFactsD
import Derived.Test.YtoiihnenoedbmaaGreatDoorMyFactsE
import Derived.Test.YtoiihnenoedbmaaGreatDoorMyFactsF
namespace Go.Proofs.YtoiihnenoedbmaaGreatDoor
open Go.ChangeShapes Go.WideShapes Go.ChangeAt Go.RowKit Go.Conc Go.ConcM
theorem closed_ : joinedFacts Tryz.prog 3 Tryz.f3 Rows.watchNilSpec Rows.watchNilRow = true := by
  unfold joinedFacts
  simp only [laidOut, k_inPlace, k_unfollowed, k_recurses, k_named, k_maps, k_heard, k_enter, Bool.and_true]
  kernel_rfl
theorem said : Rows.WatchNilSaid :=
  OpenClaim.holds_of_wide_leaving_time 3 Tryz.f3 rfl rfl rfl rfl rfl rfl rfl ⟨rfl, rfl, rfl, rfl, rfl⟩ rfl rfl rfl rfl rfl named_ Tryz.func3 closed_ inst_ wrap_
    (fun os started H enc _ F => by rw [OpenClaim.pre_eq_preRow]; exact lifted os started H enc F)
end Go.Proofs.YtoiihnenoedbmaaGreatDoor
