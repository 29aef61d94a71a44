/- A part of the proof that pedigreelaw19.WhynotNil returns true for every input (its card: YtieoegkjamcngabGreatDoorMyCard): GFactsA. Conditions: those of the given row alone. -/
import Derived.Test.YtieoegkjamcngabGreatDoorMyLift
namespace Go.Proofs.YtieoegkjamcngabGreatDoor
open Go.ChangeShapes Go.WideShapes Go.ChangeAt Go.RowKit Go.Conc Go.ConcM
theorem k_inPlace : (Rows.whynotNilRow.inPlace == Tryz.prog.inPlace 3) = true := by kernel_rfl
theorem k_unfollowed : (Rows.whynotNilRow.unfollowed == Tryz.prog.unfollowed 3) = true := by kernel_rfl
end Go.Proofs.YtieoegkjamcngabGreatDoor
