/- A part of the proof that pedigreelaw19.WhynotNil returns true for every input (its card: YtieoegkjamcngabGreatDoorMyCard): GFactsC. Conditions: those of the given row alone. -/
import Derived.Test.YtieoegkjamcngabGreatDoorMyLift
namespace Go.Proofs.YtieoegkjamcngabGreatDoor
open Go.ChangeShapes Go.WideShapes Go.ChangeAt Go.RowKit Go.Conc Go.ConcM
theorem k_goes : true = Rows.whynotNilRow.goesBy Tryz.pinned.checked.prog := by kernel_rfl
end Go.Proofs.YtieoegkjamcngabGreatDoor
