/- A part of the proof that pedigreelaw19.WhynotNil returns true for every input (its card: YtieoegkjamcngabGreatDoorMyCard): GFactsB. Conditions: those of the given row alone. -/
import Derived.Test.YtieoegkjamcngabGreatDoorMyLift
namespace Go.Proofs.YtieoegkjamcngabGreatDoor
open Go.ChangeShapes Go.WideShapes Go.ChangeAt Go.RowKit Go.Conc Go.ConcM
theorem k_recurses : (Rows.whynotNilRow.recurses == Tryz.prog.recurses 3) = true := by kernel_rfl
theorem k_named : (Rows.whynotNilRow.named == Tryz.prog.varsNamed 3) = true := by kernel_rfl
end Go.Proofs.YtieoegkjamcngabGreatDoor
