/- A part of the proof that ProofGreat returns true. -/
import Derived.Test.YtngcidmhopkokaaGreatDoorMyFactsC
import Derived.Test.YtngcidmhopkokaaGreatDoorMyLift
set_option linter.all false
namespace Go.Proofs.YtngcidmhopkokaaGreatDoor
open Go.ChangeShapes Go.WideShapes Go.ChangeAt Go.RowKit Go.Conc Go.ConcM
theorem abt:Tryz.pinned.checked.prog.funcNamed Rows.proofGreatRow.func=some 3:=Wo
theorem adD:Tryz.f3.isInstance Tryz.pinned.checked.prog Rows.proofGreatRow.origin Rows.proofGreatRow.targs:=of_decide_eq_true (by kernel_rfl)
theorem acB:Tryz.f3.isWrapper Tryz.pinned.checked.prog Rows.proofGreatRow.wrapper Rows.proofGreatRow.mainSum:=by unfold Func.isWrapper;first|(rw[if_pos (by decide+kernel)];kernel_rfl)|(rw[if_neg (by decide+kernel)];exact⟨rfl,rfl⟩)
end Go.Proofs.YtngcidmhopkokaaGreatDoor
