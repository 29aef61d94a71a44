/- A part of the proof that ProofBack returns true. -/
import Derived.Test.YtencnjmceojnjaaGreatDoorMyFactsC
import Derived.Test.YtencnjmceojnjaaGreatDoorMyLift
set_option linter.all false
namespace Go.Proofs.YtencnjmceojnjaaGreatDoor
open Go.ChangeShapes Go.WideShapes Go.ChangeAt Go.RowKit Go.Conc Go.ConcM
theorem aeE:Tryz.pinned.checked.prog.funcNamed Rows.proofBackRow.func=some 3:=aaD
theorem af8:Tryz.f3.isInstance Tryz.pinned.checked.prog Rows.proofBackRow.origin Rows.proofBackRow.targs:=of_decide_eq_true (by kernel_rfl)
theorem afc:Tryz.f3.isWrapper Tryz.pinned.checked.prog Rows.proofBackRow.wrapper Rows.proofBackRow.mainSum:=by unfold Func.isWrapper;first|(rw[if_pos (by decide+kernel)];kernel_rfl)|(rw[if_neg (by decide+kernel)];exact⟨rfl,rfl⟩)
end Go.Proofs.YtencnjmceojnjaaGreatDoor
