/- A part of the proof that ProofBack returns true. -/
import Derived.Test.YtencnjmceojnjaaGreatDoorMyFactsA
import Derived.Test.YtencnjmceojnjaaGreatDoorMyFactsB
set_option linter.all false
namespace Go.Proofs.YtencnjmceojnjaaGreatDoor
open Go
theorem Xu:Tryz.prog.closure 3=agH:=by unfold Program.closure;rw[aeP];exact af7
theorem adQ:Tryz.prog.unfollowed 3=true:=by unfold Program.unfollowed;rw[Xu];kernel_rfl
theorem Po:(Rows.proofBackRow.unfollowed==Tryz.prog.unfollowed 3)=true:=by rw[adQ];kernel_rfl
theorem Vu:(Rows.proofBackRow.recurses==Tryz.prog.recurses 3)=true:=by unfold Program.recurses;rw[adQ,Bool.true_or];kernel_rfl
theorem YH:(Rows.proofBackRow.inPlace==Tryz.prog.inPlace 3)=true:=by unfold Program.inPlace;rw[Xu];kernel_rfl
theorem acK:(Rows.proofBackRow.named==Tryz.prog.varsNamed 3)=true:=by unfold Program.varsNamed;rw[Xu];kernel_rfl
theorem aaD:Tryz.pinned.checked.prog.funcNamed Rows.proofBackRow.func=some 3:=by kernel_rfl
theorem ahx:Tryz.prog.goes 3=true:=by unfold Program.goes;rw[Xu,Bool.or_eq_true];left;kernel_rfl
theorem aeO:true=Rows.proofBackRow.goesBy Tryz.pinned.checked.prog:=by
 unfold OpenClaim.goesBy Program.goesAt Program.goesFrom;rw[aaD,Option.any_some,show Tryz.pinned.checked.prog.goes 3=true from ahx,Bool.true_or]
end Go.Proofs.YtencnjmceojnjaaGreatDoor
