/- A part of the proof that ProofGreat returns true. -/
import Derived.Test.YtngcidmhopkokaaGreatDoorMyFactsA
import Derived.Test.YtngcidmhopkokaaGreatDoorMyFactsB
set_option linter.all false
namespace Go.Proofs.YtngcidmhopkokaaGreatDoor
open Go
theorem RN:Tryz.prog.closure 3=aeB:=by unfold Program.closure;rw[abH];exact adC
theorem aam:Tryz.prog.unfollowed 3=true:=by unfold Program.unfollowed;rw[RN];kernel_rfl
theorem K7:(Rows.proofGreatRow.unfollowed==Tryz.prog.unfollowed 3)=true:=by rw[aam];kernel_rfl
theorem PI:(Rows.proofGreatRow.recurses==Tryz.prog.recurses 3)=true:=by unfold Program.recurses;rw[aam,Bool.true_or];kernel_rfl
theorem Ud:(Rows.proofGreatRow.inPlace==Tryz.prog.inPlace 3)=true:=by unfold Program.inPlace;rw[RN];kernel_rfl
theorem YZ:(Rows.proofGreatRow.named==Tryz.prog.varsNamed 3)=true:=by unfold Program.varsNamed;rw[RN];kernel_rfl
theorem Wo:Tryz.pinned.checked.prog.funcNamed Rows.proofGreatRow.func=some 3:=by kernel_rfl
theorem afS:Tryz.prog.goes 3=true:=by unfold Program.goes;rw[RN,Bool.or_eq_true];left;kernel_rfl
theorem abG:true=Rows.proofGreatRow.goesBy Tryz.pinned.checked.prog:=by
 unfold OpenClaim.goesBy Program.goesAt Program.goesFrom;rw[Wo,Option.any_some,show Tryz.pinned.checked.prog.goes 3=true from afS,Bool.true_or]
end Go.Proofs.YtngcidmhopkokaaGreatDoor
