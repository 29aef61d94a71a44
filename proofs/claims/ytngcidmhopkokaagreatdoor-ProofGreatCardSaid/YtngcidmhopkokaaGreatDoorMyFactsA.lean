/- A part of the proof that ProofGreat returns true. -/
import Derived.Test.YtngcidmhopkokaaGreatDoorMyEv1
import Derived.Test.YtngcidmhopkokaaGreatDoorCards
import Derived.KernelRfl
set_option linter.all false
namespace Go.Proofs.YtngcidmhopkokaaGreatDoor
open Go
theorem abH:(1+(Tryz.prog.funcs.toList.map λg=>(Tryz.prog.leadsTo g).length+1).sum)=1346:=by kernel_rfl
end Go.Proofs.YtngcidmhopkokaaGreatDoor
