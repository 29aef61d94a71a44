/- A part of the proof that ProofBack returns true. -/
import Derived.Test.YtencnjmceojnjaaGreatDoorMyEv1
import Derived.Test.YtencnjmceojnjaaGreatDoorCards
import Derived.KernelRfl
set_option linter.all false
namespace Go.Proofs.YtencnjmceojnjaaGreatDoor
open Go
theorem aeP:(1+(Tryz.prog.funcs.toList.map λg=>(Tryz.prog.leadsTo g).length+1).sum)=1327:=by kernel_rfl
end Go.Proofs.YtencnjmceojnjaaGreatDoor
