/- A part of the proof that ProofBack returns true. -/
import Derived.Test.YtencnjmceojnjaaGreatDoorMyFactsA
set_option linter.all false
namespace Go.Proofs.YtencnjmceojnjaaGreatDoor
open Go
theorem acL:Tryz.prog.stopsHeard=true:=by kernel_rfl
theorem acM:Tryz.prog.mayEnter=true:=by kernel_rfl
end Go.Proofs.YtencnjmceojnjaaGreatDoor
