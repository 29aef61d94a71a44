/- A part of the proof that ProofGreat returns true. -/
import Derived.Test.YtngcidmhopkokaaGreatDoorMyFactsA
set_option linter.all false
namespace Go.Proofs.YtngcidmhopkokaaGreatDoor
open Go
theorem Y0:Tryz.prog.stopsHeard=true:=by kernel_rfl
theorem Y1:Tryz.prog.mayEnter=true:=by kernel_rfl
end Go.Proofs.YtngcidmhopkokaaGreatDoor
