/- A part of the proof that ProofGreat returns true. -/
import Derived.Test.YtngcidmhopkokaaGreatDoorMyFactsA
set_option linter.all false
namespace Go.Proofs.YtngcidmhopkokaaGreatDoor
open Go
theorem abF:mapsRowed Tryz.prog=true:=by kernel_rfl
end Go.Proofs.YtngcidmhopkokaaGreatDoor
