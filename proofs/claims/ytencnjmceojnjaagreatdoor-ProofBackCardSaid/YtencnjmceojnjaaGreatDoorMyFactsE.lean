/- A part of the proof that ProofBack returns true. -/
import Derived.Test.YtencnjmceojnjaaGreatDoorMyFactsA
set_option linter.all false
namespace Go.Proofs.YtencnjmceojnjaaGreatDoor
open Go
theorem aeN:mapsRowed Tryz.prog=true:=by kernel_rfl
end Go.Proofs.YtencnjmceojnjaaGreatDoor
