/- A part of the proof that ProofGreat returns true. -/
import Derived.Test.YtngcidmhopkokaaGreatDoorMyStates
set_option linter.all false
namespace Go.Ev
open Go.Proofs Go.Proofs.Tryz
set_option maxRecDepth 1000000
set_option maxHeartbeats 0
theorem abe(w:World):UZ [] (Cj (E.at w) (qW (E.at w) 100000) out 85 (Q5 ))=(D9 ):=by kernel_rfl
end Go.Ev
