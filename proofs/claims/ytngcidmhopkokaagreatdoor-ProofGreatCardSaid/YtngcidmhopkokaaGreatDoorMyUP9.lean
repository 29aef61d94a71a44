/- A part of the proof that ProofGreat returns true. -/
import Derived.Test.YtngcidmhopkokaaGreatDoorMyStates
set_option linter.all false
namespace Go.Ev
open Go.Proofs Go.Proofs.Tryz
set_option maxRecDepth 1000000
set_option maxHeartbeats 0
theorem ac6(w:World):UZ [275,3,9,3506,13,12,4863,4864] (Cj (E.at w) (qW (E.at w) 100000) out 32 (Q6 ))=(Q5 ):=by kernel_rfl
end Go.Ev
