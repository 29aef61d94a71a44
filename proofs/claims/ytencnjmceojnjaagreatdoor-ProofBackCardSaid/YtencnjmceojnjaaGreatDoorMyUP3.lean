/- A part of the proof that ProofBack returns true. -/
import Derived.Test.YtencnjmceojnjaaGreatDoorMyStates
set_option linter.all false
namespace Go.Ev
open Go.Proofs Go.Proofs.Tryz
set_option maxRecDepth 1000000
set_option maxHeartbeats 0
theorem afJ(w:World)(a:Nat):Zj [292,275,286,283,903,12,226,3,9,13,906,284,251,274,293,253,14,273,904,285,278,911,295] (E5 (E.at w) (vW (E.at w) 100000) out 110 (WR a))=(WQ a):=by kernel_rfl
end Go.Ev
