/- A part of the proof that ProofBack returns true. -/
import Derived.Test.YtencnjmceojnjaaGreatDoorMyStates
set_option linter.all false
namespace Go.Ev
open Go.Proofs Go.Proofs.Tryz
set_option maxRecDepth 1000000
set_option maxHeartbeats 0
theorem afL(w:World)(a:Nat):Zj [13,3,9,14,12] (E5 (E.at w) (vW (E.at w) 100000) out 51 (ZO a))=(WS a):=by kernel_rfl
end Go.Ev
