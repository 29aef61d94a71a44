/- A part of the proof that ProofBack returns true. -/
import Derived.Test.YtencnjmceojnjaaGreatDoorMyStates
set_option linter.all false
namespace Go.Ev
open Go.Proofs Go.Proofs.Tryz
set_option maxRecDepth 1000000
set_option maxHeartbeats 0
theorem afD(w:World)(a:Nat):Zj [275,3,9,3506,13,12,4863,4864] (E5 (E.at w) (vW (E.at w) 100000) out 32 (WI a))=(WH a):=by kernel_rfl
end Go.Ev
