/- A part of the proof that ProofBack returns true. -/
import Derived.Test.YtencnjmceojnjaaGreatDoorMyStates
set_option linter.all false
namespace Go.Ev
open Go.Proofs Go.Proofs.Tryz
set_option maxRecDepth 1000000
set_option maxHeartbeats 0
theorem afH(w:World)(a:Nat):(JZ (E.at w) I 145 283 100000 100000 out (WO a)).map (Zj [911,1468,1177,1471,1472,1467,1470,1469,275,292,286,283,903,12,226,3,9,13,906,284,251,274,293,253,14,273,904,285,278,295])=some (WM a):=by kernel_rfl
end Go.Ev
