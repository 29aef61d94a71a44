/- A part of the proof that ProofBack returns true. -/
import Derived.Test.YtencnjmceojnjaaGreatDoorMyStates
set_option linter.all false
namespace Go.Ev
open Go.Proofs Go.Proofs.Tryz
set_option maxRecDepth 1000000
set_option maxHeartbeats 0
theorem afF(w:World)(a:Nat):(JZ (E.at w) I 145 283 100000 100000 out (WL a)).map (Zj [911,1845,1838,1848,1849,1844,1847,1846,1416,1455,1833,1829,275,279,910,263,1183,295,1812,1837,1836,916,274,1817,1177,1461,292,286,283,903,12,226,3,9,13,906,284,251,293,253,14,273,904,285,278])=some (WJ a):=by kernel_rfl
end Go.Ev
