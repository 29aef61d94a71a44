/- A part of the proof that ProofGreat returns true. -/
import Derived.Test.YtngcidmhopkokaaGreatDoorMyEv4
import Derived.Test.YtngcidmhopkokaaGreatDoorProg
import Derived.KernelRfl
set_option linter.all false
namespace Go.Ev
open Go.Proofs
def exs:List (Nat×EX):=[(176,.BH),(211,.race),(212,.Un),(213,.en),(214,.xU),(219,.race),(224,.race),(227,.race),(296,.Fg .u64),(297,.BL .u64),(299,.Fb .u64),(350,.Fb .i32),(352,.Fg .i32),(358,.uJ)]
noncomputable def tt:Tr TI:=mkT 10 (tiL Tryz.prog 615 0)
noncomputable def ft:Tr FI:=mkT 10 (fiL exs Tryz.prog.funcs.toList 0)
noncomputable def E : Env := { tt := tt, ft := ft, M7 := [(46, "Match", 458), (260, "Match", 466)], lies := [(408, 408), (479, 408)], flat := [(94, [1, 1, 2]), (214, [1, 1]), (309, [1, 1, 2, 1, 1, 2, 1, 1, 2, 1, 1, 2, 1, 1, 2, 1, 1, 2, 1, 1, 2, 1, 1, 2]), (496, [2, 1])], aaU := [], small := [85, 236], inl := [130, 190, 302, 303, 354, 356, 397] }
end Go.Ev
