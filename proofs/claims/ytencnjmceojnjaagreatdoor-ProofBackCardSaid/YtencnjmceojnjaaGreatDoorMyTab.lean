/- A part of the proof that ProofBack returns true. -/
import Derived.Test.YtencnjmceojnjaaGreatDoorMyEv4
import Derived.Test.YtencnjmceojnjaaGreatDoorProg
import Derived.KernelRfl
set_option linter.all false
namespace Go.Ev
open Go.Proofs
def exs:List (Nat×EX):=[(55,.overlaps),(188,.Ez),(196,.race),(197,.YR),(198,.en),(199,.Ak),(204,.race),(215,.race),(218,.race),(278,.I7 .u64),(279,.EG .u64),(292,.I5 .u64),(343,.I5 .i32),(345,.I7 .i32),(359,.wW)]
noncomputable def tt:Tr TI:=mkT 10 (tiL Tryz.prog 616 0)
noncomputable def ft:Tr FI:=mkT 10 (fiL exs Tryz.prog.funcs.toList 0)
noncomputable def E : Env := { tt := tt, ft := ft, RU := [(40, "Match", 462), (390, "Match", 474)], lies := [(405, 405), (475, 405)], flat := [(101, [1, 1, 2]), (203, [1, 1]), (292, [1, 1, 2, 1, 1, 2, 1, 1, 2, 1, 1, 2, 1, 1, 2, 1, 1, 2, 1, 1, 2, 1, 1, 2]), (492, [2, 1])], ad4 := [], small := [81, 227], inl := [231, 295, 296, 297, 347, 349, 397] }
end Go.Ev
