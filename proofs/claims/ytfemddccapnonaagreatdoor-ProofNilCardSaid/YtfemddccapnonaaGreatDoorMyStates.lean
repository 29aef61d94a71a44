/- A part of the proof that the law ProofNil returns true for every input (its card: YtfemddccapnonaaGreatDoorMyCard): AaDef, AaC, AaUS0, AaUS1, AaUS2, AaUS3. Conditions: those of the given row alone. -/
import Derived.Test.YtfemddccapnonaaGreatDoorMyTab
import Derived.Test.YtfemddccapnonaaGreatDoorEv7
namespace Go.Ev
open Go.Proofs
noncomputable def I : WgIds := { wait := 152, load := 287, cas := 299, semacq := 237, acq := 233, wrt := 236 }
noncomputable def out : List FuncId := [4, 10, 35, 92]
def rAt (f : Func) (p : List Nat) : Array Oper := match cAt f p with | .region _ o _ => o | _ => #[]
abbrev zZ (l : List AV) (t : TypeId) : AO := .cells l t true true
end Go.Ev
set_option linter.all false
namespace Go.Ev
open Go.Proofs
abbrev zT : Prop := some true = some true
abbrev zA (a b : Bool) : Prop := some (AV.bool a) = some (AV.bool b)
theorem zg {a b : Bool} (h : a = b) : some (AV.bool a) = some (AV.bool b) := congrArg (fun z => some (AV.bool z)) h
abbrev DW (w : World) := DoesC Tryz.prog (E.at w)
abbrev DV (w : World) := Does Tryz.prog (E.at w)
abbrev zi1 : List Nat := [5032, 5035, 5036, 5037, 5039, 5041, 5042, 5043, 5044, 5262, 5267, 5269, 5274, 5279, 5287, 5289, 5290, 5291, 5295, 5296, 5297, 5298, 5301, 5302, 5303, 5304, 5305]
abbrev zi2 : List Nat := [5030, 5031, 5032, 5033, 5034, 5035, 5036, 5037, 5038, 5039, 5040, 5041, 5042, 5043, 5044]
abbrev zi3 : List Nat := [1, 1, 1, 1, 1, 1, 1, 1, 1, 1, 1, 1, 1]
abbrev TO := Tr AO
abbrev TV := Tr AV
variable (a : Option (Nat × Nat)) (b0 : Nat) (bb : Nat) (budget : Int) (c : Nat) (e1 : Int) (kind : Int) (n : Nat) (num : Int) (o : Nat) (s : List UInt8) (sym : List UInt8)
noncomputable def zq1 : TO := (zL (zC [(zI 1), (.str [88]), (zI 0), (zI 0), (.str [])] 160))
noncomputable def zq2 : TO := (zL (zC [(.str s), (.osl a n c)] 24))
noncomputable def zq3 : TO := (zO .e (zO (zO .e (zO .e (zO .e (zO (zO (zq2 a c n s) .e) .e)))) .e))
noncomputable def zq4 : TO := (zO (zq3 a c n s) .e)
noncomputable def zq5 : TO := (zO (zO .e (zO .e (zO (zO .e (zO .e (zO .e (zO (zO zq1 .e) .e)))) .e))) (zq4 a c n s))
noncomputable def zq6 : TO := (zO (zO .e (zO .e (zO (zO .e (zO .e (zO .e (zO (zO (zL (zC [(.str [113]), (.sl 5039 0 1 (some 1)), (.sl 5042 0 1 (some 1)), (zI 0), (zI 0)] 79)) .e) .e)))) .e))) (zO (zO .e (zO (zO .e (zO .e (zO .e (zO (zO (zL (zC [(zI 1)] 3)) .e) .e)))) .e)) .e))
noncomputable def zq7 : TO := (zO (zq5 a c n s) zq6)
noncomputable def zq8 : TO := (zO (zO .e (zO .e (zO (zO .e (zO .e (zO .e (zO (zO (zL (zC [(.sl 5037 0 2 (some 2)), (.sl 5043 0 1 (some 1))] 41)) .e) .e)))) .e))) (zO (zO .e (zO (zO .e (zO .e (zO .e (zO (zO (zL (zC [(.str [112]), (.sl 5035 0 1 (some 1)), (zI 0), (zI 0), (.str [113]), (.sl 5036 0 1 (some 1)), (zI 0), (zI 0)] 63)) .e) .e)))) .e)) .e))
noncomputable def zq9 : TO := (zO (zq5 a c n s) zq8)
noncomputable def zq10 : TO := (zL (zC [(.str []), .nils, (zI 0), .nils] 32))
noncomputable def zq11 : TO := (zO (zO .e (zO .e (zO (zO .e (zO .e (zO .e (zO (zO (zL (zC [(.str [112]), (.sl 5041 0 1 (some 1))] 66)) .e) .e)))) .e))) (zO (zO .e (zO (zO .e (zO .e (zO .e (zO (zO zq10 .e) .e)))) .e)) .e))
noncomputable def zq12 : TO := (zO (zO .e (zO .e (zO (zO .e (zO .e (zO .e (zO (zO (zL (zC [(.sl 5037 0 2 (some 2)), (.sl 5043 0 1 (some 1))] 41)) .e) .e)))) .e))) (zO (zO .e (zO (zO .e (zO .e (zO .e (zO (zO (zL (zC [(zI 1)] 3)) .e) .e)))) .e)) .e))
noncomputable def zq13 : TO := (zO zq11 zq12)
noncomputable def zq14 : TO := (zO (zO .e (zO .e (zO (zO .e (zO .e (zO .e (zO (zO (zL (zC [(zI 1), (.str [112]), (.sl 5041 0 1 (some 1)), (zI 0), (zI 0), (.str []), (zI 0), (zI 0), (.str []), (zI 0), .nils, (zI 0), (.str []), (zI 0), (zI 0), (.str []), (zI 0), .nils, (zI 0), (.str []), (zI 0), (.str []), (zI 0), (zI 0), (.str []), (zI 0), .nils, .nils, (zI 0), (zI 0)] 77)) .e) .e)))) .e))) (zO (zO .e (zO (zO .e (zO .e (zO .e (zO (zO (zL (zC [(.sl 5037 0 2 (some 2)), (.sl 5043 0 1 (some 1))] 41)) .e) .e)))) .e)) .e))
noncomputable def zq15 : TO := (zO zq14 (zO (zO (zq3 a c n s) (zq3 a c n s)) (zO (zO .e (zO (zO .e (zO .e (zO .e (zO (zO (zL (zC [(.str [113]), (.sl 5039 0 1 (some 1))] 66)) .e) .e)))) .e)) .e)))
noncomputable def zq16 : TO := (zO (zO (zq7 a c n s) (zq9 a c n s)) (zO zq13 (zq15 a c n s)))
noncomputable def zq17 : TO := (zO (zO (zO .e (zO .e (zO (zO .e (zO .e (zO .e (zO (zO zq1 .e) .e)))) .e))) (zO (zq3 a c n s) (zO .e (zO (zO .e (zO .e (zO .e (zO (zO (zL (zC [(.sl 5037 0 2 (some 2)), (.sl 5043 0 1 (some 1))] 41)) .e) .e)))) .e)))) zq6)
noncomputable def zq18 : TO := (zO (zq17 a c n s) (zq9 a c n s))
noncomputable def zq19 : TO := (zO (zO (zO .e (zO .e (zO (zO .e (zO .e (zO .e (zO (zO (zL (zC [(.str [112]), (.sl 5041 0 1 (some 1))] 66)) .e) .e)))) .e))) (zO (zO .e (zO (zO .e (zO .e (zO .e (zO (zO zq10 .e) .e)))) .e)) (zO .e (zO (zO .e (zO .e (zO .e (zO (zO (zL (zC [(.str [112]), (.sl 5035 0 1 (some 1)), (zI 0), (zI 0)] 63)) .e) .e)))) .e)))) zq12)
noncomputable def zq20 : TO := (zO zq19 (zq15 a c n s))
noncomputable def zq21 : TO := (zO (zq18 a c n s) (zq20 a c n s))
noncomputable def zq22 : TO := (zO (zO (zO .e (zO .e (zO (zO .e (zO .e (zO .e (zO (zO (zL (zC [(.str [112]), (.sl 5041 0 1 (some 1))] 66)) .e) .e)))) .e))) (zO (zO .e (zO (zO .e (zO .e (zO .e (zO (zO zq10 .e) .e)))) .e)) (zO .e (zO (zO .e (zO .e (zO .e (zO (zO (zL (zC [(.str [113]), (.sl 5036 0 1 (some 1)), (zI 0), (zI 0)] 63)) .e) .e)))) .e)))) zq12)
noncomputable def zq23 : TO := (zO zq22 (zq15 a c n s))
noncomputable def zq24 : TO := (zO (zq18 a c n s) (zq23 a c n s))
noncomputable def zq25 : TO := (zL (zC [(.str []), .nils, (zI 0), (zI 0)] 63))
noncomputable def zq26 : TO := (zO (zO (zO (zO .e (zO .e (zO (zO .e (zO .e (zO .e (zO (zO (zL (zC [(.str [112]), (.sl 5041 0 1 (some 1))] 66)) .e) .e)))) .e))) (zO (zO .e (zO (zO .e (zO .e (zO .e (zO (zO zq10 .e) .e)))) .e)) (zO .e (zO (zO .e (zO .e (zO .e (zO (zO zq25 .e) .e)))) .e)))) zq12) (zq15 a c n s))
noncomputable def zq27 : TO := (zO (zq18 a c n s) (zq26 a c n s))
noncomputable def zq28 : TO := (zO (zq7 a c n s) (zO (zq5 a c n s) (zO .e (zO (zO .e (zO (zO .e (zO .e (zO .e (zO (zO (zL (zC [(.str [112]), (.sl 5035 0 1 (some 1)), (zI 0), (zI 0), (.str [113]), (.sl 5036 0 1 (some 1)), (zI 0), (zI 0)] 63)) .e) .e)))) .e)) .e))))
noncomputable def zq29 : TO := (zO zq14 (zO (zq4 a c n s) (zO (zO .e (zO (zO .e (zO .e (zO .e (zO (zO (zL (zC [(.str [113]), (.sl 5039 0 1 (some 1))] 66)) .e) .e)))) .e)) .e)))
noncomputable def zq30 : TO := (zO (zq28 a c n s) (zO zq13 (zq29 a c n s)))
noncomputable def zq31 : TO := (zO (zO (zq17 a c n s) (zO (zO (zO .e (zO .e (zO (zO .e (zO .e (zO .e (zO (zO zq1 .e) .e)))) .e))) (zO (zq3 a c n s) (zO .e (zO (zO .e (zO .e (zO .e (zO (zO (zL (zC [(.str [112]), (.sl 5035 0 1 (some 1)), (zI 0), (zI 0)] 63)) .e) .e)))) .e)))) zq8)) (zq20 a c n s))
noncomputable def zq32 : TO := (zO (zO (zq17 a c n s) (zO (zO (zO .e (zO .e (zO (zO .e (zO .e (zO .e (zO (zO zq1 .e) .e)))) .e))) (zO (zq3 a c n s) (zO .e (zO (zO .e (zO .e (zO .e (zO (zO (zL (zC [(.str [113]), (.sl 5036 0 1 (some 1)), (zI 0), (zI 0)] 63)) .e) .e)))) .e)))) zq8)) (zq23 a c n s))
noncomputable def zq33 : TO := (zO (zO (zq17 a c n s) (zO (zO (zO .e (zO .e (zO (zO .e (zO .e (zO .e (zO (zO zq1 .e) .e)))) .e))) (zO (zq3 a c n s) (zO .e (zO (zO .e (zO .e (zO .e (zO (zO zq25 .e) .e)))) .e)))) zq8)) (zq26 a c n s))
noncomputable def zq34 : TO := (zL (zG [(zI 1), (.str [88]), (zI 0), (zI 0), (.str [])] 160))
noncomputable def zq35 : TO := (zO (zO .e (zO .e (zO (zO .e (zO (zO .e (zL (zC [(.sl 6860 0 2 none), (.sl 6880 0 1 none)] 41))) .e)) .e))) (zO (zO .e (zO (zO (zO .e (zO zq34 .e)) .e) .e)) (zO .e (zO (zO .e (zO (zO .e (zL (zC [(.str [113]), (.sl 6865 0 1 none), (.sl 6878 0 1 none), (zI 0), (zI 0)] 79))) .e)) .e))))
noncomputable def zq36 : TO := (zO zq35 (zO (zO .e (zO .e (zO (zO .e (zO (zO .e (zL (zC [(.str [113]), (.sl 6865 0 1 none)] 66))) .e)) .e))) (zO (zO .e (zO (zO (zO .e (zO (zL (zC [(zI 1), (.map 5296), (.map 5297), (.int .i32 0), (.int .u32 0), .nils, (.map 5298)] 187)) .e)) .e) (zO .e (zO (zO zq1 .e) .e)))) .e)))
noncomputable def zq37 : TO := (zO (zO .e (zO .e (zO (zO .e (zO (zO .e (zL (zC [(zI 0), (.str []), (zI 0), (zI 0), (.str []), (zI 0), .nils] 72))) .e)) .e))) (zO (zO .e (zO (zO (zO .e (zO (zL (.map [] 0)) .e)) .e) .e)) .e))
noncomputable def zq38 : TO := (zO (zO (zO .e (zO (zO (zO .e (zO (zL (zG [(zI 1)] 3)) .e)) .e) .e)) (zO .e (zO (zO .e (zO (zO .e (zL (zC [(.str [112]), (.sl 5279 0 1 none)] 66))) .e)) .e))) (zO (zO .e (zO .e (zO .e (zO (zO (zL (zC [(.str [113]), (.sl 5039 0 1 (some 1)), (.sl 5042 0 1 (some 1)), (zI 0), (zI 0)] 79)) .e) .e)))) .e))
noncomputable def zq39 : TO := (zO (zO (zO .e (zO .e (zO (zO .e (zO (zO .e (zL (zC [(.str [113]), (.sl 6858 0 1 none), (zI 0), (zI 0)] 63))) .e)) .e))) (zO (zO .e (zO (zO (zO .e (zO (zL (zC [(.sl 5269 0 2 none), (.sl 5289 0 1 none), (.sl 5301 0 2 none), (.map 5290), .nils, (zI 0)] 91)) .e)) .e) (zO .e (zO (zO (zL (zC [(zI 1)] 3)) .e) .e)))) .e)) (zO (zO .e (zO .e (zO (zO .e (zO (zO .e (zL (zC [(zI 0), (.str []), (zI 0), (zI 0), (.str []), (zI 0), .nils] 72))) .e)) .e))) .e))
noncomputable def zq40 : TO := (zO (zO zq36 (zO (zO (zO .e (zO .e (zO (zO .e (zO (zO .e (zL .dead)) .e)) .e))) (zO (zO .e (zO (zO (zO .e (zO (zL (zG [(zI 1), (.str [112]), (.sl 5279 0 1 none), (zI 0), (zI 0), (.str []), (zI 0), (zI 0), (.str []), (zI 0), .nils, (zI 0), (.str []), (zI 0), (zI 0), (.str []), (zI 0), .nils, (zI 0), (.str []), (zI 0), (.str []), (zI 0), (zI 0), (.str []), (zI 0), .nils, .nils, (zI 0), (zI 0)] 77)) .e)) .e) .e)) .e)) zq37)) (zO (zO (zO (zO .e (zO .e (zO (zO .e (zO (zO .e (zL (zC [(.str [112]), (.sl 6853 0 1 none), (zI 0), (zI 0)] 63))) .e)) .e))) .e) zq38) zq39))
noncomputable def zq41 : TO := (zO (zO .e (zO .e (zO (zO .e (zO (zO .e zq34) .e)) .e))) (zO (zO .e (zO (zO (zO .e (zO (zL (.map [] 0)) .e)) .e) (zO .e (zO (zO zq1 .e) .e)))) .e))
noncomputable def zq42 : TO := (zO (zO (zO .e (zO .e (zO (zO .e (zO (zO .e (zL (zC [] 3))) .e)) .e))) (zO (zO .e (zO (zO (zO .e (zO (zL (zG [(.str [113]), (.sl 5274 0 1 none), (.sl 5287 0 1 none), (zI 0), (zI 0)] 79)) .e)) .e) .e)) .e)) zq37)
noncomputable def zq43 : TO := (zO (zO (zO .e (zO (zO (zO .e (zO (zL (zG [(.str [112]), (.sl 5262 0 1 none), (zI 0), (zI 0), (.str [113]), (.sl 5267 0 1 none), (zI 0), (zI 0)] 63)) .e)) .e) .e)) (zO .e (zO (zO .e (zO (zO .e (zL (zC [] 160))) .e)) .e))) (zO (zO .e (zO (zO (zO .e (zO (zL (zG [(.str [112]), (.str [113])] 9)) .e)) .e) .e)) .e))
noncomputable def zq44 : TO := (zO (zO .e (zO .e (zO (zO .e (zO (zO .e (zL (zC [(zI 1), (.str [112]), (.sl 6870 0 1 none), (zI 0), (zI 0), (.str []), (zI 0), (zI 0), (.str []), (zI 0), .nils, (zI 0), (.str []), (zI 0), (zI 0), (.str []), (zI 0), .nils, (zI 0), (.str []), (zI 0), (.str []), (zI 0), (zI 0), (.str []), (zI 0), .nils, .nils, (zI 0), (zI 0)] 77))) .e)) .e))) (zO (zO .e (zO (zO .e (zO (zO .e zq10) .e)) .e)) .e))
noncomputable def zq45 : TO := (zO (zO (zO .e (zO .e (zO (zO .e (zO (zO .e (zL (zC [(.str [113]), (.sl 5274 0 1 none), (.sl 5287 0 1 none), (zI 0), (zI 0)] 79))) .e)) .e))) (zO (zO .e (zO .e (zO .e (zO (zO (zL (zC [(.str [112]), (.sl 5035 0 1 (some 1)), (zI 0), (zI 0), (.str [113]), (.sl 5036 0 1 (some 1)), (zI 0), (zI 0)] 63)) .e) .e)))) .e)) zq44)
noncomputable def zq46 : TO := (zO (zO (zO (zO .e (zO .e (zO (zO .e (zO (zO .e (zL (zG [(zI 1)] 3))) .e)) .e))) .e) zq43) zq45)
noncomputable def zq47 : TO := (zO zq40 (zO (zO (zO (zO (zO .e (zO .e (zO (zO .e (zO (zO .e (zL (zC [(.sl 6860 0 2 none), (.sl 6880 0 1 none)] 41))) .e)) .e))) .e) zq41) zq42) zq46))
noncomputable def zq48 : TO := (zO (zO .e (zO .e (zO (zO .e (zO (zO .e (zL (zC [(.sl 5269 0 2 none), (.sl 5289 0 1 none)] 41))) .e)) .e))) (zO .e (zO .e (zO (zO .e (zO (zO .e (zL (zG [(.str [113]), (.sl 6865 0 1 none), (.sl 6878 0 1 none), (zI 0), (zI 0)] 79))) .e)) .e))))
noncomputable def zq49 : TO := (zO zq48 (zO (zO .e (zO .e (zO (zO .e (zO (zO .e (zL (zC [] 160))) .e)) .e))) (zO (zO .e (zO (zO (zO .e (zO (zL (.map [] 0)) .e)) .e) .e)) .e)))
noncomputable def zq50 : TO := (zO zq49 (zO (zO (zO .e (zO .e (zO (zO .e (zO (zO .e (zL (zC [(.str [113]), (.sl 6858 0 1 none), (zI 0), (zI 0)] 63))) .e)) .e))) (zO (zO .e (zO .e (zO .e (zO (zO zq10 .e) .e)))) .e)) zq37))
noncomputable def zq51 : TO := (zO (zO .e (zO .e (zO (zO .e (zO (zO .e (zL (zC [(.str [112]), (.sl 6870 0 1 none)] 66))) .e)) .e))) (zO (zO .e (zO .e (zO .e (zO (zO (zL (zC [(.sl 5037 0 2 (some 2)), (.sl 5043 0 1 (some 1))] 41)) .e) .e)))) .e))
noncomputable def zq52 : TO := (zO (zO (zO .e (zO .e (zO (zO .e (zO (zO .e (zL (zC [] 3))) .e)) .e))) .e) zq51)
noncomputable def zq53 : TO := (zO (zO .e (zO .e (zO (zO .e (zO (zO .e (zL (zG [(.str [112]), (.sl 6853 0 1 none), (zI 0), (zI 0), (.str [113]), (.sl 6858 0 1 none), (zI 0), (zI 0)] 63))) .e)) .e))) (zO (zO .e (zO .e (zO .e (zO (zO (zL (zC [(zI 1)] 3)) .e) .e)))) .e))
noncomputable def zq54 : TO := (zO .e (zO (zO .e (zO (zO .e (zq2 a c n s)) .e)) .e))
noncomputable def zq55 : TO := (zO (zq54 a c n s) .e)
noncomputable def zq56 : TO := (zO zq53 (zO (zO .e (zO .e (zO (zO .e (zO (zO .e (zL (zC [(zI 0), (.str []), (zI 0), (zI 0), (.str []), (zI 0), .nils] 72))) .e)) .e))) (zq55 a c n s)))
noncomputable def zq57 : TO := (zO zq50 (zO zq52 (zq56 a c n s)))
noncomputable def zq58 : TO := (zO (zO .e (zO .e (zO (zO .e (zO (zO .e (zL (zC [(zI 1), (.str [112]), (.sl 6870 0 1 none), (zI 0), (zI 0), (.str []), (zI 0), (zI 0), (.str []), (zI 0), .nils, (zI 0), (.str []), (zI 0), (zI 0), (.str []), (zI 0), .nils, (zI 0), (.str []), (zI 0), (.str []), (zI 0), (zI 0), (.str []), (zI 0), .nils, .nils, (zI 0), (zI 0)] 77))) .e)) .e))) (zO (zO .e (zO (zO (zO .e (zO (zL (.map [] 0)) .e)) .e) (zO .e (zO (zO (zL (zC [(zI 1), (.str [112]), (.sl 5041 0 1 (some 1)), (zI 0), (zI 0), (.str []), (zI 0), (zI 0), (.str []), (zI 0), .nils, (zI 0), (.str []), (zI 0), (zI 0), (.str []), (zI 0), .nils, (zI 0), (.str []), (zI 0), (.str []), (zI 0), (zI 0), (.str []), (zI 0), .nils, .nils, (zI 0), (zI 0)] 77)) .e) .e)))) .e))
noncomputable def zq59 : TO := (zO (zO (zO .e (zO .e (zO (zO .e (zO (zO .e (zL (zG [(zI 1)] 3))) .e)) .e))) (zO (zO .e (zO (zO (zO .e (zO (zL (.map [⟨(.str [112]), (zP 5295 0), 0⟩, ⟨(.str [113]), (zP 5302 0), 1⟩] 2)) .e)) .e) .e)) .e)) (zO (zO (zO .e (zO (zO (zO .e (zO zq34 .e)) .e) .e)) (zO .e (zO (zO .e (zO (zO .e (zL (zC [(zI 0), (.str []), (zI 0), (zI 0), (.str []), (zI 0), .nils] 72))) .e)) .e))) .e))
noncomputable def zq60 : TO := (zO (zO (zO (zO .e (zO .e (zO (zO .e (zO (zO .e (zL (zC [(.sl 6860 0 2 none), (.sl 6880 0 1 none)] 41))) .e)) .e))) .e) zq58) zq59)
noncomputable def zq61 : TO := (zO (zO .e (zO .e (zO (zO .e (zO (zO .e zq34) .e)) .e))) (zO (zO .e (zO (zO (zO .e (zO (zL (zC [(zI 1), (.map 5303), (.map 5304), (.int .i32 0), (.int .u32 0), .nils, (.map 5305)] 187)) .e)) .e) .e)) .e))
noncomputable def zq62 : TO := (zO (zO (zO .e (zO .e (zO (zO .e (zO (zO .e (zL (zC [(.str [112]), (.sl 6853 0 1 none), (zI 0), (zI 0)] 63))) .e)) .e))) .e) zq61)
noncomputable def zq63 : TO := (zO (zO .e (zO (zO (zO .e (zO (zL (zG [(zI 1)] 3)) .e)) .e) .e)) (zO .e (zO (zO .e (zO (zO .e (zL (zC [(.str [113]), (.sl 5274 0 1 none)] 66))) .e)) .e)))
noncomputable def zq64 : TO := (zO (zO zq63 .e) (zO (zO .e (zO .e (zO (zO .e (zO (zO .e (zL (zG [(zI 1), (.str [112]), (.sl 6870 0 1 none), (zI 0), (zI 0), (.str []), (zI 0), (zI 0), (.str []), (zI 0), .nils, (zI 0), (.str []), (zI 0), (zI 0), (.str []), (zI 0), .nils, (zI 0), (.str []), (zI 0), (.str []), (zI 0), (zI 0), (.str []), (zI 0), .nils, .nils, (zI 0), (zI 0)] 77))) .e)) .e))) (zq55 a c n s)))
noncomputable def zq65 : TO := (zO zq62 (zq64 a c n s))
noncomputable def zq66 : TO := (zO zq47 (zO (zq57 a c n s) (zO zq60 (zq65 a c n s))))
noncomputable def zq67 : TO := (zO (zO (zO .e (zO .e (zO (zO .e (zO (zO .e (zL .dead)) .e)) .e))) (zO (zO .e (zO (zO (zO .e (zO (zL (zG [(zI 1), (.str [112]), (.sl 5279 0 1 none), (zI 0), (zI 0), (.str []), (zI 0), (zI 0), (.str []), (zI 0), .nils, (zI 0), (.str []), (zI 0), (zI 0), (.str []), (zI 0), .nils, (zI 0), (.str []), (zI 0), (.str []), (zI 0), (zI 0), (.str []), (zI 0), .nils, .nils, (zI 0), (zI 0)] 77)) .e)) .e) .e)) (zO .e (zO (zO .e (zO (zO .e (zL (zC [(.str [113]), (.sl 6858 0 1 none), (zI 0), (zI 0)] 63))) .e)) .e)))) zq37)
noncomputable def zq68 : TO := (zO zq36 zq67)
noncomputable def zq69 : TO := (zO (zO (zO .e (zO .e (zO (zO .e (zO (zO .e (zL (zC [(.str [112]), (.sl 6853 0 1 none), (zI 0), (zI 0)] 63))) .e)) .e))) (zO .e (zO .e (zO (zO .e (zO (zO .e (zL (zC [(.sl 6860 0 2 none), (.sl 6880 0 1 none)] 41))) .e)) .e)))) zq38)
noncomputable def zq70 : TO := (zO zq68 (zO zq69 zq39))
noncomputable def zq71 : TO := (zO (zO .e (zO .e (zO (zO .e (zO (zO .e (zL (zC [(.sl 6860 0 2 none), (.sl 6880 0 1 none)] 41))) .e)) .e))) (zO .e (zO .e (zO (zO .e (zO (zO .e (zL (zC [(.sl 6860 0 2 none), (.sl 6880 0 1 none)] 41))) .e)) .e))))
noncomputable def zq72 : TO := (zO zq71 zq41)
noncomputable def zq73 : TO := (zO (zO (zO .e (zO .e (zO (zO .e (zO (zO .e (zL (zG [(zI 1)] 3))) .e)) .e))) (zO .e (zO .e (zO (zO .e (zO (zO .e (zL (zC [(.str [112]), (.sl 6853 0 1 none), (zI 0), (zI 0)] 63))) .e)) .e)))) zq43)
noncomputable def zq74 : TO := (zO zq73 zq45)
noncomputable def zq75 : TO := (zO (zO (zO .e (zO .e (zO (zO .e (zO (zO .e (zL (zC [(.str [113]), (.sl 6858 0 1 none), (zI 0), (zI 0)] 63))) .e)) .e))) (zO (zO .e (zO .e (zO .e (zO (zO zq10 .e) .e)))) (zO .e (zO (zO .e (zO (zO .e zq25) .e)) .e)))) zq37)
noncomputable def zq76 : TO := (zO zq49 zq75)
noncomputable def zq77 : TO := (zO (zO (zO .e (zO .e (zO (zO .e (zO (zO .e (zL (zC [] 3))) .e)) .e))) (zO .e (zO .e (zO (zO .e (zO (zO .e (zL (.map [⟨(.str [112]), (.agg [(.str [112]), (.sl 6853 0 1 none), (zI 0), (zI 0)]), 0⟩, ⟨(.str [113]), (.agg [(.str [113]), (.sl 6858 0 1 none), (zI 0), (zI 0)]), 1⟩] 2))) .e)) .e)))) zq51)
noncomputable def zq78 : TO := (zO (zO (zO (zO .e (zO .e (zO (zO .e (zO (zO .e (zL (zC [(.sl 6860 0 2 none), (.sl 6880 0 1 none)] 41))) .e)) .e))) (zO .e (zq54 a c n s))) zq58) zq59)
noncomputable def zq79 : TO := (zO (zO (zO .e (zO .e (zO (zO .e (zO (zO .e (zL (zC [(.str [112]), (.sl 6853 0 1 none), (zI 0), (zI 0)] 63))) .e)) .e))) (zO .e (zO .e (zO (zO .e (zO (zO .e zq25) .e)) .e)))) zq61)
noncomputable def zq80 : TO := (zO (zO zq76 (zO zq77 (zq56 a c n s))) (zO (zq78 a c n s) (zO zq79 (zq64 a c n s))))
noncomputable def zq81 : TO := (zO (zO zq70 (zO (zO zq72 (zO (zO (zO .e (zO .e (zO (zO .e (zO (zO .e (zL (zC [] 3))) .e)) .e))) (zO (zO .e (zO (zO (zO .e (zO (zL (zG [(.str [113]), (.sl 5274 0 1 none), (.sl 5287 0 1 none), (zI 0), (zI 0)] 79)) .e)) .e) .e)) (zO .e (zO (zO .e (zO (zO .e zq25) .e)) .e)))) zq37)) zq74)) (zq80 a c n s))
noncomputable def zq82 : TO := (zO zq72 zq42)
noncomputable def zq83 : TO := (zO zq40 (zO zq82 zq46))
noncomputable def zq84 : TO := (zO zq70 (zO zq82 zq74))
noncomputable def zq85 : TO := (zO zq84 (zq80 a c n s))
noncomputable def zq86 : TO := (zO (zO .e (zO (zO .e (zO (zO (zO .e (zO zq34 .e)) .e) .e)) .e)) (zO .e (zO (zO .e (zO (zO (zO .e (zO (zL (zC [(zI 1), (.map 5296), (.map 5297), (.int .i32 0), (.int .u32 0), .nils, (.map 5298)] 187)) .e)) .e) (zO .e (zO (zO zq1 .e) .e)))) .e)))
noncomputable def zq87 : TO := (zO (zO .e (zO (zO .e (zO (zO (zO .e (zO (zL (zG [(zI 1), (.str [112]), (.sl 5279 0 1 none), (zI 0), (zI 0), (.str []), (zI 0), (zI 0), (.str []), (zI 0), .nils, (zI 0), (.str []), (zI 0), (zI 0), (.str []), (zI 0), .nils, (zI 0), (.str []), (zI 0), (.str []), (zI 0), (zI 0), (.str []), (zI 0), .nils, .nils, (zI 0), (zI 0)] 77)) .e)) .e) .e)) .e)) (zO .e (zO (zO .e (zO (zO (zO .e (zO (zL (.map [] 0)) .e)) .e) .e)) .e)))
noncomputable def zq88 : TO := (zO zq86 zq87)
noncomputable def zq89 : TO := (zO (zO (zO .e (zO (zO (zO .e (zO (zL (zG [(zI 1)] 3)) .e)) .e) .e)) .e) (zO (zO .e (zO .e (zO .e (zO (zO (zL (zC [(.str [113]), (.sl 5039 0 1 (some 1)), (.sl 5042 0 1 (some 1)), (zI 0), (zI 0)] 79)) .e) .e)))) .e))
noncomputable def zq90 : TO := (zO zq88 (zO (zO .e zq89) (zO (zO .e (zO (zO .e (zO (zO (zO .e (zO (zL (zC [(.sl 5269 0 2 none), (.sl 5289 0 1 none), (.sl 5301 0 2 none), (.map 5290), .nils, (zI 0)] 91)) .e)) .e) (zO .e (zO (zO (zL (zC [(zI 1)] 3)) .e) .e)))) .e)) .e)))
noncomputable def zq91 : TO := (zO (zO .e (zO (zO .e (zO (zO (zO .e (zO (zL (zG [(.str [113]), (.sl 5274 0 1 none), (.sl 5287 0 1 none), (zI 0), (zI 0)] 79)) .e)) .e) .e)) .e)) (zO .e (zO (zO .e (zO (zO (zO .e (zO (zL (.map [] 0)) .e)) .e) .e)) .e)))
noncomputable def zq92 : TO := (zO (zO .e (zO .e (zO (zO .e (zO (zO (zO .e (zO (zL (.map [] 0)) .e)) .e) (zO .e (zO (zO zq1 .e) .e)))) .e))) zq91)
noncomputable def zq93 : TO := (zO (zO .e (zO (zO (zO .e (zO (zO (zO .e (zO (zL (zG [(.str [112]), (.sl 5262 0 1 none), (zI 0), (zI 0), (.str [113]), (.sl 5267 0 1 none), (zI 0), (zI 0)] 63)) .e)) .e) .e)) .e) (zO (zO .e (zO (zO (zO .e (zO (zL (zG [(.str [112]), (.str [113])] 9)) .e)) .e) .e)) .e))) (zO (zO .e (zO (zO .e (zO .e (zO .e (zO (zO (zL (zC [(.str [112]), (.sl 5035 0 1 (some 1)), (zI 0), (zI 0), (.str [113]), (.sl 5036 0 1 (some 1)), (zI 0), (zI 0)] 63)) .e) .e)))) .e)) (zO .e (zO (zO .e (zO (zO .e (zO (zO .e zq10) .e)) .e)) .e))))
noncomputable def zq94 : TO := (zO zq90 (zO zq92 zq93))
noncomputable def zq95 : TO := (zO (zO .e (zO (zO .e (zO .e (zO .e (zO (zO zq10 .e) .e)))) .e)) (zO .e (zO (zO .e (zO (zO (zO .e (zO (zL (.map [] 0)) .e)) .e) .e)) .e)))
noncomputable def zq96 : TO := (zO (zO .e (zO .e (zO (zO .e (zO (zO (zO .e (zO (zL (.map [] 0)) .e)) .e) .e)) .e))) zq95)
noncomputable def zq97 : TO := (zO .e (zq55 a c n s))
noncomputable def zq98 : TO := (zO zq96 (zO (zO .e (zO .e (zO (zO .e (zO .e (zO .e (zO (zO (zL (zC [(.sl 5037 0 2 (some 2)), (.sl 5043 0 1 (some 1))] 41)) .e) .e)))) .e))) (zO (zO .e (zO (zO .e (zO .e (zO .e (zO (zO (zL (zC [(zI 1)] 3)) .e) .e)))) .e)) (zq97 a c n s))))
noncomputable def zq99 : TO := (zO (zO .e (zO (zO .e (zO (zO (zO .e (zO (zL (.map [⟨(.str [112]), (zP 5295 0), 0⟩, ⟨(.str [113]), (zP 5302 0), 1⟩] 2)) .e)) .e) .e)) .e)) (zO (zO (zO .e (zO (zO (zO .e (zO zq34 .e)) .e) .e)) .e) .e))
noncomputable def zq100 : TO := (zO (zO .e (zO .e (zO (zO .e (zO (zO (zO .e (zO (zL (.map [] 0)) .e)) .e) (zO .e (zO (zO (zL (zC [(zI 1), (.str [112]), (.sl 5041 0 1 (some 1)), (zI 0), (zI 0), (.str []), (zI 0), (zI 0), (.str []), (zI 0), .nils, (zI 0), (.str []), (zI 0), (zI 0), (.str []), (zI 0), .nils, (zI 0), (.str []), (zI 0), (.str []), (zI 0), (zI 0), (.str []), (zI 0), .nils, .nils, (zI 0), (zI 0)] 77)) .e) .e)))) .e))) zq99)
noncomputable def zq101 : TO := (zO zq100 (zO (zO .e (zO .e (zO (zO .e (zO (zO (zO .e (zO (zL (zC [(zI 1), (.map 5303), (.map 5304), (.int .i32 0), (.int .u32 0), .nils, (.map 5305)] 187)) .e)) .e) .e)) .e))) (zO (zO (zO (zO .e (zO (zO (zO .e (zO (zL (zG [(zI 1)] 3)) .e)) .e) .e)) .e) .e) .e)))
noncomputable def zq102 : TO := (zO zq94 (zO (zq98 a c n s) zq101))
noncomputable def zq103 : TO := (zO zq90 (zO zq92 (zO (zO .e (zO (zO (zO .e (zO (zO (zO .e (zO (zL (zG [(.str [112]), (.sl 5262 0 1 none), (zI 0), (zI 0), (.str [113]), (.sl 5267 0 1 none), (zI 0), (zI 0)] 63)) .e)) .e) .e)) .e) (zO (zO .e (zO (zO (zO .e (zO (zL (zG [(.str [112]), (.str [113])] 9)) .e)) .e) .e)) .e))) (zO (zO .e (zO (zO .e (zO .e (zO .e (zO (zO (zL (zC [(.str [112]), (.sl 5035 0 1 (some 1)), (zI 0), (zI 0), (.str [113]), (.sl 5036 0 1 (some 1)), (zI 0), (zI 0)] 63)) .e) .e)))) .e)) .e))))
noncomputable def zq104 : TO := (zO zq103 (zO (zO zq96 zq12) zq101))
noncomputable def zq105 : TO := (zL (zC [(.str [112]), (.osl (some (bb, o)) 1 c)] 24))
noncomputable def zq106 : TO := (zO .e (zO (zO .e (zO (zO .e (zq105 bb c o)) .e)) .e))
noncomputable def zq107 : TO := (zO (zq106 bb c o) .e)
noncomputable def zq108 : TO := (zO (zO .e (zO .e (zO (zO .e (zO (zO .e (zL (zC [(zI 0), (.str []), (zI 0), (zI 0), (.str []), (zI 0), .nils] 72))) .e)) .e))) (zq107 bb c o))
noncomputable def zq109 : TO := (zO zq53 (zq108 bb c o))
noncomputable def zq110 : TO := (zO zq50 (zO zq52 (zq109 bb c o)))
noncomputable def zq111 : TO := (zO (zO .e (zO .e (zO (zO .e (zO (zO .e (zL (zG [(zI 1), (.str [112]), (.sl 6870 0 1 none), (zI 0), (zI 0), (.str []), (zI 0), (zI 0), (.str []), (zI 0), .nils, (zI 0), (.str []), (zI 0), (zI 0), (.str []), (zI 0), .nils, (zI 0), (.str []), (zI 0), (.str []), (zI 0), (zI 0), (.str []), (zI 0), .nils, .nils, (zI 0), (zI 0)] 77))) .e)) .e))) (zq107 bb c o))
noncomputable def zq112 : TO := (zO (zO zq63 .e) (zq111 bb c o))
noncomputable def zq113 : TO := (zO zq62 (zq112 bb c o))
noncomputable def zq114 : TO := (zO zq47 (zO (zq110 bb c o) (zO zq60 (zq113 bb c o))))
noncomputable def zq115 : TO := (zO (zO (zO .e (zO .e (zO (zO .e (zO (zO .e (zL (zC [] 3))) .e)) .e))) (zO (zO .e (zO (zO (zO .e (zO (zL (zG [(.str [113]), (.sl 5274 0 1 none), (.sl 5287 0 1 none), (zI 0), (zI 0)] 79)) .e)) .e) .e)) (zO .e (zO (zO .e (zO (zO .e (zL (zC [(.str [112]), (.sl 6853 0 1 none), (zI 0), (zI 0)] 63))) .e)) .e)))) zq37)
noncomputable def zq116 : TO := (zO zq72 zq115)
noncomputable def zq117 : TO := (zO zq116 zq74)
noncomputable def zq118 : TO := (zO zq70 zq117)
noncomputable def zq119 : TO := (zO zq76 (zO zq77 (zq109 bb c o)))
noncomputable def zq120 : TO := (zO (zO .e (zO .e (zO (zO .e (zO (zO .e (zL (zC [(.sl 6860 0 2 none), (.sl 6880 0 1 none)] 41))) .e)) .e))) (zO .e (zq106 bb c o)))
noncomputable def zq121 : TO := (zO (zq120 bb c o) zq58)
noncomputable def zq122 : TO := (zO (zq121 bb c o) zq59)
noncomputable def zq123 : TO := (zO zq79 (zq112 bb c o))
noncomputable def zq124 : TO := (zO (zq119 bb c o) (zO (zq122 bb c o) (zq123 bb c o)))
noncomputable def zq125 : TO := (zO zq118 (zq124 bb c o))
noncomputable def zq126 : TO := (zO zq83 (zO (zq110 bb c o) (zO (zq122 bb c o) (zq113 bb c o))))
noncomputable def zq127 : TO := (zO zq84 (zq124 bb c o))
noncomputable def zq128 : TO := (zL (zC [(zI kind), (zI num), (.str sym)] 69))
noncomputable def zq129 : TO := (zO (zO (zO .e (zO .e (zO (zO .e (zO (zO .e (zL (zG [(zI 1)] 3))) .e)) .e))) (zO (zO .e (zO (zO (zO .e (zO (zL (.map [⟨(.str [112]), (zP 5295 0), 0⟩, ⟨(.str [113]), (zP 5302 0), 1⟩] 2)) .e)) .e) .e)) (zO .e (zO (zO .e (zO (zO .e (zq128 kind num sym)) .e)) .e)))) (zO (zO (zO .e (zO (zO (zO .e (zO zq34 .e)) .e) .e)) (zO .e (zO (zO .e (zO (zO .e (zL (zC [(zI 0), (.str []), (zI 0), (zI 0), (.str []), (zI 0), .nils] 72))) .e)) .e))) .e))
noncomputable def zq130 : TO := (zO (zq121 bb c o) (zq129 kind num sym))
noncomputable def zq131 : TO := (zO (zq130 bb c kind num o sym) (zq123 bb c o))
noncomputable def zq132 : TO := (zO (zq119 bb c o) (zq131 bb c kind num o sym))
noncomputable def zq133 : TO := (zO zq118 (zq132 bb c kind num o sym))
noncomputable def zq134 : TO := (zL (zC [(.str [113]), (.osl (some (bb, o)) 1 c)] 24))
noncomputable def zq135 : TO := (zO .e (zO (zO .e (zO (zO .e (zq134 bb c o)) .e)) .e))
noncomputable def zq136 : TO := (zO (zq135 bb c o) .e)
noncomputable def zq137 : TO := (zO (zO .e (zO .e (zO (zO .e (zO (zO .e (zL (zC [(zI 0), (.str []), (zI 0), (zI 0), (.str []), (zI 0), .nils] 72))) .e)) .e))) (zq136 bb c o))
noncomputable def zq138 : TO := (zO zq53 (zq137 bb c o))
noncomputable def zq139 : TO := (zO zq50 (zO zq52 (zq138 bb c o)))
noncomputable def zq140 : TO := (zO (zO .e (zO .e (zO (zO .e (zO (zO .e (zL (zG [(zI 1), (.str [112]), (.sl 6870 0 1 none), (zI 0), (zI 0), (.str []), (zI 0), (zI 0), (.str []), (zI 0), .nils, (zI 0), (.str []), (zI 0), (zI 0), (.str []), (zI 0), .nils, (zI 0), (.str []), (zI 0), (.str []), (zI 0), (zI 0), (.str []), (zI 0), .nils, .nils, (zI 0), (zI 0)] 77))) .e)) .e))) (zq136 bb c o))
noncomputable def zq141 : TO := (zO (zO zq63 .e) (zq140 bb c o))
noncomputable def zq142 : TO := (zO zq62 (zq141 bb c o))
noncomputable def zq143 : TO := (zO zq47 (zO (zq139 bb c o) (zO zq60 (zq142 bb c o))))
noncomputable def zq144 : TO := (zO (zO (zO .e (zO .e (zO (zO .e (zO (zO .e (zL (zC [] 3))) .e)) .e))) (zO (zO .e (zO (zO (zO .e (zO (zL (zG [(.str [113]), (.sl 5274 0 1 none), (.sl 5287 0 1 none), (zI 0), (zI 0)] 79)) .e)) .e) .e)) (zO .e (zO (zO .e (zO (zO .e (zL (zC [(.str [113]), (.sl 6858 0 1 none), (zI 0), (zI 0)] 63))) .e)) .e)))) zq37)
noncomputable def zq145 : TO := (zO zq72 zq144)
noncomputable def zq146 : TO := (zO zq145 zq74)
noncomputable def zq147 : TO := (zO zq70 zq146)
noncomputable def zq148 : TO := (zO zq76 (zO zq77 (zq138 bb c o)))
noncomputable def zq149 : TO := (zO (zO .e (zO .e (zO (zO .e (zO (zO .e (zL (zC [(.sl 6860 0 2 none), (.sl 6880 0 1 none)] 41))) .e)) .e))) (zO .e (zq135 bb c o)))
noncomputable def zq150 : TO := (zO (zq149 bb c o) zq58)
noncomputable def zq151 : TO := (zO (zq150 bb c o) zq59)
noncomputable def zq152 : TO := (zO zq79 (zq141 bb c o))
noncomputable def zq153 : TO := (zO (zq148 bb c o) (zO (zq151 bb c o) (zq152 bb c o)))
noncomputable def zq154 : TO := (zO zq147 (zq153 bb c o))
noncomputable def zq155 : TO := (zO zq83 (zO (zq139 bb c o) (zO (zq151 bb c o) (zq142 bb c o))))
noncomputable def zq156 : TO := (zO zq84 (zq153 bb c o))
noncomputable def zq157 : TO := (zO (zq150 bb c o) (zq129 kind num sym))
noncomputable def zq158 : TO := (zO (zq157 bb c kind num o sym) (zq152 bb c o))
noncomputable def zq159 : TO := (zO (zq148 bb c o) (zq158 bb c kind num o sym))
noncomputable def zq160 : TO := (zO zq147 (zq159 bb c kind num o sym))
noncomputable def zq161 : TO := (zO zq69 (zO (zO (zO .e (zO .e (zO (zO .e (zO (zO .e (zL (zC [(.str [113]), (.sl 6858 0 1 none), (zI 0), (zI 0)] 63))) .e)) .e))) (zO (zO .e (zO (zO (zO .e (zO (zL (zC [(.sl 5269 0 2 none), (.sl 5289 0 1 none), (.sl 5301 0 2 none), (.map 5290), .nils, (zI 0)] 91)) .e)) .e) (zO .e (zO (zO (zL (zC [(zI 1)] 3)) .e) .e)))) (zq106 bb c o))) (zO (zO .e (zO .e (zO (zO .e (zO (zO .e (zL (zC [(zI 0), (.str []), (zI 0), (zI 0), (.str []), (zI 0), .nils] 72))) .e)) .e))) .e)))
noncomputable def zq162 : TO := (zO zq68 (zq161 bb c o))
noncomputable def zq163 : TO := (zO zq73 (zO (zO (zO .e (zO .e (zO (zO .e (zO (zO .e (zL (zC [(.str [113]), (.sl 5274 0 1 none), (.sl 5287 0 1 none), (zI 0), (zI 0)] 79))) .e)) .e))) (zO (zO .e (zO .e (zO .e (zO (zO (zL (zC [(.str [112]), (.sl 5035 0 1 (some 1)), (zI 0), (zI 0), (.str [113]), (.sl 5036 0 1 (some 1)), (zI 0), (zI 0)] 63)) .e) .e)))) (zO .e (zO (zO .e (zO (zO .e (zL (zC [(zI 0), (zI 0)] 138))) .e)) .e)))) zq44))
noncomputable def zq164 : TO := (zO zq116 zq163)
noncomputable def zq165 : TO := (zO (zq162 bb c o) zq164)
noncomputable def zq166 : TO := (zO zq77 (zO (zO (zO .e (zO .e (zO (zO .e (zO (zO .e (zL (zG [(.str [112]), (.sl 6853 0 1 none), (zI 0), (zI 0), (.str [113]), (.sl 6858 0 1 none), (zI 0), (zI 0)] 63))) .e)) .e))) (zO (zO .e (zO .e (zO .e (zO (zO (zL (zC [(zI 1)] 3)) .e) .e)))) (zq106 bb c o))) (zq108 bb c o)))
noncomputable def zq167 : TO := (zO zq76 (zq166 bb c o))
noncomputable def zq168 : TO := (zO zq63 (zO .e (zO .e (zO (zO .e (zO (zO .e (zL (zC [(zI 0), (zI 0)] 138))) .e)) .e))))
noncomputable def zq169 : TO := (zO zq79 (zO zq168 (zq111 bb c o)))
noncomputable def zq170 : TO := (zO (zq130 bb c kind num o sym) (zq169 bb c o))
noncomputable def zq171 : TO := (zO (zq165 bb c o) (zO (zq167 bb c o) (zq170 bb c kind num o sym)))
noncomputable def zq172 : TO := (zO .e (zO (zO .e (zO (zO .e (zL (zC [(zI kind), (zI num), (.str sym), (zI 0), (zI 0), (.str []), (zI 0), (zI 0), (.str []), (zI 0), (zI 0), (.str []), (zI 0), (zI 0), (.str []), (zI 0), (zI 0), (.str []), (zI 0), (zI 0), (.str []), (zI 0), (zI 0), (.str [])] 298))) .e)) .e))
noncomputable def zq173 : TO := (zO (zO zq35 (zO (zO .e (zO .e (zO (zO .e (zO (zO .e (zL (zC [(.str [113]), (.sl 6865 0 1 none)] 66))) .e)) .e))) (zO (zO .e (zO (zO (zO .e (zO (zL (zC [(zI 1), (.map 5296), (.map 5297), (.int .i32 0), (.int .u32 0), .nils, (.map 5298)] 187)) .e)) .e) (zO .e (zO (zO zq1 .e) .e)))) (zq172 kind num sym)))) zq67)
noncomputable def zq174 : TO := (zO (zq173 kind num sym) (zq161 bb c o))
noncomputable def zq175 : TO := (zO (zO zq48 (zO (zO .e (zO .e (zO (zO .e (zO (zO .e (zL (zC [] 160))) .e)) .e))) (zO (zO .e (zO (zO (zO .e (zO (zL (.map [] 0)) .e)) .e) .e)) (zq172 kind num sym)))) zq75)
noncomputable def zq176 : TO := (zO (zq175 kind num sym) (zq166 bb c o))
noncomputable def zq177 : TO := (zO (zq176 bb c kind num o sym) (zq170 bb c kind num o sym))
noncomputable def zq178 : TO := (zO (zO (zq174 bb c kind num o sym) zq164) (zq177 bb c kind num o sym))
noncomputable def zq179 : TO := (zO (zO zq35 (zO (zO .e (zO .e (zO (zO .e (zO (zO .e (zL (zC [(.str [113]), (.sl 6865 0 1 none)] 66))) .e)) .e))) (zO (zO .e (zO (zO (zO .e (zO (zL (zC [(zI 1), (.map 5296), (.map 5297), (.int .i32 0), (.int .u32 0), .nils, (.map 5298)] 187)) .e)) .e) (zO .e (zO (zO zq1 .e) .e)))) (zO .e (zO (zO .e (zO (zO .e (zL (zC [(zI 0), (zI 0), (.str []), (zI 0), (zI 0), (.str []), (zI 0), (zI 0), (.str []), (zI 0), (zI 0), (.str []), (zI 0), (zI 0), (.str []), (zI 0), (zI 0), (.str []), (zI 0), (zI 0), (.str []), (zI 0), (zI 0), (.str [])] 298))) .e)) .e))))) zq67)
noncomputable def zq180 : TO := (zO (zO zq179 (zq161 bb c o)) zq164)
noncomputable def zq181 : TO := (zO (zO zq48 (zO (zO .e (zO .e (zO (zO .e (zO (zO .e (zL (zC [] 160))) .e)) .e))) (zO (zO .e (zO (zO (zO .e (zO (zL (.map [] 0)) .e)) .e) .e)) (zO .e (zO (zO .e (zO (zO .e (zL (zC [(zI 0), (zI 0), (.str []), (zI 0), (zI 0), (.str []), (zI 0), (zI 0), (.str []), (zI 0), (zI 0), (.str []), (zI 0), (zI 0), (.str []), (zI 0), (zI 0), (.str []), (zI 0), (zI 0), (.str []), (zI 0), (zI 0), (.str [])] 298))) .e)) .e))))) zq75)
noncomputable def zq182 : TO := (zO (zq180 bb c o) (zq177 bb c kind num o sym))
noncomputable def zq183 : TO := (zO zq69 (zO (zO (zO .e (zO .e (zO (zO .e (zO (zO .e (zL (zC [(.str [113]), (.sl 6858 0 1 none), (zI 0), (zI 0)] 63))) .e)) .e))) (zO (zO .e (zO (zO (zO .e (zO (zL (zC [(.sl 5269 0 2 none), (.sl 5289 0 1 none), (.sl 5301 0 2 none), (.map 5290), .nils, (zI 0)] 91)) .e)) .e) (zO .e (zO (zO (zL (zC [(zI 1)] 3)) .e) .e)))) (zq135 bb c o))) (zO (zO .e (zO .e (zO (zO .e (zO (zO .e (zL (zC [(zI 0), (.str []), (zI 0), (zI 0), (.str []), (zI 0), .nils] 72))) .e)) .e))) .e)))
noncomputable def zq184 : TO := (zO zq68 (zq183 bb c o))
noncomputable def zq185 : TO := (zO zq145 zq163)
noncomputable def zq186 : TO := (zO (zq184 bb c o) zq185)
noncomputable def zq187 : TO := (zO zq77 (zO (zO (zO .e (zO .e (zO (zO .e (zO (zO .e (zL (zG [(.str [112]), (.sl 6853 0 1 none), (zI 0), (zI 0), (.str [113]), (.sl 6858 0 1 none), (zI 0), (zI 0)] 63))) .e)) .e))) (zO (zO .e (zO .e (zO .e (zO (zO (zL (zC [(zI 1)] 3)) .e) .e)))) (zq135 bb c o))) (zq137 bb c o)))
noncomputable def zq188 : TO := (zO zq76 (zq187 bb c o))
noncomputable def zq189 : TO := (zO zq79 (zO zq168 (zq140 bb c o)))
noncomputable def zq190 : TO := (zO (zq157 bb c kind num o sym) (zq189 bb c o))
noncomputable def zq191 : TO := (zO (zq186 bb c o) (zO (zq188 bb c o) (zq190 bb c kind num o sym)))
noncomputable def zq192 : TO := (zO (zq173 kind num sym) (zq183 bb c o))
noncomputable def zq193 : TO := (zO (zq175 kind num sym) (zq187 bb c o))
noncomputable def zq194 : TO := (zO (zq193 bb c kind num o sym) (zq190 bb c kind num o sym))
noncomputable def zq195 : TO := (zO (zO (zq192 bb c kind num o sym) zq185) (zq194 bb c kind num o sym))
noncomputable def zq196 : TO := (zO (zO zq179 (zq183 bb c o)) zq185)
noncomputable def zq197 : TO := (zO (zq196 bb c o) (zq194 bb c kind num o sym))
noncomputable def zq198 : TO := (zO (zq165 bb c o) (zO (zq167 bb c o) (zq131 bb c kind num o sym)))
noncomputable def zq199 : TO := (zO zq71 (zO (zO .e (zO .e (zO (zO .e (zO (zO .e zq34) .e)) .e))) (zO (zO .e (zO (zO (zO .e (zO (zL (.map [] 0)) .e)) .e) (zO .e (zO (zO zq1 .e) .e)))) (zq172 kind num sym))))
noncomputable def zq200 : TO := (zO (zq174 bb c kind num o sym) (zO (zO (zq199 kind num sym) zq115) zq163))
noncomputable def zq201 : TO := (zO (zq200 bb c kind num o sym) (zq177 bb c kind num o sym))
noncomputable def zq202 : TO := (zO (zq186 bb c o) (zO (zq188 bb c o) (zq158 bb c kind num o sym)))
noncomputable def zq203 : TO := (zO (zq192 bb c kind num o sym) (zO (zO (zq199 kind num sym) zq144) zq163))
noncomputable def zq204 : TO := (zO (zq203 bb c kind num o sym) (zq194 bb c kind num o sym))
noncomputable def zq205 : TO := (zO (zO (zq162 bb c o) zq117) (zq132 bb c kind num o sym))
noncomputable def zq206 : TO := (zO (zO (zq184 bb c o) zq146) (zq159 bb c kind num o sym))
noncomputable def zq207 : TO := (zO (zO .e (zO .e (zO (zO .e (zO (zO .e (zL (zC [(zI 1), (.str [112]), (.sl 6870 0 1 none), (zI 0), (zI 0), (.str []), (zI 0), (zI 0), (.str []), (zI 0), .nils, (zI 0), (.str []), (zI 0), (zI 0), (.str []), (zI 0), .nils, (zI 0), (.str []), (zI 0), (.str []), (zI 0), (zI 0), (.str []), (zI 0), .nils, .nils, (zI 0), (zI 0)] 77))) .e)) .e))) (zO (zO .e (zO (zO (zO .e (zO (zL (.map [] 0)) .e)) .e) (zO .e (zO (zO (zL (zC [(zI 1), (.str [112]), (.sl 5041 0 1 (some 1)), (zI 0), (zI 0), (.str []), (zI 0), (zI 0), (.str []), (zI 0), .nils, (zI 0), (.str []), (zI 0), (zI 0), (.str []), (zI 0), .nils, (zI 0), (.str []), (zI 0), (.str []), (zI 0), (zI 0), (.str []), (zI 0), .nils, .nils, (zI 0), (zI 0)] 77)) .e) .e)))) (zO .e (zO (zO .e (zO (zO .e (zL (zC [(zI 0), (zI 0)] 138))) .e)) .e))))
noncomputable def zq208 : TO := (zO (zq200 bb c kind num o sym) (zO (zq176 bb c kind num o sym) (zO (zO (zO (zq120 bb c o) zq207) (zq129 kind num sym)) (zq169 bb c o))))
noncomputable def zq209 : TO := (zO (zq203 bb c kind num o sym) (zO (zq193 bb c kind num o sym) (zO (zO (zO (zq149 bb c o) zq207) (zq129 kind num sym)) (zq189 bb c o))))
noncomputable def zq210 : TO := (zO .e (zq107 bb c o))
noncomputable def zq211 : TO := (zO zq96 (zO (zO .e (zO .e (zO (zO .e (zO .e (zO .e (zO (zO (zL (zC [(.sl 5037 0 2 (some 2)), (.sl 5043 0 1 (some 1))] 41)) .e) .e)))) .e))) (zO (zO .e (zO (zO .e (zO .e (zO .e (zO (zO (zL (zC [(zI 1)] 3)) .e) .e)))) .e)) (zq210 bb c o))))
noncomputable def zq212 : TO := (zO zq94 (zO (zq211 bb c o) zq101))
noncomputable def zq213 : TO := (zO zq94 (zO (zq211 bb c o) (zO zq100 (zO (zO .e (zO .e (zO (zO .e (zO (zO (zO .e (zO (zL (zC [(zI 1), (.map 5303), (.map 5304), (.int .i32 0), (.int .u32 0), .nils, (.map 5305)] 187)) .e)) .e) .e)) .e))) (zO (zO (zO (zO .e (zO (zO (zO .e (zO (zL (zG [(zI 1)] 3)) .e)) .e) .e)) .e) .e) (zq210 bb c o))))))
noncomputable def zq214 : TO := (zO .e (zq136 bb c o))
noncomputable def zq215 : TO := (zO zq96 (zO (zO .e (zO .e (zO (zO .e (zO .e (zO .e (zO (zO (zL (zC [(.sl 5037 0 2 (some 2)), (.sl 5043 0 1 (some 1))] 41)) .e) .e)))) .e))) (zO (zO .e (zO (zO .e (zO .e (zO .e (zO (zO (zL (zC [(zI 1)] 3)) .e) .e)))) .e)) (zq214 bb c o))))
noncomputable def zq216 : TO := (zO zq94 (zO (zq215 bb c o) zq101))
noncomputable def zq217 : TO := (zO zq94 (zO (zq215 bb c o) (zO zq100 (zO (zO .e (zO .e (zO (zO .e (zO (zO (zO .e (zO (zL (zC [(zI 1), (.map 5303), (.map 5304), (.int .i32 0), (.int .u32 0), .nils, (.map 5305)] 187)) .e)) .e) .e)) .e))) (zO (zO (zO (zO .e (zO (zO (zO .e (zO (zL (zG [(zI 1)] 3)) .e)) .e) .e)) .e) .e) (zq214 bb c o))))))
noncomputable def zq218 : TO := (zO .e (zO (zO .e (zO .e (zO .e (zO (zO (zq105 bb c o) .e) .e)))) .e))
noncomputable def zq219 : TO := (zO (zq218 bb c o) .e)
noncomputable def zq220 : TO := (zO (zO .e (zO .e (zO (zO .e (zO .e (zO .e (zO (zO zq1 .e) .e)))) .e))) (zq219 bb c o))
noncomputable def zq221 : TO := (zO (zq220 bb c o) zq6)
noncomputable def zq222 : TO := (zO (zO (zq221 bb c o) (zO (zq220 bb c o) (zO .e (zO (zO .e (zO (zO .e (zO .e (zO .e (zO (zO (zL (zC [(.str [112]), (.sl 5035 0 1 (some 1)), (zI 0), (zI 0), (.str [113]), (.sl 5036 0 1 (some 1)), (zI 0), (zI 0)] 63)) .e) .e)))) .e)) .e)))) (zO zq13 (zO zq14 (zO (zq219 bb c o) (zO (zO .e (zO (zO .e (zO .e (zO .e (zO (zO (zL (zC [(.str [113]), (.sl 5039 0 1 (some 1))] 66)) .e) .e)))) .e)) .e)))))
noncomputable def zq223 : TO := (zO (zO (zO .e (zO .e (zO (zO .e (zO .e (zO .e (zO (zO zq1 .e) .e)))) .e))) (zO (zq218 bb c o) (zO .e (zO (zO .e (zO .e (zO .e (zO (zO (zL (zC [(.sl 5037 0 2 (some 2)), (.sl 5043 0 1 (some 1))] 41)) .e) .e)))) .e)))) zq6)
noncomputable def zq224 : TO := (zO zq14 (zO (zO (zq218 bb c o) (zq218 bb c o)) (zO (zO .e (zO (zO .e (zO .e (zO .e (zO (zO (zL (zC [(.str [113]), (.sl 5039 0 1 (some 1))] 66)) .e) .e)))) .e)) .e)))
noncomputable def zq225 : TO := (zO zq19 (zq224 bb c o))
noncomputable def zq226 : TO := (zO (zO (zq223 bb c o) (zO (zO (zO .e (zO .e (zO (zO .e (zO .e (zO .e (zO (zO zq1 .e) .e)))) .e))) (zO (zq218 bb c o) (zO .e (zO (zO .e (zO .e (zO .e (zO (zO (zL (zC [(.str [112]), (.sl 5035 0 1 (some 1)), (zI 0), (zI 0)] 63)) .e) .e)))) .e)))) zq8)) (zq225 bb c o))
noncomputable def zq227 : TO := (zO (zq220 bb c o) zq8)
noncomputable def zq228 : TO := (zO (zO (zq221 bb c o) (zq227 bb c o)) (zO zq13 (zq224 bb c o)))
noncomputable def zq229 : TO := (zO (zO (zq223 bb c o) (zq227 bb c o)) (zq225 bb c o))
noncomputable def zq230 : TO := (zO .e (zO (zO .e (zO .e (zO .e (zO (zO (zq134 bb c o) .e) .e)))) .e))
noncomputable def zq231 : TO := (zO (zq230 bb c o) .e)
noncomputable def zq232 : TO := (zO (zO .e (zO .e (zO (zO .e (zO .e (zO .e (zO (zO zq1 .e) .e)))) .e))) (zq231 bb c o))
noncomputable def zq233 : TO := (zO (zq232 bb c o) zq6)
noncomputable def zq234 : TO := (zO (zO (zq233 bb c o) (zO (zq232 bb c o) (zO .e (zO (zO .e (zO (zO .e (zO .e (zO .e (zO (zO (zL (zC [(.str [112]), (.sl 5035 0 1 (some 1)), (zI 0), (zI 0), (.str [113]), (.sl 5036 0 1 (some 1)), (zI 0), (zI 0)] 63)) .e) .e)))) .e)) .e)))) (zO zq13 (zO zq14 (zO (zq231 bb c o) (zO (zO .e (zO (zO .e (zO .e (zO .e (zO (zO (zL (zC [(.str [113]), (.sl 5039 0 1 (some 1))] 66)) .e) .e)))) .e)) .e)))))
noncomputable def zq235 : TO := (zO (zO (zO .e (zO .e (zO (zO .e (zO .e (zO .e (zO (zO zq1 .e) .e)))) .e))) (zO (zq230 bb c o) (zO .e (zO (zO .e (zO .e (zO .e (zO (zO (zL (zC [(.sl 5037 0 2 (some 2)), (.sl 5043 0 1 (some 1))] 41)) .e) .e)))) .e)))) zq6)
noncomputable def zq236 : TO := (zO zq14 (zO (zO (zq230 bb c o) (zq230 bb c o)) (zO (zO .e (zO (zO .e (zO .e (zO .e (zO (zO (zL (zC [(.str [113]), (.sl 5039 0 1 (some 1))] 66)) .e) .e)))) .e)) .e)))
noncomputable def zq237 : TO := (zO zq22 (zq236 bb c o))
noncomputable def zq238 : TO := (zO (zO (zq235 bb c o) (zO (zO (zO .e (zO .e (zO (zO .e (zO .e (zO .e (zO (zO zq1 .e) .e)))) .e))) (zO (zq230 bb c o) (zO .e (zO (zO .e (zO .e (zO .e (zO (zO (zL (zC [(.str [113]), (.sl 5036 0 1 (some 1)), (zI 0), (zI 0)] 63)) .e) .e)))) .e)))) zq8)) (zq237 bb c o))
noncomputable def zq239 : TO := (zO (zq232 bb c o) zq8)
noncomputable def zq240 : TO := (zO (zO (zq233 bb c o) (zq239 bb c o)) (zO zq13 (zq236 bb c o)))
noncomputable def zq241 : TO := (zO (zO (zq235 bb c o) (zq239 bb c o)) (zq237 bb c o))
noncomputable def zq242 : TO := (zN (zL (AO.sit [112] 1)) (zC [(.str [112]), (.osl (some (bb, o)) 1 c)] 24) .e)
noncomputable def zq243 : TO := (zN (zL (AO.sit [112] 1)) (zC [(.str [112]), (.osl (some (bb, o)) 1 c)] 24) (zq128 kind num sym))
noncomputable def zq244 : TO := (zN (zL (AO.sit [113] 1)) (zC [(.str [113]), (.osl (some (bb, o)) 1 c)] 24) .e)
noncomputable def zq245 : TO := (zN (zL (AO.sit [113] 1)) (zC [(.str [113]), (.osl (some (bb, o)) 1 c)] 24) (zq128 kind num sym))
noncomputable def zq246 : TO := (zN (zL (AO.sit [112] 1)) (zC [(.str [112]), (.osl a n c)] 24) .e)
noncomputable def zq247 : TO := (zL (zC [(.str [112]), (.osl a n c)] 24))
noncomputable def zq248 : TO := (zN (zL (AO.sit [113] 1)) (zC [(.str [113]), (.osl a n c)] 24) .e)
noncomputable def zq249 : TO := (zL (zC [(.str [113]), (.osl a n c)] 24))
noncomputable def zq250 : TO := (zO .e (zO (zO .e (zO (zO .e (zq247 a c n)) .e)) .e))
noncomputable def zq251 : TO := (zO (zq250 a c n) .e)
noncomputable def zq252 : TO := (zO zq53 (zO (zO .e (zO .e (zO (zO .e (zO (zO .e (zL (zC [(zI 0), (.str []), (zI 0), (zI 0), (.str []), (zI 0), .nils] 72))) .e)) .e))) (zq251 a c n)))
noncomputable def zq253 : TO := (zO zq50 (zO zq52 (zq252 a c n)))
noncomputable def zq254 : TO := (zO (zO zq63 .e) (zO (zO .e (zO .e (zO (zO .e (zO (zO .e (zL (zG [(zI 1), (.str [112]), (.sl 6870 0 1 none), (zI 0), (zI 0), (.str []), (zI 0), (zI 0), (.str []), (zI 0), .nils, (zI 0), (.str []), (zI 0), (zI 0), (.str []), (zI 0), .nils, (zI 0), (.str []), (zI 0), (.str []), (zI 0), (zI 0), (.str []), (zI 0), .nils, .nils, (zI 0), (zI 0)] 77))) .e)) .e))) (zq251 a c n)))
noncomputable def zq255 : TO := (zO zq62 (zq254 a c n))
noncomputable def zq256 : TO := (zO zq47 (zO (zq253 a c n) (zO zq60 (zq255 a c n))))
noncomputable def zq257 : TO := (zO (zO (zO (zO .e (zO .e (zO (zO .e (zO (zO .e (zL (zC [(.sl 6860 0 2 none), (.sl 6880 0 1 none)] 41))) .e)) .e))) (zO .e (zq250 a c n))) zq58) zq59)
noncomputable def zq258 : TO := (zO (zO zq76 (zO zq77 (zq252 a c n))) (zO (zq257 a c n) (zO zq79 (zq254 a c n))))
noncomputable def zq259 : TO := (zO zq118 (zq258 a c n))
noncomputable def zq260 : TO := (zO zq83 (zO (zq253 a c n) (zO (zq257 a c n) (zq255 a c n))))
noncomputable def zq261 : TO := (zO zq84 (zq258 a c n))
noncomputable def zq262 : TO := (zO .e (zO (zO .e (zO (zO .e (zq249 a c n)) .e)) .e))
noncomputable def zq263 : TO := (zO (zq262 a c n) .e)
noncomputable def zq264 : TO := (zO zq53 (zO (zO .e (zO .e (zO (zO .e (zO (zO .e (zL (zC [(zI 0), (.str []), (zI 0), (zI 0), (.str []), (zI 0), .nils] 72))) .e)) .e))) (zq263 a c n)))
noncomputable def zq265 : TO := (zO zq50 (zO zq52 (zq264 a c n)))
noncomputable def zq266 : TO := (zO (zO zq63 .e) (zO (zO .e (zO .e (zO (zO .e (zO (zO .e (zL (zG [(zI 1), (.str [112]), (.sl 6870 0 1 none), (zI 0), (zI 0), (.str []), (zI 0), (zI 0), (.str []), (zI 0), .nils, (zI 0), (.str []), (zI 0), (zI 0), (.str []), (zI 0), .nils, (zI 0), (.str []), (zI 0), (.str []), (zI 0), (zI 0), (.str []), (zI 0), .nils, .nils, (zI 0), (zI 0)] 77))) .e)) .e))) (zq263 a c n)))
noncomputable def zq267 : TO := (zO zq62 (zq266 a c n))
noncomputable def zq268 : TO := (zO zq47 (zO (zq265 a c n) (zO zq60 (zq267 a c n))))
noncomputable def zq269 : TO := (zO (zO (zO (zO .e (zO .e (zO (zO .e (zO (zO .e (zL (zC [(.sl 6860 0 2 none), (.sl 6880 0 1 none)] 41))) .e)) .e))) (zO .e (zq262 a c n))) zq58) zq59)
noncomputable def zq270 : TO := (zO (zO zq76 (zO zq77 (zq264 a c n))) (zO (zq269 a c n) (zO zq79 (zq266 a c n))))
noncomputable def zq271 : TO := (zO zq147 (zq270 a c n))
noncomputable def zq272 : TO := (zO zq83 (zO (zq265 a c n) (zO (zq269 a c n) (zq267 a c n))))
noncomputable def zq273 : TO := (zO zq84 (zq270 a c n))
noncomputable def zq274 : TO := (zO .e (zq251 a c n))
noncomputable def zq275 : TO := (zO zq96 (zO (zO .e (zO .e (zO (zO .e (zO .e (zO .e (zO (zO (zL (zC [(.sl 5037 0 2 (some 2)), (.sl 5043 0 1 (some 1))] 41)) .e) .e)))) .e))) (zO (zO .e (zO (zO .e (zO .e (zO .e (zO (zO (zL (zC [(zI 1)] 3)) .e) .e)))) .e)) (zq274 a c n))))
noncomputable def zq276 : TO := (zO zq94 (zO (zq275 a c n) zq101))
noncomputable def zq277 : TO := (zO zq94 (zO (zq275 a c n) (zO zq100 (zO (zO .e (zO .e (zO (zO .e (zO (zO (zO .e (zO (zL (zC [(zI 1), (.map 5303), (.map 5304), (.int .i32 0), (.int .u32 0), .nils, (.map 5305)] 187)) .e)) .e) .e)) .e))) (zO (zO (zO (zO .e (zO (zO (zO .e (zO (zL (zG [(zI 1)] 3)) .e)) .e) .e)) .e) .e) (zq274 a c n))))))
noncomputable def zq278 : TO := (zO .e (zq263 a c n))
noncomputable def zq279 : TO := (zO zq96 (zO (zO .e (zO .e (zO (zO .e (zO .e (zO .e (zO (zO (zL (zC [(.sl 5037 0 2 (some 2)), (.sl 5043 0 1 (some 1))] 41)) .e) .e)))) .e))) (zO (zO .e (zO (zO .e (zO .e (zO .e (zO (zO (zL (zC [(zI 1)] 3)) .e) .e)))) .e)) (zq278 a c n))))
noncomputable def zq280 : TO := (zO zq94 (zO (zq279 a c n) zq101))
noncomputable def zq281 : TO := (zO zq94 (zO (zq279 a c n) (zO zq100 (zO (zO .e (zO .e (zO (zO .e (zO (zO (zO .e (zO (zL (zC [(zI 1), (.map 5303), (.map 5304), (.int .i32 0), (.int .u32 0), .nils, (.map 5305)] 187)) .e)) .e) .e)) .e))) (zO (zO (zO (zO .e (zO (zO (zO .e (zO (zL (zG [(zI 1)] 3)) .e)) .e) .e)) .e) .e) (zq278 a c n))))))
noncomputable def zq282 : TV := (zN (zO (zL (zI 0)) (zL .nils)) (zI budget) (zN (zL (zP 5032 0)) (.bool true) (zL (zP 5044 0))))
noncomputable def zq283 : TV := (zN (zL (zI 1)) (.bool false) (zL (zI 1)))
noncomputable def zq284 : TV := (zO (zL (zI 1)) (zL (zI e1)))
noncomputable def zq285 : TO := (zO (zO .e (zq4 a c n s)) .e)
noncomputable def zq286 : TO := (zO (zq285 a c n s) .e)
noncomputable def zq287 : TO := (zO .e (zO (zq4 a c n s) .e))
noncomputable def zq288 : TO := (zO (zq286 a c n s) (zO .e (zq287 a c n s)))
noncomputable def zq289 : TO := (zO (zO (zO .e (zO (zO .e (zO (zO .e (zO .e (zO .e (zO (zO zq10 .e) .e)))) .e)) .e)) .e) (zq287 a c n s))
noncomputable def zq290 : TO := (zO (zO (zq285 a c n s) (zq285 a c n s)) (zq289 a c n s))
noncomputable def zq291 : TO := (zO (zq28 a c n s) (zO (zO zq11 (zO .e (zO (zO .e (zO (zO .e (zO .e (zO .e (zO (zO (zL (zC [(zI 1)] 3)) .e) .e)))) .e)) .e))) (zq29 a c n s)))
noncomputable def zq292 : TV := (zN (zL (.bool true)) (.tup [(zP 5291 0), (zI 0)]) .e)
noncomputable def zq293 : TV := (zO (zO (zL (zI 1)) .e) (zN (zL (.bool true)) (.agg [(.str []), .nils, (zI 0), .nils]) .e))
noncomputable def zq294 : TV := (zN (zN (zO .e (zL (.bool true))) (zP 5291 0) zq292) (zI 0) zq293)
noncomputable def zq295 : TV := (zO (zL (zI 0)) (zL (.bool true)))
noncomputable def zq296 : TV := (zN (zL (.bool true)) (zP 5291 0) .e)
noncomputable def zq297 : TV := (zN zq295 (zI 1) zq296)
noncomputable def zq298 : TV := (zN (zL (.bool true)) (.bool false) .e)
noncomputable def zq299 : TV := (zO (zL (.bool true)) (zL (zI 1)))
noncomputable def zq300 : TV := (zN (zL (.bool true)) (zI 0) .e)
noncomputable def zq301 : TV := (zO (zO (zL (.bool true)) .e) (zN (zL (zI 1)) (zI budget) .e))
noncomputable def zq302 : TV := (zN (zN zq299 (zP 6844 0) zq300) (zP 5032 0) (zq301 budget))
noncomputable def zq303 : TV := (zO (zO (zL (.bool true)) .e) (zN (zL (zI 0)) (zI budget) .e))
noncomputable def zq304 : TV := (zN (zL (zI 1)) (zP 5291 0) .e)
noncomputable def zq305 : TV := (zN (zN (zO .e (zL (.bool true))) (zI 0) zq304) (zI 1) (zO (zO (zL (.bool true)) .e) (zN (zL (.bool true)) (zI 1) .e)))
noncomputable def zq306 : TV := (zO (zL (.bool true)) (zL (.bool true)))
noncomputable def zq307 : TV := (zO zq306 (zN (zL .nils) (.agg [(.str s), (.osl a n c)]) .e))
noncomputable def zq308 : TV := (zN (zL (.bool true)) (.tup [(.agg [(.str []), .nils, (zI 0), .nils]), (zI 1)]) .e)
noncomputable def zq309 : TV := (zN zq299 (zI 1) zq308)
noncomputable def zq310 : TV := (zN (zL (.bool true)) (.agg [(.sl 5037 0 2 (some 2)), (.sl 5043 0 1 (some 1))]) .e)
noncomputable def zq311 : TV := (zN (zO (zO (zL (.bool true)) .e) zq308) (zI e1) (zO zq310 zq298))
noncomputable def zq312 : TO := (zO (zO .e (zO .e (zO (zO .e (zO .e (zO .e (zO (zO (zL (zC [(.sl 5037 0 2 (some 2)), (.sl 5043 0 1 (some 1))] 41)) .e) .e)))) .e))) (zO (zO .e (zO (zO .e (zO .e (zO .e (zO (zO (zL (zC [(zI 1)] 3)) .e) .e)))) .e)) (zO .e (zO (zO .e (zO (zO .e (zO (zO .e zq10) .e)) .e)) .e))))
noncomputable def zq313 : TO := (zO (zO (zO (zO (zO (zO (zO .e (zO .e (zO (zO .e (zO (zO .e (zL (zC [(zI 65536)] 3))) .e)) .e))) (zO (zO .e (zO (zO (zO .e (zO zq34 .e)) .e) .e)) .e)) (zO .e (zO (zO .e (zO (zO (zO .e (zO (zL (zC [(zI 1), (.map 5296), (.map 5297), (.int .i32 0), (.int .u32 0), .nils, (.map 5298)] 187)) .e)) .e) (zO .e (zO (zO zq1 .e) .e)))) .e))) zq87) (zO (zO (zO (zO .e (zO .e (zO (zO .e (zO (zO .e (zL (zC [(.str []), .nils] 24))) .e)) .e))) .e) zq89) (zO (zO .e (zO (zO .e (zO (zO (zO .e (zO (zL (zC [(.sl 5269 0 2 none), (.sl 5289 0 1 none), (.sl 5301 0 2 none), (.map 5290), .nils, (zI 0)] 91)) .e)) .e) (zO .e (zO (zO (zL (zC [(zI 1)] 3)) .e) .e)))) .e)) .e))) (zO (zO (zO (zO (zO .e (zO .e (zO (zO .e (zO (zO .e zq10) .e)) .e))) .e) (zO .e (zO (zO .e (zO (zO (zO .e (zO (zL (.map [] 0)) .e)) .e) (zO .e (zO (zO zq1 .e) .e)))) .e))) zq91) zq93)) (zO (zO (zO (zO (zO (zO .e (zO .e (zO (zO .e (zO (zO .e zq10) .e)) .e))) .e) (zO .e (zO (zO .e (zO (zO (zO .e (zO (zL (.map [] 0)) .e)) .e) .e)) .e))) zq95) zq312) (zO (zO (zO (zO (zO .e (zO .e (zO (zO .e (zO (zO .e (zL (zC [(.str []), .nils] 24))) .e)) .e))) .e) (zO .e (zO (zO .e (zO (zO (zO .e (zO (zL (.map [] 0)) .e)) .e) (zO .e (zO (zO (zL (zC [(zI 1), (.str [112]), (.sl 5041 0 1 (some 1)), (zI 0), (zI 0), (.str []), (zI 0), (zI 0), (.str []), (zI 0), .nils, (zI 0), (.str []), (zI 0), (zI 0), (.str []), (zI 0), .nils, (zI 0), (.str []), (zI 0), (.str []), (zI 0), (zI 0), (.str []), (zI 0), .nils, .nils, (zI 0), (zI 0)] 77)) .e) .e)))) .e))) zq99) (zO (zO .e (zO .e (zO (zO .e (zO (zO (zO .e (zO (zL (zC [(zI 1), (.map 5303), (.map 5304), (.int .i32 0), (.int .u32 0), .nils, (.map 5305)] 187)) .e)) .e) .e)) .e))) (zO (zO (zO (zO .e (zO (zO (zO .e (zO (zL (zG [(zI 1)] 3)) .e)) .e) .e)) .e) .e) (zO .e (zO (zO .e (zO (zO .e (zO (zO .e zq10) .e)) .e)) .e)))))))
noncomputable def zq314 : TO := (zO zq103 (zO (zO zq96 zq312) zq101))
noncomputable def zq315 : TV := (zN (zL (.bool true)) (.bool true) .e)
noncomputable def zq316 : TV := (zO (zO (zL (.agg [(.str []), .nils, (zI 0), .nils])) .e) zq315)
noncomputable def zq317 : TV := (zN (zq307 a c n s) (zI 1) (zO (zO (zL (.agg [(.str []), .nils, (zI 0), .nils])) .e) (zN (zL (.bool true)) (zI budget) .e)))
noncomputable def zq318 : TV := (zO (zO (zL (.bool true)) .e) zq315)
noncomputable def zq319 : TV := (zO (zL (.bool true)) (zL (zI 5)))
noncomputable def zq320 : TV := (zN (zq303 budget) (zP 5044 0) (zO zq292 (zN (zL (zI 0)) (.bool true) .e)))
noncomputable def zq321 : TV := (zN (zL (.bool true)) (.tup [(.agg [(.str []), .nils, (zI 0), .nils]), (zI 5)]) .e)
noncomputable def zq322 : TV := (zO zq310 zq315)
noncomputable def zq323 : TV := (zO (zL (.bool true)) (zL (zI 150)))
noncomputable def zq324 : TV := (zN (zL (.bool true)) (zI 150) .e)
noncomputable def zq325 : TV := (zN (zL (.bool true)) (.tup [(.agg [(.str []), .nils, (zI 0), .nils]), (zI 150)]) .e)
noncomputable def zq326 : TV := (zO (zL (zI budget)) (zN (zL (.bool false)) (zP (OLD + b0) 0) .e))
noncomputable def zq327 : TV := (zO (zO (zL (.bool false)) .e) (zL (.bool false)))
noncomputable def zq328 : TV := (zN (zO (zO (zL (.bool false)) .e) (zO (zL (.bool false)) .e)) (zI 1) zq327)
noncomputable def zq329 : TV := (zL (.agg [(zI 0), (zI 0), (zI 0)]))
noncomputable def zq330 : TV := (zO (zO (zL (.bool false)) .e) (zN zq329 (.bool false) .e))
noncomputable def zq331 : TV := (zL (.sl 13 0 1 (some 1)))
noncomputable def zq332 : TV := (zL (.agg [(.sl 3 0 2 (some 2)), (.sl 9 0 1 (some 1))]))
noncomputable def zq333 : TV := (zO (zO (zO (zL (.bool false)) .e) (zN (zL (.bool false)) (.bool false) .e)) zq327)
noncomputable def zq334 : TV := (zL (.agg [(.str [112]), (.sl 12 0 1 (some 1))]))
noncomputable def zq335 : TV := (zN (zO (zO .e zq332) (zO .e zq331)) (.bool false) (zO (zO .e zq334) .e))
noncomputable def zq336 : TO := (zL (zC [(.str [112]), (.sl 12 0 1 (some 1))] 24))
noncomputable def zq337 : TO := (zL (zC [(zI 1), (zI 1), (.str [])] 69))
noncomputable def zq338 : TV := (zL (.agg [(.str [113]), (.sl 4863 0 1 none), (zI 1), (.sl 4864 0 1 (some 1))]))
noncomputable def zq339 : TO := (zL (zG [(zI 1), (zI 1), (.str [])] 69))
noncomputable def zq340 : TO := (zL (.map [⟨(.agg [(zI 1), (zI 1), (.str []), (zI 0), (zI 0), (.str []), (zI 0), (zI 0), (.str []), (zI 0), (zI 0), (.str []), (zI 0), (zI 0), (.str []), (zI 0), (zI 0), (.str []), (zI 0), (zI 0), (.str []), (zI 0), (zI 0), (.str [])]), (zP 3501 0), 0⟩] 1))
noncomputable def zq341 : TO := (zL (zG [(zI 1), (.str [112]), (.sl 263 0 1 none), (zI 0), (zI 0), (.str []), (zI 0), (zI 0), (.str []), (zI 0), .nils, (zI 0), (.str []), (zI 0), (zI 0), (.str []), (zI 0), .nils, (zI 0), (.str []), (zI 0), (.str []), (zI 0), (zI 0), (.str []), (zI 0), .nils, .nils, (zI 0), (zI 0)] 77))
noncomputable def zq342 : TO := (zN (zO (zO (zO (zO (zO .e (zO .e (zO (zO zq339 .e) .e))) .e) .e) (zO (zO zq340 .e) .e)) (zO (zO (zO zq341 .e) .e) .e)) (zC [(zI 1), (.str [88]), (zI 0), (zI 0), (.str [])] 160) (zO (zO (zO (zO zq34 .e) .e) (zO (zO zq339 .e) .e)) (zO (zO (zO (zL (zC [(zI 1), (.map 280), (.map 281), (.int .i32 0), (.int .u32 0), (.sl 2203 0 1 none), (.map 282)] 187)) .e) .e) .e)))
noncomputable def zq343 : TO := (zO (zO (zO .e (zO (zO (zO (zL (zG [(zP 1826 0)] 301)) .e) .e) .e)) .e) (zO .e (zL (zG [(zI 1)] 3))))
noncomputable def zq344 : TO := (zO (zO .e (zO (zO (zN .e (.map [] 0) (zO .e zq339)) .e) .e)) (zO (zO (zO (zL (zG [(.str [113]), (.sl 258 0 1 none), (.sl 271 0 1 none), (zI 0), (zI 0)] 79)) .e) .e) .e))
noncomputable def zq345 : TO := (zL (.map [⟨(.agg [(zI 1), (zI 1), (.str []), (zI 0), (zI 0), (.str []), (zI 0), (zI 0), (.str []), (zI 0), (zI 0), (.str []), (zI 0), (zI 0), (.str []), (zI 0), (zI 0), (.str []), (zI 0), (zI 0), (.str []), (zI 0), (zI 0), (.str [])]), (.agg []), 0⟩] 1))
noncomputable def zq346 : TO := (zL (zG [(.str [112]), (.sl 246 0 1 none), (zI 0), (zI 0), (.str [113]), (.sl 251 0 1 none), (zI 0), (zI 0)] 63))
noncomputable def zq347 : TO := (zO (zO (zO (zL (zG [(.str [112]), (.str [113])] 9)) .e) .e) (zO .e zq346))
noncomputable def zq348 : TO := (zO (zO .e (zO (zO .e (zO .e (zO (zO .e (zL (zC [(.sl 3500 0 1 none), (zI 1), (zI 1)] 303))) .e))) .e)) zq347)
noncomputable def zq349 : TO := (zN .e (zC [(.str [112]), (.sl 12 0 1 (some 1))] 24) zq348)
noncomputable def zq350 : TO := (zL (zG [(.str [112]), (.sl 295 0 1 none)] 24))
noncomputable def zq351 : TO := (zL (.map [⟨(.str [112]), (zP 279 0), 0⟩, ⟨(.str [113]), (zP 286 0), 1⟩] 2))
noncomputable def zq352 : TO := (zO (zO (zO zq351 .e) .e) (zO (zO .e (zO .e (zO (zO .e zq337) .e))) .e))
noncomputable def zq353 : TV := (zN (zL (zP 292 0)) (zP 275 0) .e)
noncomputable def zq354 : TV := (zL (.tup [(zP 286 0), (zI 0)]))
noncomputable def zq355 : TV := (zN zq353 (.bool false) zq354)
noncomputable def zq356 : TV := (zL (.tup [(.sl 903 0 2 none), (.agg [(zI 0), (zI 0), (zI 0)])]))
noncomputable def zq357 : TV := (zN zq356 (.bool false) .e)
noncomputable def zq358 : TV := (zN zq357 (.bool false) (zL (.tup [])))
noncomputable def zq359 : TV := (zN (zL (zP 275 0)) (zP 275 0) .e)
noncomputable def zq360 : TV := (zN zq359 (.bool false) (zL (zP 275 0)))
noncomputable def zq361 : TV := (zN (zL (zI 1)) (zP 275 0) .e)
noncomputable def zq362 : TV := (zN zq361 (.bool false) (zL (zI 0)))
noncomputable def zq363 : TV := (zN (zL (.map 274)) (.bool false) (zL (zP 275 4)))
noncomputable def zq364 : TV := (zN (zL (zP 275 0)) (zI 2) .e)
noncomputable def zq365 : TV := (zN zq364 (.bool false) (zL (zP 275 2)))
noncomputable def zq366 : TV := (zL (.sl 12 0 1 (some 1)))
noncomputable def zq367 : TV := (zN (zL (zP 292 1)) (zP 275 0) .e)
noncomputable def zq368 : TV := (zN zq367 (zI 1) (zL (zP 286 0)))
noncomputable def zq369 : TV := (zL (.sl 292 0 1 (some 1)))
noncomputable def zq370 : TV := (zN (zL (zP 275 3)) (zI 0) (zL (zP 275 0)))
noncomputable def zq371 : TV := (zN (zL (zP 275 0)) (.sl 253 0 2 none) .e)
noncomputable def zq372 : TV := (zN zq371 (zI 1) (zL (zP 275 0)))
noncomputable def zq373 : TV := (zN (zL (.agg [(.sl 253 0 2 none), (.sl 273 0 1 none)])) (zI 2) .e)
noncomputable def zq374 : TV := (zN zq373 (.bool false) (zL (.sl 285 0 2 none)))
noncomputable def zq375 : TO := (zL (zG [(.str [112]), (zI 0), (.str [113]), (zI 0)] 103))
noncomputable def zq376 : TO := (zO (zO (zO zq34 (zO .e zq375)) .e) (zO (zO zq339 .e) .e))
noncomputable def zq377 : TO := (zO zq376 (zO (zO (zO (zL (zC [(zI 1), (.map 280), (.map 281), (.int .i32 0), (.int .u32 0), .nils, (.map 282)] 187)) .e) .e) .e))
noncomputable def zq378 : TO := (zL (zC [(.str [113]), (.sl 251 0 1 none), (zI 0), (zI 0)] 63))
noncomputable def zq379 : TO := (zO (zO .e (zO (zO (zO (zL (zC [(.sl 253 0 2 none), (.sl 273 0 1 none), (.sl 285 0 2 none), (.map 274), (.sl 292 0 1 (some 1)), (zI 0)] 91)) .e) .e) .e)) (zO .e (zO (zO (zO zq378 .e) .e) (zO .e (zL (zG [(zI 1)] 3))))))
noncomputable def zq380 : TO := (zO (zO .e (zO (zO (zL (.map [] 0)) .e) .e)) (zO (zO (zO (zL (zG [(.str [113]), (.sl 258 0 1 none), (.sl 271 0 1 none), (zI 0), (zI 0)] 79)) .e) .e) .e))
noncomputable def zq381 : TO := (zO (zO (zO zq34 .e) .e) (zO .e zq336))
noncomputable def zq382 : TO := (zO (zO (zO (zL .dead) .e) .e) (zO .e (zL (zG [(zI 1)] 3))))
noncomputable def zq383 : TV := (zL (.agg [(.str [113]), (zI 0)]))
noncomputable def zq384 : TV := (zN (zN zq383 (zP 283 0) .e) (.bool false) (zL (zP 275 4)))
noncomputable def zq385 : TV := (zN (zN (zL (.bool true)) (zP 275 0) .e) (.agg [(.str [112]), (.sl 12 0 1 (some 1))]) (zL (zP 275 0)))
noncomputable def zq386 : TV := (zN (zL (zI 0)) (zP 275 0) .e)
noncomputable def zq387 : TV := (zN zq386 (.bool false) (zL (.bool false)))
noncomputable def zq388 : TV := (zN (zL (zI 2)) (zP 275 0) .e)
noncomputable def zq389 : TV := (zN (zN zq388 (.bool false) (zL (zP 275 0))) (.bool false) (zN (zN (zL (.sl 903 0 2 none)) (.str [113]) .e) (.agg [(.sl 3 0 2 (some 2)), (.sl 9 0 1 (some 1))]) (zL (zI 0))))
noncomputable def zq390 : TV := (zN (zN zq360 (zI 0) zq387) (zP 226 0) zq389)
noncomputable def zq391 : TV := (zN (zN (zL (zP 906 1)) (.sl 284 0 1 (some 1)) .e) (zI 1) (zL (zI 1)))
noncomputable def zq392 : TV := (zN (zN zq329 (.agg [(.str [113]), (.sl 251 0 1 none), (zI 0), (zI 0)]) .e) (zI 1) zq331)
noncomputable def zq393 : TV := (zN (zL (.bool false)) (zP 275 2) .e)
noncomputable def zq394 : TV := (zN (zN zq393 (.agg [(zI 0), (zI 0), (zI 0)]) (zL (zP 275 0))) (.bool false) (zN (zN (zL (zI 1)) (.sl 251 0 1 none) .e) (.map 274) zq366))
noncomputable def zq395 : TV := (zO (zN (zN zq362 (.sl 903 0 2 none) zq391) (zI 0) (zN zq392 (zI 9) zq363)) (zO (zN zq365 (zP 906 0) (zN (zN (zL (zI 0)) (.tup [(zP 286 0), (zI 0)]) .e) (.agg [(.str [112]), (.sl 12 0 1 (some 1))]) (zL (zP 292 0)))) zq394))
noncomputable def zq396 : TV := (zN (zL (zI 0)) (.str [113]) .e)
noncomputable def zq397 : TV := (zN zq396 (.sl 13 0 1 (some 1)) zq369)
noncomputable def zq398 : TV := (zN (zN (zL (.sl 903 0 2 none)) (zP 253 4) .e) (.sl 13 0 1 (some 1)) (zL (zP 275 0)))
noncomputable def zq399 : TV := (zN zq398 (.bool false) zq370)
noncomputable def zq400 : TV := (zN (zN (zL (zI 2)) (zP 275 2) .e) (zP 13 0) (zL (zI 0)))
noncomputable def zq401 : TV := (zN (zN zq388 (.agg [(.sl 3 0 2 (some 2)), (.sl 9 0 1 (some 1))]) (zL (zP 275 4))) (zI 9) (zN (zN (zL (zI 0)) (zP 283 1) .e) (.agg [(.sl 253 0 2 none), (.sl 273 0 1 none)]) (zL (zP 293 1))))
noncomputable def zq402 : TV := (zN (zO zq372 zq400) (zP 275 0) zq401)
noncomputable def zq403 : TV := (zN zq356 (zP 275 0) .e)
noncomputable def zq404 : TV := (zN (zN (zL (zI 0)) (.sl 285 0 2 none) .e) (zI 1) (zL (zI 1)))
noncomputable def zq405 : TV := (zN (zN (zN (zL (.sl 903 0 2 none)) (zP 275 0) .e) (.bool false) zq369) (.bool false) (zN (zN (zL (zP 275 0)) (zP 283 0) .e) (zI 1) zq369))
noncomputable def zq406 : TV := (zN zq386 (.agg [(.sl 3 0 2 (some 2)), (.sl 9 0 1 (some 1))]) zq334)
noncomputable def zq407 : TV := (zN (zN (zN (zL (zP 903 2)) (.sl 278 0 1 none) .e) (zI 0) (zL (zP 275 0))) (.bool false) (zN (zN (zL (zP 911 0)) (zI 1) .e) (.agg [(.sl 253 0 2 none), (.sl 273 0 1 none), .nils, (.map 274), .nils, (zI 0)]) (zL (.sl 295 0 1 none))))
noncomputable def zq408 : TV := (zO (zO (zN (zN zq403 (.bool false) (zL (zI 2))) (zP 904 0) zq404) zq405) (zN (zN zq374 (zI 0) zq406) (zP 283 0) zq407))
noncomputable def zq409 : TO := (zL (zG [(.str [88])] 9))
noncomputable def zq410 : TO := (zO zq341 (zO .e (zL (zC [(zP 275 0), (zI 1), (.sl 1177 0 1 none), (.map 910), (.map 914)] 205))))
noncomputable def zq411 : TO := (zO (zO zq410 .e) (zO (zO .e (zO .e (zO (zL (zG [(zI 1), (zI 0), (.sl 1446 0 1 none), (.str [])] 375)) .e))) .e))
noncomputable def zq412 : TO := (zO (zO .e (zO (zO (zL (.map [] 0)) (zO (zO zq409 .e) .e)) .e)) zq411)
noncomputable def zq413 : TO := (zN zq380 (zC [(.str [113]), (.sl 5 0 1 (some 1)), (.sl 8 0 1 (some 1)), (zI 0), (zI 0)] 79) (zO .e (zO (zO (zO (zL (.map [] 0)) (zO (zO (zL (zG [(zI 1), (zI (-1)), .nils, (.sl 1170 0 1 none), .nils] 213)) .e) .e)) .e) .e)))
noncomputable def zq414 : TO := (zO (zO .e (zO (zO zq336 .e) .e)) (zO .e (zO (zO .e (zO .e (zO (zL (zG [(.sl 263 0 1 none), (.sl 1183 0 1 none), (zI 1), (zI (-1)), (.sl 1416 0 1 none), (.sl 1455 0 1 none)] 223)) .e))) .e)))
noncomputable def zq415 : TO := (zO (zO (zO (zO .e (zO .e (zN zq409 (zC [(zI 0), (zI 0), (zI 0)] 85) .e))) .e) .e) (zO (zO (zO (zL (.map [] 0)) .e) .e) .e))
noncomputable def zq416 : TO := (zO (zO .e (zO (zO zq350 .e) .e)) (zO (zO (zO .e (zO .e zq350)) .e) .e))
noncomputable def zq417 : TO := (zL (zG [(zI 1), (zI 0), .nils, (.str [])] 375))
noncomputable def zq418 : TO := (zL (zC [(.str [113]), (zI 0)] 103))
noncomputable def zq419 : TO := (zO (zO (zO (zO .e (zO .e zq418)) .e) .e) (zO (zO (zO (zL (.map [] 0)) .e) .e) .e))
noncomputable def zq420 : TO := (zO (zO zq381 (zO (zO (zO zq351 (zO (zO zq417 .e) (zL (.map [⟨(zI 0), (.sl 916 0 1 none), 0⟩] 1)))) .e) .e)) zq419)
noncomputable def zq421 : TO := (zO (zO .e (zO (zO .e (zO .e (zO (zL (zG [(zI 0)] 3)) .e))) .e)) zq382)
noncomputable def zq422 : TO := (zN zq421 (zC [(.sl 3 0 2 (some 2)), (.sl 9 0 1 (some 1))] 41) (zO (zO (zO (zO .e (zO .e (zL (.map [⟨(.str [112]), (.sl 1461 0 1 none), 0⟩] 1)))) .e) .e) (zO (zO (zO (zL (zC [(zI 1), (.map 287), (.map 288), (.int .i32 0), (.int .u32 0), .nils, (.map 289)] 187)) .e) .e) .e)))
noncomputable def zq423 : TV := (zO (zL (zP 911 0)) (zL (zI 0)))
noncomputable def zq424 : TV := (zO (zL (zI 1)) (zL (.fn 149 [] [(zP 1471 0), (zP 1472 0), (zP 1468 0), (zP 1467 0), (zP 1470 0)])))
noncomputable def zq425 : TV := (zO (zL (zP 911 1)) (zL (.tup [])))
noncomputable def zq426 : TV := (zN (zL (zI 1)) (zI 1) .e)
noncomputable def zq427 : TV := (zN zq425 (zP 1470 0) zq426)
noncomputable def zq428 : TV := (zN (zL (.bool true)) (zP 911 0) .e)
noncomputable def zq429 : TV := (zN (zN (zO (zO .e (zL (.bool false))) (zO (zL (zP 911 0)) (zL (zP 911 2)))) (zI 9) (zO (zO .e (zL (zP 911 0))) (zO (zL (zP 275 0)) .e))) (zP 911 0) (zO (zN (zO .e (zL (zP 911 0))) (.bool false) (zO (zL (zP 911 0)) (zL (.sl 1177 0 1 none)))) (zO (zO (zL (zP 911 0)) (zL (zP 911 0))) (zO (zL (zI 9)) .e))))
noncomputable def zq430 : TV := (zN (zN zq353 (.bool false) (zN (zL (zP 911 0)) (.tup [(zP 286 0), (zI 0)]) .e)) (zI 0) zq384)
noncomputable def zq431 : TV := (zN (zN zq367 (zI 1) (zN (zL (zI 9)) (zP 286 0) .e)) (zP 293 0) zq397)
noncomputable def zq432 : TV := (zN (zN (zN (zO zq430 (zN zq358 (zP 911 0) zq385)) (zI 1) zq390) (.sl 13 0 1 (some 1)) zq395) (.agg [(.sl 3 0 2 (some 2)), (.sl 9 0 1 (some 1))]) (zN (zN (zN zq431 .nilp zq399) (zP 14 0) zq402) (zI 9) zq408))
noncomputable def zq433 : TO := (zL (zC [(.int .u64 4294967296), (.int .u32 0)] 291))
noncomputable def zq434 : TO := (zL (zC [(zP 911 0)] 104))
noncomputable def zq435 : TO := (zO (zO .e (zO (zO (zO (zL (zC [(.sl 253 0 2 none), (.sl 273 0 1 none), (.sl 285 0 2 none), (.map 274), (.sl 292 0 1 (some 1)), (zI 0)] 91)) .e) .e) .e)) (zO .e (zO (zO (zO zq378 .e) .e) (zO (zO .e (zO .e (zO zq434 .e))) (zL (zG [(zI 1)] 3))))))
noncomputable def zq436 : TO := (zN zq413 (zC [(zI 1), (.str [88]), (zI 0), (zI 0), (.str [])] 160) (zN zq414 (zC [(.str [112]), (.sl 12 0 1 (some 1))] 24) (zO .e (zO (zO (zO (zL (zG [(.str [112]), (.str [113])] 9)) .e) .e) (zO (zO .e (zO .e (zO (zL (zC [.nils] 247)) .e))) zq346)))))
noncomputable def zq437 : TO := (zN (zO (zN (zO (zO (zO .e (zO .e (zO .e (zO (zL (zC [(zI 0)] 3)) .e)))) (zO (zO (zL (.map [] 0)) .e) .e)) .e) (zC [(zI 1), (.str [112]), (.sl 7 0 1 (some 1)), (zI 0), (zI 0), (.str []), (zI 0), (zI 0), (.str []), (zI 0), .nils, (zI 0), (.str []), (zI 0), (zI 0), (.str []), (zI 0), .nils, (zI 0), (.str []), (zI 0), (.str []), (zI 0), (zI 0), (.str []), (zI 0), .nils, .nils, (zI 0), (zI 0)] 77) zq415) (zN zq416 (zC [(zI 1), (zI 1), (.str [])] 69) (zO .e (zO (zO (zO (zL (zC [(.str [113])] 9)) .e) .e) (zO (zO .e (zO .e (zO (zL (zC [(.sl 1177 0 1 none)] 200)) .e))) .e))))) (zC [(zI 1)] 3) (zO zq420 (zN zq421 (zC [(.sl 3 0 2 (some 2)), (.sl 9 0 1 (some 1))] 41) (zO (zO (zO (zO .e (zO .e (zL (.map [⟨(.str [112]), (.sl 1461 0 1 none), 0⟩] 1)))) .e) .e) (zO (zO (zO (zL (zC [(zI 1), (.map 287), (.map 288), (.int .i32 0), (.int .u32 0), .nils, (.map 289)] 187)) .e) .e) (zO (zO .e (zO .e (zO (zL (zC [(.sl 1469 0 1 (some 1))] 285)) .e))) .e))))))
noncomputable def zq438 : TV := (zN (zL (.bool false)) (zP 911 0) .e)
noncomputable def zq439 : TV := (zO (zL (zI 1)) (zL (.fn 149 [] [(zP 1848 0), (zP 1849 0), (zP 1845 0), (zP 1844 0), (zP 1847 0)])))
noncomputable def zq440 : TV := (zN zq425 (zP 1847 0) zq426)
noncomputable def zq441 : TV := (zL (.tup [(.agg [(zI 1), (zI (-1)), (.sl 1416 0 1 none), (.sl 1455 0 1 none), (.sl 1833 0 1 (some 1))]), (.bool true)]))
noncomputable def zq442 : TV := (zL (.agg [(.sl 263 0 1 none), (.sl 1183 0 1 none), (zI 1), (zI (-1)), (.sl 1416 0 1 none), (.sl 1455 0 1 none)]))
noncomputable def zq443 : TV := (zN (zL (zP 275 0)) (zI 1) (zL (zP 911 0)))
noncomputable def zq444 : TV := (zL (.agg [(zI 1), (zI (-1)), (.sl 1416 0 1 none), (.sl 1455 0 1 none), (.sl 1833 0 1 (some 1))]))
noncomputable def zq445 : TV := (zN (zN (zO (zN (zN (zN (zL (.bool false)) (zP 911 0) zq441) (zP 1829 0) (zN (zL (zP 275 5)) (zP 911 0) (zL (zP 911 0)))) (.bool true) (zN (zN (zL (zP 911 0)) (.bool false) (zL (zI 1))) (.bool false) (zN (zL (zI 1)) (zP 279 0) .e))) (zN (zN (zN (zL (zI 0)) (zI 0) (zL .nils)) (zP 911 0) (zN (zL (.map 910)) (zP 275 3) .e)) (zP 279 0) (zN (zN (zL (zP 275 5)) (.bool false) (zL (zP 911 0))) (zP 911 2) (zN zq442 (.sl 295 0 1 none) .e)))) (zI 9) (zN (zO (zN (zN (zL (zP 1812 1)) (zP 911 4) (zL (.bool true))) (.bool true) (zN (zL (zP 911 0)) (zP 275 0) .e)) (zN zq443 (zP 911 0) (zN (zL (.bool false)) (zP 279 0) .e))) (zI 0) (zN (zN (zN (zL (.tup [(.bool true), (zI 0)])) (.bool true) (zL (.sl 1837 0 1 (some 1)))) (zP 275 0) (zN (zL (.str [112])) (zP 1812 0) .e)) (.bool false) (zN (zN (zL (zI 1)) (.agg [(.str [112]), (.sl 295 0 1 none)]) (zL (zI 9))) (.tup []) (zN zq442 (.agg [(zI 0), (zI 0)]) .e))))) (zP 911 0) (zO (zN (zN (zN (zN (zL (zP 279 0)) (zP 911 0) zq444) (zP 1836 0) (zN (zL (zP 911 0)) (zP 911 0) (zL (.sl 1838 0 1 none)))) (.sl 1838 0 1 none) (zN (zN (zL (zP 911 0)) (.sl 916 0 1 none) (zL (zI 1))) (zP 911 0) (zN (zL (zI 1)) (.tup [(.agg [(zI 0), (zI 0)]), (.bool false)]) .e))) (.bool false) (zN (zN (zN (zL (.agg [(zI 0), (zI 0)])) (.sl 916 0 1 none) zq444) (zP 911 0) (zN (zL (zP 1812 0)) (.map 274) .e)) (zP 1817 0) (zN (zN (zL (zI 0)) (zP 916 0) (zL (zP 275 0))) (.sl 1177 0 1 none) (zN zq441 (.tup [(.agg [(zI 0), (zI 0)]), (.bool false)]) .e)))) (zN (zN (zN (zN (zL (.sl 295 0 1 none)) (.tup [(zI 0), (.sl 916 0 1 none), (.bool true)]) (zL (.bool true))) (zP 911 0) (zN (zL (zP 911 3)) (zP 275 0) .e)) (zP 1812 0) (zN zq443 (zP 911 0) (zN (zL (zP 1461 0)) (zP 1812 1) .e))) (.sl 916 0 1 none) (zO (zN (zN (zL (zP 911 0)) (.bool true) (zL (.sl 1838 0 1 none))) (zI 9) (zN (zL (.sl 1461 0 1 none)) (.str [112]) .e)) (zN (zN (zL (zP 275 0)) (zP 911 0) (zL (.bool false))) (.tup [(zI 0), (.sl 916 0 1 none), (.bool true)]) (zN (zL (.agg [(.str [112]), (.sl 295 0 1 none)])) (.bool false) .e))))))
noncomputable def zq446 : TO := (zN zq344 (zC [(.str [113]), (.sl 5 0 1 (some 1)), (.sl 8 0 1 (some 1)), (zI 0), (zI 0)] 79) (zO (zO .e (zO (zO (zO .e (zO .e zq337)) .e) .e)) (zO (zO (zO (zN .e (.map [⟨(.agg [(zI 1), (zI 1), (.str []), (zI 0), (zI 0), (.str []), (zI 0), (zI 0), (.str []), (zI 0), (zI 0), (.str []), (zI 0), (zI 0), (.str []), (zI 0), (zI 0), (.str []), (zI 0), (zI 0), (.str []), (zI 0), (zI 0), (.str [])]), (.agg []), 0⟩] 1) (zO .e (zL (zC [(zI 0), (zI 0)] 138)))) (zO (zO (zL (zG [(zI 1), (zI (-1)), .nils, (.sl 1170 0 1 none), .nils] 213)) .e) .e)) .e) (zO (zO (zO .e (zO .e (zL (zC [(zI 0)] 3)))) .e) .e))))
noncomputable def zq447 : TO := (zO (zO .e (zO (zO (zN .e (zC [(.str [112]), (.sl 12 0 1 (some 1))] 24) (zO .e (zL (zC [(.sl 263 0 1 none), (.sl 1183 0 1 none), (zI 1), (zI (-1)), (.sl 1416 0 1 none), (.sl 1455 0 1 none)] 223)))) .e) .e)) (zO .e (zO (zO (zO .e (zO .e (zL (zC [(.sl 1838 0 1 none)] 200)))) (zO .e (zO (zL (zG [(.sl 263 0 1 none), (.sl 1183 0 1 none), (zI 1), (zI (-1)), (.sl 1416 0 1 none), (.sl 1455 0 1 none)] 223)) .e))) .e)))
noncomputable def zq448 : TO := (zO (zO .e (zO (zO (zO .e (zO .e (zL (zC [(zI 1), (zI (-1)), (.sl 1416 0 1 none), (.sl 1455 0 1 none), (.sl 1833 0 1 (some 1))] 213)))) .e) .e)) (zO (zO (zO (zL (zC [(.str [113])] 9)) .e) .e) .e))
noncomputable def zq449 : TO := (zO (zO (zO zq34 .e) .e) (zO (zO (zO .e (zO .e (zL (zC [(.sl 1825 0 1 none), (zI 0), (zI 0)] 303)))) .e) zq336))
noncomputable def zq450 : TO := (zO zq449 (zO (zO (zO zq351 (zO (zO zq417 .e) (zL (.map [] 1)))) .e) .e))
noncomputable def zq451 : TO := (zO (zO (zO (zO .e (zO .e (zL (.map [⟨(.str [112]), (.sl 1461 0 1 none), 0⟩] 1)))) .e) (zO (zO (zO .e (zO .e (zL (zG [(zI 1), (zI (-1)), (.sl 1416 0 1 none), (.sl 1455 0 1 none), (.sl 1833 0 1 (some 1))] 213)))) .e) .e)) (zO (zO (zO (zL (zC [(zI 1), (.map 287), (.map 288), (.int .i32 0), (.int .u32 0), .nils, (.map 289)] 187)) .e) .e) .e))
noncomputable def zq452 : TO := (zO (zO .e (zO (zO .e (zO (zO (zO (zL (zG [(zP 1826 0)] 301)) .e) .e) .e)) .e)) (zO (zO (zO (zL (zC [(.sl 253 0 2 none), (.sl 273 0 1 none), (.sl 285 0 2 none), (.map 274), (.sl 292 0 1 (some 1)), (zI 2)] 91)) .e) .e) .e))
noncomputable def zq453 : TO := (zO (zO .e (zO (zO zq350 .e) .e)) (zO (zO (zO .e (zO (zO (zO (zL (.map [⟨(.agg [(zI 1), (zI 1), (.str []), (zI 0), (zI 0), (.str []), (zI 0), (zI 0), (.str []), (zI 0), (zI 0), (.str []), (zI 0), (zI 0), (.str []), (zI 0), (zI 0), (.str []), (zI 0), (zI 0), (.str []), (zI 0), (zI 0), (.str [])]), (.sl 2211 0 1 none), 0⟩] 1)) .e) .e) .e)) .e) .e))
noncomputable def zq454 : TO := (zO (zO (zO .e (zO .e (zO (zO .e (zO .e (zO .e (zO (zO zq1 .e) .e)))) .e))) .e) zq6)
noncomputable def zq455 : TO := (zO (zO (zO .e (zO (zO .e (zO (zO .e (zO .e (zO .e (zO (zO zq10 .e) .e)))) .e)) .e)) zq12) (zO (zO (zO .e (zO .e (zO (zO .e (zO .e (zO .e (zO (zO (zL (zC [(zI 1), (.str [112]), (.sl 5041 0 1 (some 1)), (zI 0), (zI 0), (.str []), (zI 0), (zI 0), (.str []), (zI 0), .nils, (zI 0), (.str []), (zI 0), (zI 0), (.str []), (zI 0), .nils, (zI 0), (.str []), (zI 0), (.str []), (zI 0), (zI 0), (.str []), (zI 0), .nils, .nils, (zI 0), (zI 0)] 77)) .e) .e)))) .e))) .e) .e))
noncomputable def zq456 : TV := (zL (.agg [(.sl 5037 0 2 (some 2)), (.sl 5043 0 1 (some 1))]))
noncomputable def zq457 : TV := (zO (zL (zI 1)) (zN .e (zI e1) (zO zq456 .e)))
noncomputable def zq458 : TV := (zO (zq282 budget) (zN zq283 (zP (OLD + b0) 0) (zq457 e1)))
noncomputable def zq459 : TV := (zL (.tup [(zP 5302 0), (zI 0)]))
noncomputable def zq460 : TV := (zN (zL (zP 5291 0)) (.bool false) zq459)
noncomputable def zq461 : TV := (zL (.tup [(.sl 5914 0 2 none), (.agg [(zI 0), (zI 0), (zI 0)])]))
noncomputable def zq462 : TV := (zN (zN zq461 (.bool false) .e) (.bool false) (zL (.tup [])))
noncomputable def zq463 : TV := (zN (zN (zL (zP 5291 0)) (zP 5291 0) .e) (.bool false) (zL (zP 5291 0)))
noncomputable def zq464 : TV := (zN (zL (zP 5291 0)) (.bool false) (zL (zI 0)))
noncomputable def zq465 : TV := (zN (zN (zL (zP 5291 0)) (zI 2) .e) (.bool false) (zL (zP 5291 2)))
noncomputable def zq466 : TV := (zN (zL (zP 5291 0)) (zI 1) (zL (zP 5302 0)))
noncomputable def zq467 : TV := (zN (zN (zL (zP 5291 0)) (.sl 5269 0 2 none) .e) (zI 1) (zL (zP 5291 0)))
noncomputable def zq468 : TV := (zN (zN (zL (.agg [(.sl 5269 0 2 none), (.sl 5289 0 1 none)])) (zI 2) .e) (.bool false) (zL (.sl 5301 0 2 none)))
noncomputable def zq469 : TO := (zO (zO (zO .e (zO (zO (zO .e (zO (zL (zG [(zI 1)] 3)) .e)) .e) .e)) .e) (zO (zO .e (zO (zO (zO .e (zO (zL (zC [(.str [113]), (.sl 5267 0 1 none), (zI 0), (zI 0)] 63)) .e)) .e) (zO .e (zO (zO (zL (zC [(.str [113]), (.sl 5039 0 1 (some 1)), (.sl 5042 0 1 (some 1)), (zI 0), (zI 0)] 79)) .e) .e)))) .e))
noncomputable def zq470 : TO := (zO (zO (zO .e (zO (zL (zC [(.str [113])] 9)) .e)) .e) (zO .e (zO (zO (zL (zC [(.sl 5037 0 2 (some 2)), (.sl 5043 0 1 (some 1))] 41)) .e) .e)))
noncomputable def zq471 : TO := (zO (zO .e (zO (zO .e (zO (zO (zO .e (zO (zL (.map [⟨(.str [112]), (zP 5295 0), 0⟩, ⟨(.str [113]), (zP 5302 0), 1⟩] 2)) .e)) .e) .e)) .e)) (zO (zO (zO (zO .e (zO .e (zO .e (zO zq375 .e)))) (zO (zO (zO .e (zO zq34 .e)) .e) .e)) .e) .e))
noncomputable def zq472 : TV := (zN (zN zq383 (zP 5299 0) .e) (.bool false) (zL (zP 5291 4)))
noncomputable def zq473 : TV := (zN (zL (zI 0)) (zP 5291 0) .e)
noncomputable def zq474 : TV := (zN (zL (zI 2)) (zP 5291 0) .e)
noncomputable def zq475 : TV := (zO (zN zq463 (zI 0) (zN zq473 (.bool false) (zL (.bool false)))) (zN (zN zq474 (.bool false) (zL (zP 5291 0))) (.bool false) (zN (zN (zL (.sl 5914 0 2 none)) (.str [113]) .e) (.agg [(.sl 5037 0 2 (some 2)), (.sl 5043 0 1 (some 1))]) .e)))
noncomputable def zq476 : TV := (zO (zN (zN zq464 (.sl 5914 0 2 none) (zN (zN (zL (zP 5917 1)) (.sl 5300 0 1 (some 1)) .e) (zI 0) (zL (zI 0)))) (zI 0) (zN (zN (zN zq329 (.agg [(.str [113]), (.sl 5267 0 1 none), (zI 0), (zI 0)]) .e) (zI 0) (zL .nils)) (zI 1) (zO (zL (.map 5290)) .e))) (zO (zN zq465 (zP 5917 0) (zO (zN (zL (zI 0)) (.tup [(zP 5302 0), (zI 0)]) .e) .e)) (zN (zN (zN (zL (.bool false)) (zP 5291 2) .e) (.agg [(zI 0), (zI 0), (zI 0)]) (zL (zP 5291 0))) (.bool false) (zN (zN (zL (zI 1)) (.sl 5267 0 1 none) .e) (.map 5290) .e))))
noncomputable def zq477 : TV := (zN zq396 .nils (zL .nils))
noncomputable def zq478 : TV := (zN (zN (zN (zL (.sl 5914 0 2 none)) (zP 5269 4) .e) .nils (zL (zP 5291 0))) (.bool false) (zO (zL (zP 5291 3)) .e))
noncomputable def zq479 : TV := (zN (zO zq467 (zO (zN (zL (zI 2)) (zP 5291 2) .e) .e)) (zP 5291 0) (zN (zN zq474 (.agg [(.sl 5037 0 2 (some 2)), (.sl 5043 0 1 (some 1))]) (zL (zP 5291 4))) (zI 1) (zN (zN (zL (zI 0)) (zP 5299 1) .e) (.agg [(.sl 5269 0 2 none), (.sl 5289 0 1 none)]) .e)))
noncomputable def zq480 : TV := (zO (zO (zN (zN (zN zq461 (zP 5291 0) .e) (.bool false) (zL (zI 2))) (zP 5915 0) (zN (zN (zL (zI 0)) (.sl 5301 0 2 none) .e) (zI 0) (zL (zI 0)))) (zN (zN (zN (zL (.sl 5914 0 2 none)) (zP 5291 0) .e) (.bool false) (zL .nils)) (.bool false) (zO (zN (zL (zP 5291 0)) (zP 5299 0) .e) .e))) (zN (zN zq468 (zI 0) (zO zq473 .e)) (zP 5299 0) (zN (zN (zN (zL (zP 5914 2)) (.sl 5294 0 1 none) .e) (zI 0) (zL (zP 5291 0))) (.bool false) (zN (zN (zL (zP 5922 0)) (zI 1) .e) (.agg [(.sl 5269 0 2 none), (.sl 5289 0 1 none), .nils, (.map 5290), .nils, (zI 0)]) .e))))
noncomputable def zq481 : TO := (zO zq86 (zO (zO .e (zO (zO (zO (zO (zO (zO .e (zL (zG [(zI 1), (zI (-1)), .nils, (.sl 6176 0 1 none), .nils] 213))) .e) .e) .e) (zO (zO (zO .e (zO (zL (zG [(zI 1), (.str [112]), (.sl 5279 0 1 none), (zI 0), (zI 0), (.str []), (zI 0), (zI 0), (.str []), (zI 0), .nils, (zI 0), (.str []), (zI 0), (zI 0), (.str []), (zI 0), .nils, (zI 0), (.str []), (zI 0), (.str []), (zI 0), (zI 0), (.str []), (zI 0), .nils, .nils, (zI 0), (zI 0)] 77)) .e)) .e) .e)) .e)) (zO .e (zO (zO .e (zO (zO (zO .e (zO (zL (.map [] 0)) .e)) .e) .e)) .e))))
noncomputable def zq482 : TO := (zO (zO (zO .e (zO (zO .e (zO (zO (zO .e (zL (zG [(.sl 5279 0 1 none), (.sl 6189 0 1 none), (zI 1), (zI (-1)), (.sl 6422 0 1 none), (.sl 6461 0 1 none)] 223))) .e) .e)) .e)) .e) zq469)
noncomputable def zq483 : TO := (zO (zO .e (zO (zO (zO .e (zO .e (zO .e (zO (zL (.map [⟨(.str [112]), (.sl 6467 0 1 none), 0⟩] 1)) .e)))) .e) .e)) (zO .e (zO (zO .e (zO (zO (zO .e (zO (zL (.map [] 0)) .e)) .e) (zO .e (zO (zO zq1 .e) .e)))) .e)))
noncomputable def zq484 : TO := (zO (zO (zO (zO .e (zO .e (zO .e (zO zq418 .e)))) .e) .e) (zO (zO (zO .e (zO (zO (zO .e (zL (zG [(zI 1), (zI 0), (.sl 6452 0 1 none), (.str [])] 375))) .e) .e)) .e) .e))
noncomputable def zq485 : TO := (zO (zO (zO .e (zO (zO (zO (zO (zO (zO .e zq417) .e) .e) .e) .e) .e)) (zO .e (zO (zO .e (zO (zO (zO .e (zO (zL (.map [] 0)) .e)) .e) .e)) .e))) zq95)
noncomputable def zq486 : TO := (zO (zO .e (zO (zO (zO .e (zO .e (zO .e (zO (zL (zC [(zP 5291 0), (zI 1), (.sl 6183 0 1 none), (.map 5921), .nilm] 205)) .e)))) .e) .e)) (zO .e (zO (zO .e (zO (zO (zO .e (zO (zL (.map [] 0)) .e)) .e) (zO .e (zO (zO (zL (zC [(zI 1), (.str [112]), (.sl 5041 0 1 (some 1)), (zI 0), (zI 0), (.str []), (zI 0), (zI 0), (.str []), (zI 0), .nils, (zI 0), (.str []), (zI 0), (zI 0), (.str []), (zI 0), .nils, (zI 0), (.str []), (zI 0), (.str []), (zI 0), (zI 0), (.str []), (zI 0), .nils, .nils, (zI 0), (zI 0)] 77)) .e) .e)))) .e)))
noncomputable def zq487 : TV := (zO (zL (zP 5922 0)) (zL (zI 0)))
noncomputable def zq488 : TV := (zO (zL (zI 1)) (zL (.fn 149 [] [(zP 6477 0), (zP 6478 0), (zP 6474 0), (zP 6473 0), (zP 6476 0)])))
noncomputable def zq489 : TV := (zN (zO (zL (zP 5922 1)) (zL (.tup []))) (zP 6476 0) zq426)
noncomputable def zq490 : TV := (zN (zN (zO (zO .e (zL (.bool false))) (zO (zL (zP 5922 0)) (zL (zP 5922 2)))) (zI 1) (zO (zO .e (zL (zP 5922 0))) (zO (zL (zP 5291 0)) .e))) (zP 5922 0) (zO (zN (zO .e (zL (zP 5922 0))) (.bool false) (zO (zL (zP 5922 0)) (zL (.sl 6183 0 1 none)))) (zO (zO (zL (zP 5922 0)) (zL (zP 5922 0))) (zO (zL (zI 1)) .e))))
noncomputable def zq491 : TV := (zN (zN (zN (zO (zO (zN (zL (zP 5291 0)) (.bool false) (zN (zL (zP 5922 0)) (.tup [(zP 5302 0), (zI 0)]) .e)) zq472) (zN zq462 (zP 5922 0) (zO zq296 .e))) (zI 1) zq475) .nils zq476) (.agg [(.sl 5037 0 2 (some 2)), (.sl 5043 0 1 (some 1))]) (zN (zN (zN (zO (zN (zL (zP 5291 0)) (zI 1) (zN (zL (zI 1)) (zP 5302 0) .e)) zq477) .nilp zq478) (zP 5045 0) zq479) (zI 1) zq480))
noncomputable def zq492 : TO := (zO zq481 (zO zq482 (zO (zO (zO .e (zO (zO .e (zO (zO (zO .e (zL (zC [.nils] 247))) .e) .e)) .e)) (zO (zO .e (zO (zO (zO .e (zO (zL (zC [(.sl 5269 0 2 none), (.sl 5289 0 1 none), (.sl 5301 0 2 none), (.map 5290), .nils, (zI 0)] 91)) .e)) .e) (zO .e (zO (zO (zL (zC [(zI 1)] 3)) .e) .e)))) .e)) (zO (zO (zO (zO .e (zO .e (zO .e (zO (zL (zC [(zI 0), (zI 0), (zI 0)] 85)) .e)))) .e) .e) .e))))
noncomputable def zq493 : TO := (zO zq483 (zO (zO (zO .e (zO (zO .e (zO (zO (zO .e (zL (zC [(zP 5922 0)] 104))) .e) .e)) .e)) (zO (zO .e (zO (zO (zO .e (zO (zL (zG [(.str [113]), (.sl 5274 0 1 none), (.sl 5287 0 1 none), (zI 0), (zI 0)] 79)) .e)) .e) .e)) .e)) (zO .e (zO (zO .e (zO (zO (zO .e (zO (zL (.map [] 0)) .e)) .e) .e)) .e))))
noncomputable def zq494 : TO := (zO (zO zq485 (zO (zO .e (zO .e (zO (zO (zO .e (zO (zO (zO .e (zL (zG [(zI 0)] 3))) .e) .e)) zq470) .e))) (zO (zO (zO .e (zO (zO .e (zO (zO (zO .e (zL (zC [(.sl 6475 0 1 (some 1))] 285))) .e) .e)) .e)) (zO (zO .e (zO .e (zO .e (zO (zO (zL (zC [(zI 1)] 3)) .e) .e)))) .e)) .e))) (zO (zO zq486 (zO (zO (zO .e (zO (zO .e (zO (zO (zO .e (zL (zC [(.sl 6183 0 1 none)] 200))) .e) .e)) .e)) (zO (zO .e (zO (zO (zO .e (zO (zL (.map [⟨(.str [112]), (zP 5295 0), 0⟩, ⟨(.str [113]), (zP 5302 0), 1⟩] 2)) .e)) .e) .e)) .e)) (zO (zO (zO (zO .e (zO .e (zO .e (zO zq375 .e)))) (zO (zO (zO .e (zO zq34 .e)) .e) .e)) .e) .e))) (zO (zO .e (zO (zO (zO (zO .e (zO (zO (zO .e zq409) .e) .e)) .e) .e) (zO (zO .e (zO (zO (zO .e (zO (zL (zC [(zI 1), (.map 5303), (.map 5304), (.int .i32 0), (.int .u32 0), .nils, (.map 5305)] 187)) .e)) .e) .e)) .e))) (zO (zO (zO (zO .e (zO (zO (zO .e (zO (zL (zG [(zI 1)] 3)) .e)) .e) .e)) (zO (zO .e (zO (zO (zO .e (zL (zC [(zI 0)] 3))) .e) .e)) .e)) (zO (zO .e (zO (zO (zO .e (zO (zL .dead) .e)) .e) .e)) .e)) .e))))
noncomputable def zq495 : TV := (zL (.tup [(zP 5291 0), (zI 0)]))
end Go.Ev
namespace Go.Ev
open Go.Proofs
set_option maxRecDepth 1000000
set_option maxHeartbeats 0
set_option linter.all false
noncomputable def sAaU0 (b0 : Nat) (budget : Int) : OS := ⟨⟨⟨3, false, none, 101⟩, (zq326 b0 budget), [.code (cAt Tryz.f3 [1, 0]), .code (cAt Tryz.f3 [1, 1])], [], false⟩, [], ⟨.e, 0, 0⟩⟩
end Go.Ev
namespace Go.Ev
open Go.Proofs
set_option maxRecDepth 1000000
set_option maxHeartbeats 0
set_option linter.all false
noncomputable def sAaU1 (b0 : Nat) (budget : Int) : OS := ⟨⟨⟨10, false, none, 169⟩, (zN (zN zq328 (.sl 13 0 1 (some 1)) (zO (zN (zO (zL (.bool false)) .e) (zI 0) (zN (zL (zI 1)) (zI 9) .e)) zq330)) (.agg [(.sl 3 0 2 (some 2)), (.sl 9 0 1 (some 1))]) (zN (zN (zN (zO (zL (zI 1)) .e) .nilp (zN zq331 (.bool false) .e)) (zP 14 0) (zO (zO (zL (zI 1)) .e) (zN zq332 (zI 9) .e))) (zI 9) zq333)), [.inRegion (rAt Tryz.f10 [1, 0, 0, 1, 1, 1, 1, 0]) ((rAt Tryz.f10 [1, 0, 0, 1, 1, 1, 1, 0]).toList.drop 2), .code (cAt Tryz.f10 [1, 0, 0, 1, 1, 1, 1, 1]), .inBlock 0, .code (cAt Tryz.f10 [1, 1])], [], false⟩,
  [(⟨⟨4, false, none, 83⟩, zq335, [.inRegion (rAt Tryz.f4 [1, 0]) ((rAt Tryz.f4 [1, 0]).toList.drop 4), .code (cAt Tryz.f4 [1, 1])], [], false⟩, (some 14)), (⟨⟨3, false, none, 101⟩, (zq326 b0 budget), [.inRegion (rAt Tryz.f3 [1, 0]) ((rAt Tryz.f3 [1, 0]).toList.drop 1), .code (cAt Tryz.f3 [1, 1])], [], false⟩, (some 20))],
  ⟨(zO (zN (zN zq1 (zC [(.str [112]), (.sl 1 0 1 (some 1)), (zI 0), (zI 0), (.str [113]), (.sl 2 0 1 (some 1)), (zI 0), (zI 0)] 63) .e) (zC [(zI 1)] 3) (zN (zL (zC [(.str [113]), (.sl 5 0 1 (some 1)), (.sl 8 0 1 (some 1)), (zI 0), (zI 0)] 79)) (zC [(zI 1), (.str [88]), (zI 0), (zI 0), (.str [])] 160) zq336)) (zN (zO (zL (zC [(zI 1), (.str [112]), (.sl 7 0 1 (some 1)), (zI 0), (zI 0), (.str []), (zI 0), (zI 0), (.str []), (zI 0), .nils, (zI 0), (.str []), (zI 0), (zI 0), (.str []), (zI 0), .nils, (zI 0), (.str []), (zI 0), (.str []), (zI 0), (zI 0), (.str []), (zI 0), .nils, .nils, (zI 0), (zI 0)] 77)) zq337) (zC [(zI 1)] 3) (zO .e (zL (zC [(.sl 3 0 2 (some 2)), (.sl 9 0 1 (some 1))] 41))))), 226, 0⟩⟩
end Go.Ev
namespace Go.Ev
open Go.Proofs
set_option maxRecDepth 1000000
set_option maxHeartbeats 0
set_option linter.all false
noncomputable def sAaU2 (b0 : Nat) (budget : Int) : OS := ⟨⟨⟨10, false, none, 169⟩, (zN (zN (zN (zO (zN zq355 (zI 0) (zN (zL (zP 283 0)) (.bool false) (zL (zP 275 4)))) (zO zq358 (zN (zL (zP 275 0)) (.agg [(.str [112]), (.sl 12 0 1 (some 1))]) (zL (zP 275 0))))) (zI 1) (zN (zO zq360 (zN (zL (zP 275 0)) (.bool false) (zL (.bool false)))) (zP 226 0) (zN (zN (zL (zP 275 0)) (.bool false) (zL (zP 275 0))) (.bool false) (zN (zL (.str [113])) (.agg [(.sl 3 0 2 (some 2)), (.sl 9 0 1 (some 1))]) (zL (zI 0)))))) (.sl 13 0 1 (some 1)) (zO (zN (zO zq362 (zN (zL (.sl 284 0 1 (some 1))) (zI 1) (zL (zI 1)))) (zI 0) (zN (zN (zL (.agg [(.str [113]), (.sl 251 0 1 none), (zI 0), (zI 0)])) (zI 1) zq331) (zI 9) zq363)) (zO (zO zq365 (zN zq354 (.agg [(.str [112]), (.sl 12 0 1 (some 1))]) (zL (zP 292 0)))) (zN (zN (zL (zP 275 2)) (.agg [(zI 0), (zI 0), (zI 0)]) (zL (zP 275 0))) (.bool false) (zN (zL (.sl 251 0 1 none)) (.map 274) zq366))))) (.agg [(.sl 3 0 2 (some 2)), (.sl 9 0 1 (some 1))]) (zN (zN (zN (zN zq368 (zP 293 0) (zN (zL (.str [113])) (.sl 13 0 1 (some 1)) zq369)) .nilp (zN (zN (zL (zP 253 4)) (.sl 13 0 1 (some 1)) (zL (zP 275 0))) (.bool false) zq370)) (zP 14 0) (zN (zO zq372 (zN (zL (zP 275 2)) (zP 13 0) (zL (zI 0)))) (zP 275 0) (zN (zN (zL (zP 275 0)) (.agg [(.sl 3 0 2 (some 2)), (.sl 9 0 1 (some 1))]) (zL (zP 275 4))) (zI 9) (zN (zL (zP 283 1)) (.agg [(.sl 253 0 2 none), (.sl 273 0 1 none)]) (zL (zP 293 1)))))) (zI 9) (zO (zO (zO (zN (zL (zP 275 0)) (.bool false) (zL (zI 2))) (zN (zL (.sl 285 0 2 none)) (zI 1) (zL (zI 1)))) (zN (zN (zL (zP 275 0)) (.bool false) zq369) (.bool false) (zN (zL (zP 283 0)) (zI 1) zq369))) (zN (zO zq374 (zN (zL (zP 275 0)) (.agg [(.sl 3 0 2 (some 2)), (.sl 9 0 1 (some 1))]) zq334)) (zP 283 0) (zN (zN (zL (.sl 278 0 1 none)) (zI 0) (zL (zP 275 0))) (.bool false) (zN (zL (zI 1)) (.agg [(.sl 253 0 2 none), (.sl 273 0 1 none), .nils, (.map 274), .nils, (zI 0)]) (zL (.sl 295 0 1 none)))))))), [.inRegion (rAt Tryz.f10 [1, 1, 1, 1, 1, 1, 1, 1, 0]) ((rAt Tryz.f10 [1, 1, 1, 1, 1, 1, 1, 1, 0]).toList.drop 5), .code (cAt Tryz.f10 [1, 1, 1, 1, 1, 1, 1, 1, 1])], [], false⟩,
  [(⟨⟨4, false, none, 83⟩, zq335, [.inRegion (rAt Tryz.f4 [1, 0]) ((rAt Tryz.f4 [1, 0]).toList.drop 4), .code (cAt Tryz.f4 [1, 1])], [], false⟩, (some 14)), (⟨⟨3, false, none, 101⟩, (zq326 b0 budget), [.inRegion (rAt Tryz.f3 [1, 0]) ((rAt Tryz.f3 [1, 0]).toList.drop 1), .code (cAt Tryz.f3 [1, 1])], [], false⟩, (some 20))],
  ⟨(zO (zN (zN (zN (zO (zO .e (zO (zO (zL (.map [] 0)) .e) .e)) (zO (zO (zO zq341 .e) .e) .e)) (zC [(zI 1), (.str [88]), (zI 0), (zI 0), (.str [])] 160) zq377) (zC [(.str [112]), (.sl 1 0 1 (some 1)), (zI 0), (zI 0), (.str [113]), (.sl 2 0 1 (some 1)), (zI 0), (zI 0)] 63) zq379) (zC [(zI 1)] 3) (zN (zN zq380 (zC [(.str [113]), (.sl 5 0 1 (some 1)), (.sl 8 0 1 (some 1)), (zI 0), (zI 0)] 79) (zO .e (zO (zO (zO (zL (.map [] 0)) .e) .e) .e))) (zC [(zI 1), (.str [88]), (zI 0), (zI 0), (.str [])] 160) (zN (zO (zO .e (zO (zO zq336 .e) .e)) .e) (zC [(.str [112]), (.sl 12 0 1 (some 1))] 24) (zO .e zq347)))) (zN (zO (zN (zO (zO .e (zO (zO (zL (.map [] 0)) .e) .e)) .e) (zC [(zI 1), (.str [112]), (.sl 7 0 1 (some 1)), (zI 0), (zI 0), (.str []), (zI 0), (zI 0), (.str []), (zI 0), .nils, (zI 0), (.str []), (zI 0), (zI 0), (.str []), (zI 0), .nils, (zI 0), (.str []), (zI 0), (.str []), (zI 0), (zI 0), (.str []), (zI 0), .nils, .nils, (zI 0), (zI 0)] 77) (zO .e (zO (zO (zO (zL (.map [] 0)) .e) .e) .e))) (zN (zO (zO .e (zO (zO zq350 .e) .e)) .e) (zC [(zI 1), (zI 1), (.str [])] 69) (zO .e (zO (zO (zO (zL (zC [(.str [113])] 9)) .e) .e) .e)))) (zC [(zI 1)] 3) (zO (zO (zO zq381 (zO (zO (zO zq351 .e) .e) .e)) (zO .e (zO (zO (zO (zL (.map [] 0)) .e) .e) .e))) (zN (zO .e zq382) (zC [(.sl 3 0 2 (some 2)), (.sl 9 0 1 (some 1))] 41) (zO .e (zO (zO (zO (zL (zC [(zI 1), (.map 287), (.map 288), (.int .i32 0), (.int .u32 0), .nils, (.map 289)] 187)) .e) .e) .e)))))), 904, 0⟩⟩
end Go.Ev
namespace Go.Ev
open Go.Proofs
set_option maxRecDepth 1000000
set_option maxHeartbeats 0
set_option linter.all false
noncomputable def sAaU3 (b0 : Nat) (budget : Int) : OS := ⟨⟨⟨10, false, none, 169⟩, (zN (zN (zN (zO (zN zq355 (zI 0) zq384) (zO zq358 zq385)) (zI 1) zq390) (.sl 13 0 1 (some 1)) zq395) (.agg [(.sl 3 0 2 (some 2)), (.sl 9 0 1 (some 1))]) (zN (zN (zN (zN zq368 (zP 293 0) zq397) .nilp zq399) (zP 14 0) zq402) (zI 9) zq408)), [.inRegion (rAt Tryz.f10 [1, 1, 1, 1, 1, 1, 1, 1, 1, 1, 1, 0, 1, 0, 0, 1, 0, 0, 0]) ((rAt Tryz.f10 [1, 1, 1, 1, 1, 1, 1, 1, 1, 1, 1, 0, 1, 0, 0, 1, 0, 0, 0]).toList.drop 5), .code (cAt Tryz.f10 [1, 1, 1, 1, 1, 1, 1, 1, 1, 1, 1, 0, 1, 0, 0, 1, 0, 0, 1]), .inBlock 10, .code (cAt Tryz.f10 [1, 1, 1, 1, 1, 1, 1, 1, 1, 1, 1, 0, 1, 0, 0, 1, 1]), .inLoop (cAt Tryz.f10 [1, 1, 1, 1, 1, 1, 1, 1, 1, 1, 1, 0, 1, 0, 0]), .inBlock 9, .code (cAt Tryz.f10 [1, 1, 1, 1, 1, 1, 1, 1, 1, 1, 1, 1])], [], false⟩,
  [(⟨⟨4, false, none, 83⟩, zq335, [.inRegion (rAt Tryz.f4 [1, 0]) ((rAt Tryz.f4 [1, 0]).toList.drop 4), .code (cAt Tryz.f4 [1, 1])], [], false⟩, (some 14)), (⟨⟨3, false, none, 101⟩, (zq326 b0 budget), [.inRegion (rAt Tryz.f3 [1, 0]) ((rAt Tryz.f3 [1, 0]).toList.drop 1), .code (cAt Tryz.f3 [1, 1])], [], false⟩, (some 20))],
  ⟨(zO (zN (zN (zN zq412 (zC [(zI 1), (.str [88]), (zI 0), (zI 0), (.str [])] 160) zq377) (zC [(.str [112]), (.sl 1 0 1 (some 1)), (zI 0), (zI 0), (.str [113]), (.sl 2 0 1 (some 1)), (zI 0), (zI 0)] 63) zq379) (zC [(zI 1)] 3) (zN zq413 (zC [(zI 1), (.str [88]), (zI 0), (zI 0), (.str [])] 160) (zN zq414 (zC [(.str [112]), (.sl 12 0 1 (some 1))] 24) (zO .e zq347)))) (zN (zO (zN (zO (zO .e (zO (zO (zL (.map [] 0)) .e) .e)) .e) (zC [(zI 1), (.str [112]), (.sl 7 0 1 (some 1)), (zI 0), (zI 0), (.str []), (zI 0), (zI 0), (.str []), (zI 0), .nils, (zI 0), (.str []), (zI 0), (zI 0), (.str []), (zI 0), .nils, (zI 0), (.str []), (zI 0), (.str []), (zI 0), (zI 0), (.str []), (zI 0), .nils, .nils, (zI 0), (zI 0)] 77) zq415) (zN zq416 (zC [(zI 1), (zI 1), (.str [])] 69) (zO .e (zO (zO (zO (zL (zC [(.str [113])] 9)) .e) .e) .e)))) (zC [(zI 1)] 3) (zO zq420 zq422))), 1462, 0⟩⟩
end Go.Ev
namespace Go.Ev
open Go.Proofs
set_option maxRecDepth 1000000
set_option maxHeartbeats 0
set_option linter.all false
noncomputable def sAaU4 (b0 : Nat) (budget : Int) : OS := ⟨⟨⟨92, false, none, 55⟩, (zN (zN (zN zq423 (zP 1468 0) (zN (zL (zI 1)) (.sl 1177 0 1 none) .e)) (.sl 1177 0 1 none) (zN zq424 (zP 1471 0) (zN (zL (zI 0)) (.sl 1469 0 1 (some 1)) .e))) (zP 911 0) (zN zq427 (zP 1467 0) (zN (zO (zL (.sl 1177 0 1 none)) .e) (zP 1472 0) zq428))), [.inRegion (rAt Tryz.f92 [1, 1, 1, 0, 1, 0, 0, 1, 1, 0, 0, 1, 1]) ((rAt Tryz.f92 [1, 1, 1, 0, 1, 0, 0, 1, 1, 0, 0, 1, 1]).toList.drop 1), .inBlock 1, .code (cAt Tryz.f92 [1, 1, 1, 0, 1, 0, 0, 1, 1, 1]), .inLoop (cAt Tryz.f92 [1, 1, 1, 0, 1, 0, 0]), .inBlock 0, .code (cAt Tryz.f92 [1, 1, 1, 1])], [], false⟩,
  [(⟨⟨35, false, none, 114⟩, zq429, [.inRegion (rAt Tryz.f35 [1, 1, 0]) ((rAt Tryz.f35 [1, 1, 0]).toList.drop 6), .code (cAt Tryz.f35 [1, 1, 1])], [], false⟩, (some 29)), (⟨⟨10, false, none, 169⟩, zq432, [.inRegion (rAt Tryz.f10 [1, 1, 1, 1, 1, 1, 1, 1, 1, 1, 1, 0, 1, 0, 0, 1, 0, 0, 1, 0]) ((rAt Tryz.f10 [1, 1, 1, 1, 1, 1, 1, 1, 1, 1, 1, 0, 1, 0, 0, 1, 0, 0, 1, 0]).toList.drop 3), .code (cAt Tryz.f10 [1, 1, 1, 1, 1, 1, 1, 1, 1, 1, 1, 0, 1, 0, 0, 1, 0, 0, 1, 1]), .inBlock 10, .code (cAt Tryz.f10 [1, 1, 1, 1, 1, 1, 1, 1, 1, 1, 1, 0, 1, 0, 0, 1, 1]), .inLoop (cAt Tryz.f10 [1, 1, 1, 1, 1, 1, 1, 1, 1, 1, 1, 0, 1, 0, 0]), .inBlock 9, .code (cAt Tryz.f10 [1, 1, 1, 1, 1, 1, 1, 1, 1, 1, 1, 1])], [], false⟩, (some 161)), (⟨⟨4, false, none, 83⟩, zq335, [.inRegion (rAt Tryz.f4 [1, 0]) ((rAt Tryz.f4 [1, 0]).toList.drop 4), .code (cAt Tryz.f4 [1, 1])], [], false⟩, (some 14)), (⟨⟨3, false, none, 101⟩, (zq326 b0 budget), [.inRegion (rAt Tryz.f3 [1, 0]) ((rAt Tryz.f3 [1, 0]).toList.drop 1), .code (cAt Tryz.f3 [1, 1])], [], false⟩, (some 20))],
  ⟨(zO (zN (zN (zN (zO (zO (zO .e (zO .e (zO .e (zO zq433 .e)))) (zO (zO (zL (.map [] 0)) (zO (zO zq409 .e) .e)) .e)) zq411) (zC [(zI 1), (.str [88]), (zI 0), (zI 0), (.str [])] 160) zq377) (zC [(.str [112]), (.sl 1 0 1 (some 1)), (zI 0), (zI 0), (.str [113]), (.sl 2 0 1 (some 1)), (zI 0), (zI 0)] 63) zq435) (zC [(zI 1)] 3) zq436) zq437), 1473, 0⟩⟩
end Go.Ev
namespace Go.Ev
open Go.Proofs
set_option maxRecDepth 1000000
set_option maxHeartbeats 0
set_option linter.all false
noncomputable def sAaU5 (b0 : Nat) (budget : Int) : OS := ⟨⟨⟨92, false, none, 55⟩, (zN (zN (zN zq423 (zP 1468 0) (zN (zL (zI 1)) (.sl 1177 0 1 none) (zL (.tup [])))) (.sl 1177 0 1 none) (zN zq424 (zP 1471 0) (zN (zL (zI 1)) (.sl 1469 0 1 (some 1)) .e))) (zP 911 0) (zN zq427 (zP 1467 0) (zN (zO (zL (.sl 1177 0 1 none)) (zL (zI 1))) (zP 1472 0) zq438))), [.inRegion (rAt Tryz.f92 [1, 1, 1, 1, 0]) ((rAt Tryz.f92 [1, 1, 1, 1, 0]).toList.drop 1), .code (cAt Tryz.f92 [1, 1, 1, 1, 1])], [], false⟩,
  [(⟨⟨35, false, none, 114⟩, zq429, [.inRegion (rAt Tryz.f35 [1, 1, 0]) ((rAt Tryz.f35 [1, 1, 0]).toList.drop 6), .code (cAt Tryz.f35 [1, 1, 1])], [], false⟩, (some 29)), (⟨⟨10, false, none, 169⟩, zq432, [.inRegion (rAt Tryz.f10 [1, 1, 1, 1, 1, 1, 1, 1, 1, 1, 1, 0, 1, 0, 0, 1, 0, 0, 1, 0]) ((rAt Tryz.f10 [1, 1, 1, 1, 1, 1, 1, 1, 1, 1, 1, 0, 1, 0, 0, 1, 0, 0, 1, 0]).toList.drop 3), .code (cAt Tryz.f10 [1, 1, 1, 1, 1, 1, 1, 1, 1, 1, 1, 0, 1, 0, 0, 1, 0, 0, 1, 1]), .inBlock 10, .code (cAt Tryz.f10 [1, 1, 1, 1, 1, 1, 1, 1, 1, 1, 1, 0, 1, 0, 0, 1, 1]), .inLoop (cAt Tryz.f10 [1, 1, 1, 1, 1, 1, 1, 1, 1, 1, 1, 0, 1, 0, 0]), .inBlock 9, .code (cAt Tryz.f10 [1, 1, 1, 1, 1, 1, 1, 1, 1, 1, 1, 1])], [], false⟩, (some 161)), (⟨⟨4, false, none, 83⟩, zq335, [.inRegion (rAt Tryz.f4 [1, 0]) ((rAt Tryz.f4 [1, 0]).toList.drop 4), .code (cAt Tryz.f4 [1, 1])], [], false⟩, (some 14)), (⟨⟨3, false, none, 101⟩, (zq326 b0 budget), [.inRegion (rAt Tryz.f3 [1, 0]) ((rAt Tryz.f3 [1, 0]).toList.drop 1), .code (cAt Tryz.f3 [1, 1])], [], false⟩, (some 20))],
  ⟨(zO (zN (zN (zN (zO (zO (zO .e (zO .e (zO .e (zO (zL .dead) .e)))) (zO (zO (zL (.map [] 0)) (zO (zO zq409 .e) .e)) .e)) zq411) (zC [(zI 1), (.str [88]), (zI 0), (zI 0), (.str [])] 160) zq377) (zC [(.str [112]), (.sl 1 0 1 (some 1)), (zI 0), (zI 0), (.str [113]), (.sl 2 0 1 (some 1)), (zI 0), (zI 0)] 63) zq435) (zC [(zI 1)] 3) zq436) zq437), 1811, 0⟩⟩
end Go.Ev
namespace Go.Ev
open Go.Proofs
set_option maxRecDepth 1000000
set_option maxHeartbeats 0
set_option linter.all false
noncomputable def sAaU6 (b0 : Nat) (budget : Int) : OS := ⟨⟨⟨92, false, none, 55⟩, (zN (zN (zN zq423 (zP 1845 0) (zN (zL (zI 1)) (.sl 1838 0 1 none) .e)) (.sl 1838 0 1 none) (zN zq439 (zP 1848 0) (zN (zL (zI 0)) (.sl 1846 0 1 (some 1)) .e))) (zP 911 0) (zN zq440 (zP 1844 0) (zN (zO (zL (.sl 1838 0 1 none)) .e) (zP 1849 0) zq428))), [.inRegion (rAt Tryz.f92 [1, 1, 1, 0, 1, 0, 0, 1, 1, 0, 0, 1, 1]) ((rAt Tryz.f92 [1, 1, 1, 0, 1, 0, 0, 1, 1, 0, 0, 1, 1]).toList.drop 1), .inBlock 1, .code (cAt Tryz.f92 [1, 1, 1, 0, 1, 0, 0, 1, 1, 1]), .inLoop (cAt Tryz.f92 [1, 1, 1, 0, 1, 0, 0]), .inBlock 0, .code (cAt Tryz.f92 [1, 1, 1, 1])], [], false⟩,
  [(⟨⟨35, false, none, 114⟩, zq445, [.inRegion (rAt Tryz.f35 [1, 1, 1, 0, 0, 0, 1, 1, 1, 1, 1]) ((rAt Tryz.f35 [1, 1, 1, 0, 0, 0, 1, 1, 1, 1, 1]).toList.drop 3), .inBlock 1, .inLoop (cAt Tryz.f35 [1, 1, 1, 0, 0]), .inBlock 0], [], false⟩, (some 113)), (⟨⟨10, false, none, 169⟩, zq432, [.inRegion (rAt Tryz.f10 [1, 1, 1, 1, 1, 1, 1, 1, 1, 1, 1, 0, 1, 0, 0, 1, 0, 0, 1, 0]) ((rAt Tryz.f10 [1, 1, 1, 1, 1, 1, 1, 1, 1, 1, 1, 0, 1, 0, 0, 1, 0, 0, 1, 0]).toList.drop 3), .code (cAt Tryz.f10 [1, 1, 1, 1, 1, 1, 1, 1, 1, 1, 1, 0, 1, 0, 0, 1, 0, 0, 1, 1]), .inBlock 10, .code (cAt Tryz.f10 [1, 1, 1, 1, 1, 1, 1, 1, 1, 1, 1, 0, 1, 0, 0, 1, 1]), .inLoop (cAt Tryz.f10 [1, 1, 1, 1, 1, 1, 1, 1, 1, 1, 1, 0, 1, 0, 0]), .inBlock 9, .code (cAt Tryz.f10 [1, 1, 1, 1, 1, 1, 1, 1, 1, 1, 1, 1])], [], false⟩, (some 161)), (⟨⟨4, false, none, 83⟩, zq335, [.inRegion (rAt Tryz.f4 [1, 0]) ((rAt Tryz.f4 [1, 0]).toList.drop 4), .code (cAt Tryz.f4 [1, 1])], [], false⟩, (some 14)), (⟨⟨3, false, none, 101⟩, (zq326 b0 budget), [.inRegion (rAt Tryz.f3 [1, 0]) ((rAt Tryz.f3 [1, 0]).toList.drop 1), .code (cAt Tryz.f3 [1, 1])], [], false⟩, (some 20))],
  ⟨(zO (zN (zN (zN zq412 (zC [(zI 1), (.str [88]), (zI 0), (zI 0), (.str [])] 160) (zO zq376 (zO (zO (zO (zL (zC [(zI 1), (.map 280), (.map 281), (.int .i32 0), (.int .u32 0), .nils, (.map 282)] 187)) .e) .e) (zO (zO (zO .e (zO .e (zL (zC [(.sl 1846 0 1 (some 1))] 285)))) .e) .e)))) (zC [(.str [112]), (.sl 1 0 1 (some 1)), (zI 0), (zI 0), (.str [113]), (.sl 2 0 1 (some 1)), (zI 0), (zI 0)] 63) (zO (zO .e (zO (zO (zO (zL (zC [(.sl 253 0 2 none), (.sl 273 0 1 none), (.sl 285 0 2 none), (.map 274), (.sl 292 0 1 (some 1)), (zI 1)] 91)) .e) .e) .e)) (zO .e (zO (zO (zO zq378 .e) .e) (zO .e (zL (zG [(zI 1)] 3))))))) (zC [(zI 1)] 3) (zN zq446 (zC [(zI 1), (.str [88]), (zI 0), (zI 0), (.str [])] 160) (zN zq447 (zC [(.str [112]), (.sl 12 0 1 (some 1))] 24) (zO (zO .e (zO (zO (zO .e (zO .e (zL (zC [(zI 1), (zI (-1)), (.sl 1416 0 1 none), (.sl 1455 0 1 none), (.sl 1833 0 1 (some 1))] 213)))) .e) .e)) zq347)))) (zN (zO (zN (zO (zO .e (zO (zO (zL (.map [] 0)) .e) .e)) .e) (zC [(zI 1), (.str [112]), (.sl 7 0 1 (some 1)), (zI 0), (zI 0), (.str []), (zI 0), (zI 0), (.str []), (zI 0), .nils, (zI 0), (.str []), (zI 0), (zI 0), (.str []), (zI 0), .nils, (zI 0), (.str []), (zI 0), (.str []), (zI 0), (zI 0), (.str []), (zI 0), .nils, .nils, (zI 0), (zI 0)] 77) (zO (zO (zO (zO .e (zO .e (zN zq409 (zC [(zI 0), (zI 0), (zI 0)] 85) .e))) .e) .e) (zO (zO (zO (zL (.map [⟨(.agg [(zI 1), (zI 1), (.str []), (zI 0), (zI 0), (.str []), (zI 0), (zI 0), (.str []), (zI 0), (zI 0), (.str []), (zI 0), (zI 0), (.str []), (zI 0), (zI 0), (.str []), (zI 0), (zI 0), (.str []), (zI 0), (zI 0), (.str [])]), (zP 1826 0), 0⟩] 1)) .e) .e) (zO (zO (zO .e (zO .e zq433)) .e) .e)))) (zN (zO (zO .e (zO (zO zq350 .e) .e)) (zO (zO (zO (zO .e (zO .e (zL (zC [(.str [112]), (.sl 295 0 1 none)] 24)))) (zO .e zq350)) .e) (zO (zO (zO .e (zO .e zq434)) .e) .e))) (zC [(zI 1), (zI 1), (.str [])] 69) zq448)) (zC [(zI 1)] 3) (zO (zO zq450 zq419) (zN (zO (zO .e (zO (zO .e (zO .e (zO (zL (zG [(zI 0)] 3)) .e))) .e)) (zO (zO (zO (zL .dead) .e) .e) (zO (zO (zO .e (zO .e (zL (zC [.nils] 247)))) .e) (zL (zG [(zI 1)] 3))))) (zC [(.sl 3 0 2 (some 2)), (.sl 9 0 1 (some 1))] 41) zq451)))), 1850, 0⟩⟩
end Go.Ev
namespace Go.Ev
open Go.Proofs
set_option maxRecDepth 1000000
set_option maxHeartbeats 0
set_option linter.all false
noncomputable def sAaU7 (b0 : Nat) (budget : Int) : OS := ⟨⟨⟨92, false, none, 55⟩, (zN (zN (zN zq423 (zP 1845 0) (zN (zL (zI 1)) (.sl 1838 0 1 none) (zL (.tup [])))) (.sl 1838 0 1 none) (zN zq439 (zP 1848 0) (zN (zL (zI 1)) (.sl 1846 0 1 (some 1)) .e))) (zP 911 0) (zN zq440 (zP 1844 0) (zN (zO (zL (.sl 1838 0 1 none)) (zL (zI 1))) (zP 1849 0) zq438))), [.inRegion (rAt Tryz.f92 [1, 1, 1, 1, 0]) ((rAt Tryz.f92 [1, 1, 1, 1, 0]).toList.drop 1), .code (cAt Tryz.f92 [1, 1, 1, 1, 1])], [], false⟩,
  [(⟨⟨35, false, none, 114⟩, zq445, [.inRegion (rAt Tryz.f35 [1, 1, 1, 0, 0, 0, 1, 1, 1, 1, 1]) ((rAt Tryz.f35 [1, 1, 1, 0, 0, 0, 1, 1, 1, 1, 1]).toList.drop 3), .inBlock 1, .inLoop (cAt Tryz.f35 [1, 1, 1, 0, 0]), .inBlock 0], [], false⟩, (some 113)), (⟨⟨10, false, none, 169⟩, zq432, [.inRegion (rAt Tryz.f10 [1, 1, 1, 1, 1, 1, 1, 1, 1, 1, 1, 0, 1, 0, 0, 1, 0, 0, 1, 0]) ((rAt Tryz.f10 [1, 1, 1, 1, 1, 1, 1, 1, 1, 1, 1, 0, 1, 0, 0, 1, 0, 0, 1, 0]).toList.drop 3), .code (cAt Tryz.f10 [1, 1, 1, 1, 1, 1, 1, 1, 1, 1, 1, 0, 1, 0, 0, 1, 0, 0, 1, 1]), .inBlock 10, .code (cAt Tryz.f10 [1, 1, 1, 1, 1, 1, 1, 1, 1, 1, 1, 0, 1, 0, 0, 1, 1]), .inLoop (cAt Tryz.f10 [1, 1, 1, 1, 1, 1, 1, 1, 1, 1, 1, 0, 1, 0, 0]), .inBlock 9, .code (cAt Tryz.f10 [1, 1, 1, 1, 1, 1, 1, 1, 1, 1, 1, 1])], [], false⟩, (some 161)), (⟨⟨4, false, none, 83⟩, zq335, [.inRegion (rAt Tryz.f4 [1, 0]) ((rAt Tryz.f4 [1, 0]).toList.drop 4), .code (cAt Tryz.f4 [1, 1])], [], false⟩, (some 14)), (⟨⟨3, false, none, 101⟩, (zq326 b0 budget), [.inRegion (rAt Tryz.f3 [1, 0]) ((rAt Tryz.f3 [1, 0]).toList.drop 1), .code (cAt Tryz.f3 [1, 1])], [], false⟩, (some 20))],
  ⟨(zO (zN (zN (zN (zO (zO .e (zO (zO (zL (.map [] 0)) (zO (zO zq409 .e) .e)) .e)) (zO (zO zq410 (zO .e (zO (zO (zO (zL (zG [(.str [112]), (.sl 2253 0 1 none)] 24)) .e) .e) .e))) (zO (zO .e (zO .e (zO (zL (zG [(zI 1), (zI 0), (.sl 1446 0 1 none), (.str [])] 375)) .e))) .e))) (zC [(zI 1), (.str [88]), (zI 0), (zI 0), (.str [])] 160) (zO zq376 (zO (zO (zO (zL (zC [(zI 1), (.map 280), (.map 281), (.int .i32 0), (.int .u32 0), (.sl 2203 0 1 none), (.map 282)] 187)) .e) .e) (zO (zO (zO .e (zO .e (zL (zC [(.sl 1846 0 1 (some 1))] 285)))) .e) .e)))) (zC [(.str [112]), (.sl 1 0 1 (some 1)), (zI 0), (zI 0), (.str [113]), (.sl 2 0 1 (some 1)), (zI 0), (zI 0)] 63) (zO (zO (zO .e (zO (zO .e (zO (zO (zO (zL (zG [(zP 1826 0)] 301)) .e) .e) .e)) .e)) (zO (zO (zO (zL (zC [(.sl 253 0 2 none), (.sl 273 0 1 none), (.sl 285 0 2 none), (.map 274), (.sl 292 0 1 (some 1)), (zI 1)] 91)) .e) .e) .e)) (zO .e (zO (zO (zO zq378 (zO (zO (zO (zL (zG [(zP 1826 0)] 301)) .e) .e) .e)) .e) (zO .e (zL (zG [(zI 1)] 3))))))) (zC [(zI 1)] 3) (zN zq446 (zC [(zI 1), (.str [88]), (zI 0), (zI 0), (.str [])] 160) (zN zq447 (zC [(.str [112]), (.sl 12 0 1 (some 1))] 24) (zO (zO (zO .e (zO .e (zO (zO (zO zq339 .e) .e) .e))) (zO (zO (zO .e (zO .e (zL (zC [(zI 1), (zI (-1)), (.sl 1416 0 1 none), (.sl 1455 0 1 none), (.sl 1833 0 1 (some 1))] 213)))) .e) .e)) zq347)))) (zN (zO (zN (zO (zO .e (zO (zO (zL (.map [] 0)) .e) .e)) .e) (zC [(zI 1), (.str [112]), (.sl 7 0 1 (some 1)), (zI 0), (zI 0), (.str []), (zI 0), (zI 0), (.str []), (zI 0), .nils, (zI 0), (.str []), (zI 0), (zI 0), (.str []), (zI 0), .nils, (zI 0), (.str []), (zI 0), (.str []), (zI 0), (zI 0), (.str []), (zI 0), .nils, .nils, (zI 0), (zI 0)] 77) (zO (zO (zO (zO .e (zO .e (zN zq409 (zC [(zI 0), (zI 0), (zI 0)] 85) .e))) .e) .e) (zO (zO (zO (zL (.map [⟨(.agg [(zI 1), (zI 1), (.str []), (zI 0), (zI 0), (.str []), (zI 0), (zI 0), (.str []), (zI 0), (zI 0), (.str []), (zI 0), (zI 0), (.str []), (zI 0), (zI 0), (.str []), (zI 0), (zI 0), (.str []), (zI 0), (zI 0), (.str [])]), (zP 1826 0), 0⟩] 1)) .e) .e) (zO (zO (zO .e (zO .e (zL .dead))) .e) .e)))) (zN (zO (zO .e (zO (zO zq350 .e) .e)) (zO (zO (zO (zO .e (zO .e (zL (zC [(.str [112]), (.sl 295 0 1 none)] 24)))) (zO (zO (zO (zL (.map [⟨(.agg [(zI 1), (zI 1), (.str []), (zI 0), (zI 0), (.str []), (zI 0), (zI 0), (.str []), (zI 0), (zI 0), (.str []), (zI 0), (zI 0), (.str []), (zI 0), (zI 0), (.str []), (zI 0), (zI 0), (.str []), (zI 0), (zI 0), (.str [])]), (.sl 2211 0 1 none), 0⟩] 1)) .e) .e) zq350)) .e) (zO (zO (zO .e (zO .e zq434)) .e) .e))) (zC [(zI 1), (zI 1), (.str [])] 69) zq448)) (zC [(zI 1)] 3) (zO (zO zq450 (zO (zO (zO (zO .e (zO .e zq418)) (zO .e (zO (zO (zO zq339 .e) .e) .e))) .e) (zO (zO (zO (zL (.map [⟨(.int .u16 1), (.map 2196), 0⟩] 1)) .e) (zO .e (zO (zO (zO (zL (zG [(zI 1), (.str [113]), (.sl 2250 0 1 none), (.sl 2255 0 1 none)] 151)) .e) .e) .e))) .e))) (zN (zO (zO .e (zO (zO .e (zO .e (zO (zL (zG [(zI 0)] 3)) .e))) .e)) (zO (zO (zO (zL .dead) .e) .e) (zO (zO (zO .e (zO .e (zL (zC [(.sl 2266 0 1 none)] 247)))) .e) (zL (zG [(zI 1)] 3))))) (zC [(.sl 3 0 2 (some 2)), (.sl 9 0 1 (some 1))] 41) zq451)))), 2268, 0⟩⟩
end Go.Ev
namespace Go.Ev
open Go.Proofs
set_option maxRecDepth 1000000
set_option maxHeartbeats 0
set_option linter.all false
noncomputable def sAaU8 (b0 : Nat) (budget : Int) : OS := ⟨⟨⟨10, false, none, 169⟩, (zN (zN (zN (zO zq430 (zN (zN zq357 (.bool false) (zN (zL (.tup [])) (.tup []) .e)) (zP 911 0) (zN (zN (zL (.bool false)) (zP 275 0) .e) (.agg [(.str [112]), (.sl 12 0 1 (some 1))]) (zL (zP 275 0))))) (zI 1) (zN (zN (zN zq359 (.bool false) zq359) (zI 0) zq387) (zP 226 0) zq389)) (.sl 13 0 1 (some 1)) (zO (zN (zN (zN zq361 (.bool false) zq300) (.sl 903 0 2 none) zq391) (zI 0) (zN zq392 (zI 9) (zN (zN (zL (zI 1)) (.map 274) .e) (.bool false) (zL (zP 275 4))))) (zO (zN (zN zq364 (.bool false) zq393) (zP 906 0) (zN (zN (zL (zI 1)) (.tup [(zP 286 0), (zI 0)]) .e) (.agg [(.str [112]), (.sl 12 0 1 (some 1))]) (zL (zP 292 0)))) zq394))) (.agg [(.sl 3 0 2 (some 2)), (.sl 9 0 1 (some 1))]) (zN (zN (zN zq431 .nilp (zN zq398 (.bool false) (zN (zN (zL (zI 0)) (zP 275 3) .e) (zI 0) (zL (zP 275 0))))) (zP 14 0) (zN (zO (zN zq371 (zI 1) (zN (zL (zI 9)) (zP 275 0) .e)) zq400) (zP 275 0) zq401)) (zI 9) (zO (zO (zN (zN zq403 (.bool false) (zN (zL (.bool false)) (zI 2) .e)) (zP 904 0) zq404) zq405) (zN (zN (zN zq373 (.bool false) (zN (zL (zP 275 0)) (.sl 285 0 2 none) .e)) (zI 1) zq406) (zP 283 0) zq407)))), [.inRegion (rAt Tryz.f10 [1, 1, 1, 1, 1, 1, 1, 1, 1, 1, 1, 1, 1, 0]) ((rAt Tryz.f10 [1, 1, 1, 1, 1, 1, 1, 1, 1, 1, 1, 1, 1, 0]).toList.drop 2), .code (cAt Tryz.f10 [1, 1, 1, 1, 1, 1, 1, 1, 1, 1, 1, 1, 1, 1])], [], false⟩,
  [(⟨⟨4, false, none, 83⟩, zq335, [.inRegion (rAt Tryz.f4 [1, 0]) ((rAt Tryz.f4 [1, 0]).toList.drop 4), .code (cAt Tryz.f4 [1, 1])], [], false⟩, (some 14)), (⟨⟨3, false, none, 101⟩, (zq326 b0 budget), [.inRegion (rAt Tryz.f3 [1, 0]) ((rAt Tryz.f3 [1, 0]).toList.drop 1), .code (cAt Tryz.f3 [1, 1])], [], false⟩, (some 20))],
  ⟨(zO (zN (zN (zN (zO (zO .e (zO (zO zq340 (zO (zO zq409 .e) .e)) .e)) zq411) (zC [(zI 1), (.str [88]), (zI 0), (zI 0), (.str [])] 160) (zO zq376 (zO (zO (zO (zL (zC [(zI 1), (.map 280), (.map 281), (.int .i32 0), (.int .u32 0), (.sl 2203 0 1 none), (.map 282)] 187)) .e) .e) .e))) (zC [(.str [112]), (.sl 1 0 1 (some 1)), (zI 0), (zI 0), (.str [113]), (.sl 2 0 1 (some 1)), (zI 0), (zI 0)] 63) (zO zq452 (zO .e (zO (zO (zO zq378 (zO (zO (zO (zL (zG [(zP 1826 0)] 301)) .e) .e) .e)) .e) (zO .e (zL (zG [(zI 1)] 3))))))) (zC [(zI 1)] 3) (zN (zN zq344 (zC [(.str [113]), (.sl 5 0 1 (some 1)), (.sl 8 0 1 (some 1)), (zI 0), (zI 0)] 79) (zO .e (zO (zO (zO zq345 (zO (zO (zL (zG [(zI 1), (zI (-1)), .nils, (.sl 1170 0 1 none), .nils] 213)) .e) .e)) .e) .e))) (zC [(zI 1), (.str [88]), (zI 0), (zI 0), (.str [])] 160) (zN zq414 (zC [(.str [112]), (.sl 12 0 1 (some 1))] 24) zq348))) (zN (zO (zN (zO (zO .e (zO (zO zq345 .e) .e)) .e) (zC [(zI 1), (.str [112]), (.sl 7 0 1 (some 1)), (zI 0), (zI 0), (.str []), (zI 0), (zI 0), (.str []), (zI 0), .nils, (zI 0), (.str []), (zI 0), (zI 0), (.str []), (zI 0), .nils, (zI 0), (.str []), (zI 0), (.str []), (zI 0), (zI 0), (.str []), (zI 0), .nils, .nils, (zI 0), (zI 0)] 77) (zO (zO (zO (zO .e (zO .e (zN zq409 (zC [(zI 0), (zI 0), (zI 0)] 85) .e))) .e) .e) (zO (zO (zO (zL (.map [⟨(.agg [(zI 1), (zI 1), (.str []), (zI 0), (zI 0), (.str []), (zI 0), (zI 0), (.str []), (zI 0), (zI 0), (.str []), (zI 0), (zI 0), (.str []), (zI 0), (zI 0), (.str []), (zI 0), (zI 0), (.str []), (zI 0), (zI 0), (.str [])]), (zP 1826 0), 0⟩] 1)) .e) .e) .e))) (zN zq453 (zC [(zI 1), (zI 1), (.str [])] 69) (zO (zO .e (zO (zO .e (zO .e (zO (zO .e zq339) .e))) .e)) (zO (zO (zO (zL (zC [(.str [113])] 9)) .e) .e) .e)))) (zC [(zI 1)] 3) (zO (zO (zO zq449 (zO (zO (zO zq351 (zO (zO zq417 .e) (zL (.map [] 2)))) .e) .e)) (zO (zO (zO (zO .e (zO .e zq418)) .e) .e) (zO (zO (zO (zL (.map [⟨(.int .u16 1), (.map 2196), 0⟩] 1)) .e) .e) .e))) zq422))), 3504, 0⟩⟩
end Go.Ev
namespace Go.Ev
open Go.Proofs
set_option maxRecDepth 1000000
set_option maxHeartbeats 0
set_option linter.all false
noncomputable def sAaU9 (b0 : Nat) (budget : Int) : OS := ⟨⟨⟨4, false, none, 83⟩, (zN (zN (zO (zO (zL (zP 275 0)) .e) (zN (zL (.bool false)) (.agg [(.sl 3 0 2 (some 2)), (.sl 9 0 1 (some 1))]) .e)) (zP 275 0) (zO (zO (zL (zP 275 0)) (zL (.agg [(.str [113]), (.sl 3506 0 1 (some 1))]))) (zN (zL (.bool false)) (.sl 13 0 1 (some 1)) .e))) (.bool false) (zN (zO (zO (zL (zI 0)) (zL (zP 275 0))) (zN (zL (zI 0)) (.agg [(.str [112]), (.sl 12 0 1 (some 1))]) .e)) (zI 0) (zO (zN (zL (.bool false)) (.tup [(zP 275 0), (zI 0)]) (zL (.tup [(.agg [(.str [113]), (.sl 4863 0 1 none), (zI 1), (.sl 4864 0 1 (some 1))]), (zI 0)]))) (zN (zL (.bool false)) (.tup [(zP 275 0), (zI 0)]) .e)))), [.inRegion (rAt Tryz.f4 [1, 1, 1, 0]) ((rAt Tryz.f4 [1, 1, 1, 0]).toList.drop 3), .code (cAt Tryz.f4 [1, 1, 1, 1])], [], false⟩,
  [(⟨⟨3, false, none, 101⟩, (zq326 b0 budget), [.inRegion (rAt Tryz.f3 [1, 0]) ((rAt Tryz.f3 [1, 0]).toList.drop 1), .code (cAt Tryz.f3 [1, 1])], [], false⟩, (some 20))],
  ⟨(zO (zN (zN zq342 (zC [(.str [112]), (.sl 1 0 1 (some 1)), (zI 0), (zI 0), (.str [113]), (.sl 2 0 1 (some 1)), (zI 0), (zI 0)] 63) (zO zq452 (zO .e zq343))) (zC [(zI 1)] 3) (zN (zN zq344 (zC [(.str [113]), (.sl 5 0 1 (some 1)), (.sl 8 0 1 (some 1)), (zI 0), (zI 0)] 79) (zO .e (zO (zO (zO zq345 .e) .e) .e))) (zC [(zI 1), (.str [88]), (zI 0), (zI 0), (.str [])] 160) zq349)) (zN (zO (zN (zO (zO (zO (zO (zO .e (zO .e (zO (zO (zL (zC [(.str [112]), (.sl 4872 0 1 none), (zI 0), .nils] 32)) .e) .e))) .e) .e) (zO (zO zq345 .e) .e)) .e) (zC [(zI 1), (.str [112]), (.sl 7 0 1 (some 1)), (zI 0), (zI 0), (.str []), (zI 0), (zI 0), (.str []), (zI 0), .nils, (zI 0), (.str []), (zI 0), (zI 0), (.str []), (zI 0), .nils, (zI 0), (.str []), (zI 0), (.str []), (zI 0), (zI 0), (.str []), (zI 0), .nils, .nils, (zI 0), (zI 0)] 77) (zO (zO (zO (zO (zO .e (zO .e (zO (zO zq339 .e) .e))) .e) .e) .e) (zO (zO (zO (zL (.map [⟨(.agg [(zI 1), (zI 1), (.str []), (zI 0), (zI 0), (.str []), (zI 0), (zI 0), (.str []), (zI 0), (zI 0), (.str []), (zI 0), (zI 0), (.str []), (zI 0), (zI 0), (.str []), (zI 0), (zI 0), (.str []), (zI 0), (zI 0), (.str [])]), (zP 1826 0), 0⟩] 1)) .e) .e) .e))) (zN zq453 (zC [(zI 1), (zI 1), (.str [])] 69) (zO (zO .e (zO (zO .e (zO .e (zO (zO .e zq339) .e))) .e)) .e))) (zC [(zI 1)] 3) (zO (zO (zO (zO (zO (zO zq34 .e) .e) (zO (zO (zO .e (zO .e (zL (zC [(.sl 1825 0 1 none), (zI 0), (zI 0)] 303)))) .e) .e)) zq352) (zO .e (zO (zO (zO (zL (.map [⟨(.int .u16 1), (.map 2196), 0⟩] 1)) .e) .e) .e))) (zO (zO .e (zO .e (zO .e (zL (zG [(zI 1)] 3))))) (zO .e (zO (zO (zO (zL (zC [(zI 1), (.map 287), (.map 288), (.int .i32 0), (.int .u32 0), .nils, (.map 289)] 187)) .e) .e) .e)))))), 4873, 0⟩⟩
end Go.Ev
namespace Go.Ev
open Go.Proofs
set_option maxRecDepth 1000000
set_option maxHeartbeats 0
set_option linter.all false
noncomputable def sAaU10 (b0 : Nat) (budget : Int) : OS := ⟨⟨⟨4, false, none, 83⟩, (zN (zN (zN (zN (zN (zN (zL (.bool true)) (.agg [(.str [113]), (.sl 4876 0 1 (some 1))]) .e) (zP 275 0) (zL (.bool true))) (.sl 4980 0 2 none) (zN (zN (zL (.bool true)) (.tup [(.agg [(.str [113]), (.sl 4994 0 1 none), (zI 1), (.sl 4995 0 1 (some 1))]), (zI 0)]) .e) (.tup [(.agg [(.str [113]), (.sl 4863 0 1 none), (zI 1), (.sl 4864 0 1 (some 1))]), (zI 0)]) (zL (.sl 4864 0 1 (some 1))))) (zP 4873 0) (zN (zN (zN (zL (.bool true)) (.agg [(.str [113]), (.sl 4863 0 1 none), (zI 1), (.sl 4864 0 1 (some 1))]) .e) (.bool false) (zL (.bool true))) (.agg [(.sl 3 0 2 (some 2)), (.sl 9 0 1 (some 1))]) (zN (zN (zL (zI 1)) (.bool true) .e) (.agg [(.str [113]), (.sl 4863 0 1 none), (zI 1), (.sl 4864 0 1 (some 1))]) (zL (.bool true))))) (zP 275 0) (zN (zN (zN (zN (zL (zI 0)) (.agg [(.str []), .nils, (zI 0), .nils]) .e) (zP 275 0) (zL (zP 4873 2))) (zI 0) (zN zq300 (.agg [(.str [113]), (.sl 3506 0 1 (some 1))]) (zL (.bool true)))) (zP 4936 0) (zN (zN (zN (zL (.agg [(.str [113]), (.sl 4994 0 1 none), (zI 1), (.sl 4995 0 1 (some 1))])) (.tup [(.agg [(.str [113]), (.sl 4994 0 1 none), (zI 1), (.sl 4995 0 1 (some 1))]), (zI 0)]) .e) (.bool false) (zL (.bool true))) (.sl 13 0 1 (some 1)) (zN (zL (zI 150)) (.tup [(.agg [(.str []), .nils, (zI 0), .nils]), (zI 150)]) (zL (zI 2)))))) (.bool false) (zN (zN (zN (zN zq325 (zI 0) (zL (.bool true))) (zP 5004 0) (zN (zN (zL (.bool true)) (.agg [(.str [113]), (.sl 4994 0 1 none), (zI 1), (.sl 4995 0 1 (some 1))]) .e) (zP 275 0) (zL (zI 1)))) (zI 0) (zN (zN (zN (zL (.bool true)) (.sl 4980 0 2 none) .e) (zI 0) (zL (.bool true))) (.agg [(.str [112]), (.sl 12 0 1 (some 1))]) (zN (zL (.bool true)) (zI 0) (zL (.sl 4980 0 2 none))))) (zI 0) (zN (zN (zN zq324 (.bool false) (zL (zI 1))) (.tup [(zP 275 0), (zI 0)]) (zN (zN zq338 (zI 0) .e) (.tup [(.agg [(.str [113]), (.sl 4863 0 1 none), (zI 1), (.sl 4864 0 1 (some 1))]), (zI 0)]) (zL (.bool true)))) (zI 150) (zN (zN (zN zq338 (.sl 4980 0 2 none) .e) (.bool false) (zL (zP 4873 3))) (.tup [(zP 275 0), (zI 0)]) (zN (zL (.bool true)) (zP 275 0) (zL (.bool true))))))), [.inRegion (rAt Tryz.f4 [1, 1, 1, 1, 1, 1, 1, 0]) ((rAt Tryz.f4 [1, 1, 1, 1, 1, 1, 1, 0]).toList.drop 34), .code (cAt Tryz.f4 [1, 1, 0, 1, 0, 1])], [], false⟩,
  [(⟨⟨3, false, none, 101⟩, (zq326 b0 budget), [.inRegion (rAt Tryz.f3 [1, 0]) ((rAt Tryz.f3 [1, 0]).toList.drop 1), .code (cAt Tryz.f3 [1, 1])], [], false⟩, (some 20))],
  ⟨(zO (zN (zN zq342 (zC [(.str [112]), (.sl 1 0 1 (some 1)), (zI 0), (zI 0), (.str [113]), (.sl 2 0 1 (some 1)), (zI 0), (zI 0)] 63) (zO (zO (zO (zO (zO .e (zO .e (zO .e (zO (zO (zL (zC [(.str [112]), (.sl 5003 0 1 none), (zI 0), .nils] 32)) .e) .e)))) .e) (zO (zO .e (zO (zO (zO (zL (zG [(zP 1826 0)] 301)) .e) .e) .e)) .e)) (zO (zO (zO (zL (zC [(.sl 253 0 2 none), (.sl 273 0 1 none), (.sl 285 0 2 none), (.map 274), (.sl 292 0 1 (some 1)), (zI 2)] 91)) .e) .e) .e)) (zO (zO (zO (zO .e (zO .e (zO .e (zO (zO zq339 .e) .e)))) .e) .e) zq343))) (zC [(zI 1)] 3) (zN (zN zq344 (zC [(.str [113]), (.sl 5 0 1 (some 1)), (.sl 8 0 1 (some 1)), (zI 0), (zI 0)] 79) (zO (zO (zO (zO (zO .e (zO .e (zO (zO (zL (zC [(.str [113]), (.sl 4863 0 1 none), (zI 1), (.sl 4864 0 1 (some 1))] 32)) .e) .e))) .e) .e) .e) (zO (zO (zO zq345 .e) .e) .e))) (zC [(zI 1), (.str [88]), (zI 0), (zI 0), (.str [])] 160) zq349)) (zN (zO (zN (zO (zO (zO (zO (zO .e (zO .e (zO (zO (zL (zC [(.str [112]), (.sl 4872 0 1 none), (zI 0), .nils] 32)) .e) .e))) .e) .e) (zO (zO zq345 .e) .e)) .e) (zC [(zI 1), (.str [112]), (.sl 7 0 1 (some 1)), (zI 0), (zI 0), (.str []), (zI 0), (zI 0), (.str []), (zI 0), .nils, (zI 0), (.str []), (zI 0), (zI 0), (.str []), (zI 0), .nils, (zI 0), (.str []), (zI 0), (.str []), (zI 0), (zI 0), (.str []), (zI 0), .nils, .nils, (zI 0), (zI 0)] 77) (zO (zO (zO (zO (zO .e (zO .e (zO (zO zq339 .e) .e))) .e) (zO (zO .e (zO .e (zO (zO zq10 .e) .e))) .e)) .e) (zO (zO (zO (zL (.map [⟨(.agg [(zI 1), (zI 1), (.str []), (zI 0), (zI 0), (.str []), (zI 0), (zI 0), (.str []), (zI 0), (zI 0), (.str []), (zI 0), (zI 0), (.str []), (zI 0), (zI 0), (.str []), (zI 0), (zI 0), (.str []), (zI 0), (zI 0), (.str [])]), (zP 1826 0), 0⟩] 1)) .e) .e) .e))) (zN (zO (zO .e (zO (zO zq350 .e) .e)) (zO (zO (zO .e (zO (zO (zO (zL (.map [⟨(.agg [(zI 1), (zI 1), (.str []), (zI 0), (zI 0), (.str []), (zI 0), (zI 0), (.str []), (zI 0), (zI 0), (.str []), (zI 0), (zI 0), (.str []), (zI 0), (zI 0), (.str []), (zI 0), (zI 0), (.str []), (zI 0), (zI 0), (.str [])]), (.sl 2211 0 1 none), 0⟩] 1)) .e) .e) .e)) .e) (zO .e (zO (zO .e (zO .e (zO (zO (zL (zG [(.str [112]), (.sl 4950 0 1 none), (zI 0), .nils, (.str [113]), (.sl 4962 0 1 none), (zI 1), (.sl 4958 0 1 none)] 123)) .e) .e))) .e)))) (zC [(zI 1), (zI 1), (.str [])] 69) (zO (zO (zO (zO (zO .e (zO .e (zO (zO (zL (zC [(zI 1), (zI 2), (.str [])] 69)) .e) .e))) (zO .e (zO .e (zO (zO (zL (zC [(.str [113]), (.sl 4994 0 1 none), (zI 1), (.sl 4995 0 1 (some 1))] 32)) .e) .e)))) .e) (zO (zO .e (zO .e (zO (zO .e zq339) .e))) .e)) .e))) (zC [(zI 1)] 3) (zO (zO (zO (zO (zO (zO zq34 (zO .e (zO .e (zO (zO zq339 .e) .e)))) .e) (zO (zO (zO .e (zO .e (zL (zC [(.sl 1825 0 1 none), (zI 0), (zI 0)] 303)))) .e) (zO (zO .e (zO .e (zO (zO zq339 .e) .e))) .e))) zq352) (zO .e (zO (zO (zO (zL (.map [⟨(.int .u16 1), (.map 2196), 0⟩] 1)) .e) .e) .e))) (zO (zO .e (zO (zO .e (zO (zO .e (zO .e (zO (zO zq339 .e) .e))) .e)) (zO .e (zL (zG [(zI 1)] 3))))) (zO .e (zO (zO (zO (zL (zC [(zI 1), (.map 287), (.map 288), (.int .i32 0), (.int .u32 0), .nils, (.map 289)] 187)) .e) (zO (zO .e (zO .e (zO (zO (zL (zG [(zI 0)] 3)) .e) .e))) .e)) .e)))))), 5026, 0⟩⟩
end Go.Ev
namespace Go.Ev
open Go.Proofs
set_option maxRecDepth 1000000
set_option maxHeartbeats 0
set_option linter.all false
noncomputable def sAaU11 (b0 : Nat) (budget : Int) : OS := ⟨⟨⟨3, false, none, 101⟩, (zO (zN .e (zI budget) (zL (.bool true))) (zN (zN .e (.bool false) (zO (zL (.bool true)) .e)) (zP (OLD + b0) 0) .e)), [.code (cAt Tryz.f3 [1, 1])], [], false⟩,
  [],
  ⟨.e, 5030, 0⟩⟩
end Go.Ev
namespace Go.Ev
open Go.Proofs
set_option maxRecDepth 1000000
set_option maxHeartbeats 0
set_option linter.all false
noncomputable def sAaW0 (b0 : Nat) (budget : Int) (e1 : Int) : OS := ⟨⟨⟨3, false, none, 101⟩, (zO (zq282 budget) (zN zq283 (zP (OLD + b0) 0) (zq284 e1))), [.code (cAt Tryz.f3 [1, 1, 1, 1, 1, 1, 1, 1, 0]), .code (cAt Tryz.f3 [1, 1, 1, 1, 1, 1, 1, 1, 1])], [], false⟩, [], ⟨(zO (zO zq454 (zO (zO (zO .e (zO .e (zO (zO .e (zO .e (zO .e (zO (zO zq1 .e) .e)))) .e))) .e) (zO .e (zO (zO .e (zO (zO .e (zO .e (zO .e (zO (zO (zL (zC [(.str [112]), (.sl 5035 0 1 (some 1)), (zI 0), (zI 0), (.str [113]), (.sl 5036 0 1 (some 1)), (zI 0), (zI 0)] 63)) .e) .e)))) .e)) .e)))) zq455), 5045, 0⟩⟩
end Go.Ev
namespace Go.Ev
open Go.Proofs
set_option maxRecDepth 1000000
set_option maxHeartbeats 0
set_option linter.all false
noncomputable def sAaW1 (b0 : Nat) (budget : Int) (e1 : Int) : OS := ⟨⟨⟨10, false, none, 169⟩, (zN (zN zq328 .nils (zO (zN (zO (zL (.bool false)) .e) (zI 0) (zN (zL (zI 0)) (zI 1) .e)) zq330)) (.agg [(.sl 5037 0 2 (some 2)), (.sl 5043 0 1 (some 1))]) (zN (zN (zN (zO (zL (zI 1)) .e) .nilp (zN (zL .nils) (.bool false) .e)) (zP 5045 0) (zO (zO (zL (zI 1)) .e) (zN zq456 (zI 1) .e))) (zI 1) zq333)), [.inRegion (rAt Tryz.f10 [1, 0, 0, 1, 1, 1, 1, 0]) ((rAt Tryz.f10 [1, 0, 0, 1, 1, 1, 1, 0]).toList.drop 2), .code (cAt Tryz.f10 [1, 0, 0, 1, 1, 1, 1, 1]), .inBlock 0, .code (cAt Tryz.f10 [1, 1])], [], false⟩,
  [(⟨⟨3, false, none, 101⟩, (zq458 b0 budget e1), [.inRegion (rAt Tryz.f3 [1, 1, 1, 1, 1, 1, 1, 1, 0]) ((rAt Tryz.f3 [1, 1, 1, 1, 1, 1, 1, 1, 0]).toList.drop 2), .code (cAt Tryz.f3 [1, 1, 1, 1, 1, 1, 1, 1, 1])], [], false⟩, (some 47))],
  ⟨(zO (zO zq454 (zO (zO (zO .e (zO .e (zO (zO .e (zO .e (zO .e (zO (zO zq1 .e) .e)))) .e))) .e) zq8)) zq455), 5257, 0⟩⟩
end Go.Ev
namespace Go.Ev
open Go.Proofs
set_option maxRecDepth 1000000
set_option maxHeartbeats 0
set_option linter.all false
noncomputable def sAaW2 (b0 : Nat) (budget : Int) (e1 : Int) : OS := ⟨⟨⟨10, false, none, 169⟩, (zN (zN (zN (zO (zO zq460 (zN (zL (zP 5299 0)) (.bool false) (zL (zP 5291 4)))) (zO zq462 (zO (zL (zP 5291 0)) .e))) (zI 1) (zO (zO zq463 (zN (zL (zP 5291 0)) (.bool false) (zL (.bool false)))) (zN (zN (zL (zP 5291 0)) (.bool false) (zL (zP 5291 0))) (.bool false) (zN (zL (.str [113])) (.agg [(.sl 5037 0 2 (some 2)), (.sl 5043 0 1 (some 1))]) .e)))) .nils (zO (zN (zO zq464 (zN (zL (.sl 5300 0 1 (some 1))) (zI 0) (zL (zI 0)))) (zI 0) (zN (zN (zL (.agg [(.str [113]), (.sl 5267 0 1 none), (zI 0), (zI 0)])) (zI 0) (zL .nils)) (zI 1) (zO (zL (.map 5290)) .e))) (zO (zO zq465 (zO zq459 .e)) (zN (zN (zL (zP 5291 2)) (.agg [(zI 0), (zI 0), (zI 0)]) (zL (zP 5291 0))) (.bool false) (zN (zL (.sl 5267 0 1 none)) (.map 5290) .e))))) (.agg [(.sl 5037 0 2 (some 2)), (.sl 5043 0 1 (some 1))]) (zN (zN (zN (zO zq466 (zN (zL (.str [113])) .nils (zL .nils))) .nilp (zN (zN (zL (zP 5269 4)) .nils (zL (zP 5291 0))) (.bool false) (zO (zL (zP 5291 3)) .e))) (zP 5045 0) (zN (zO zq467 (zO (zL (zP 5291 2)) .e)) (zP 5291 0) (zN (zN (zL (zP 5291 0)) (.agg [(.sl 5037 0 2 (some 2)), (.sl 5043 0 1 (some 1))]) (zL (zP 5291 4))) (zI 1) (zN (zL (zP 5299 1)) (.agg [(.sl 5269 0 2 none), (.sl 5289 0 1 none)]) .e)))) (zI 1) (zO (zO (zO (zN (zL (zP 5291 0)) (.bool false) (zL (zI 2))) (zN (zL (.sl 5301 0 2 none)) (zI 0) (zL (zI 0)))) (zN (zN (zL (zP 5291 0)) (.bool false) (zL .nils)) (.bool false) (zO (zL (zP 5299 0)) .e))) (zN (zO zq468 (zO (zL (zP 5291 0)) .e)) (zP 5299 0) (zN (zN (zL (.sl 5294 0 1 none)) (zI 0) (zL (zP 5291 0))) (.bool false) (zN (zL (zI 1)) (.agg [(.sl 5269 0 2 none), (.sl 5289 0 1 none), .nils, (.map 5290), .nils, (zI 0)]) .e)))))), [.inRegion (rAt Tryz.f10 [1, 1, 1, 1, 1, 1, 1, 1, 0]) ((rAt Tryz.f10 [1, 1, 1, 1, 1, 1, 1, 1, 0]).toList.drop 5), .code (cAt Tryz.f10 [1, 1, 1, 1, 1, 1, 1, 1, 1])], [], false⟩,
  [(⟨⟨3, false, none, 101⟩, (zq458 b0 budget e1), [.inRegion (rAt Tryz.f3 [1, 1, 1, 1, 1, 1, 1, 1, 0]) ((rAt Tryz.f3 [1, 1, 1, 1, 1, 1, 1, 1, 0]).toList.drop 2), .code (cAt Tryz.f3 [1, 1, 1, 1, 1, 1, 1, 1, 1])], [], false⟩, (some 47))],
  ⟨(zO (zO (zO zq88 (zO (zO .e zq469) (zO (zO .e (zO (zO .e (zO (zO (zO .e (zO (zL (zC [(.sl 5269 0 2 none), (.sl 5289 0 1 none), (.sl 5301 0 2 none), (.map 5290), .nils, (zI 0)] 91)) .e)) .e) (zO .e (zO (zO (zL (zC [(zI 1)] 3)) .e) .e)))) .e)) .e))) (zO zq92 (zO (zO .e (zO (zO (zO .e (zO (zO (zO .e (zO (zL (zG [(.str [112]), (.sl 5262 0 1 none), (zI 0), (zI 0), (.str [113]), (.sl 5267 0 1 none), (zI 0), (zI 0)] 63)) .e)) .e) .e)) .e) (zO (zO .e (zO (zO (zO .e (zO (zL (zG [(.str [112]), (.str [113])] 9)) .e)) .e) (zO .e (zO (zO (zL (zC [(.sl 5037 0 2 (some 2)), (.sl 5043 0 1 (some 1))] 41)) .e) .e)))) .e))) (zO (zO .e (zO (zO .e (zO .e (zO .e (zO (zO (zL (zC [(.str [112]), (.sl 5035 0 1 (some 1)), (zI 0), (zI 0), (.str [113]), (.sl 5036 0 1 (some 1)), (zI 0), (zI 0)] 63)) .e) .e)))) .e)) .e)))) (zO (zO zq96 (zO (zO .e (zO .e (zO (zO .e zq470) .e))) (zO (zO .e (zO (zO .e (zO .e (zO .e (zO (zO (zL (zC [(zI 1)] 3)) .e) .e)))) .e)) .e))) (zO (zO (zO .e (zO .e (zO (zO .e (zO (zO (zO .e (zO (zL (.map [] 0)) .e)) .e) (zO .e (zO (zO (zL (zC [(zI 1), (.str [112]), (.sl 5041 0 1 (some 1)), (zI 0), (zI 0), (.str []), (zI 0), (zI 0), (.str []), (zI 0), .nils, (zI 0), (.str []), (zI 0), (zI 0), (.str []), (zI 0), .nils, (zI 0), (.str []), (zI 0), (.str []), (zI 0), (zI 0), (.str []), (zI 0), .nils, .nils, (zI 0), (zI 0)] 77)) .e) .e)))) .e))) zq471) (zO (zO .e (zO .e (zO (zO .e (zO (zO (zO .e (zO (zL (zC [(zI 1), (.map 5303), (.map 5304), (.int .i32 0), (.int .u32 0), .nils, (.map 5305)] 187)) .e)) .e) .e)) .e))) (zO (zO (zO (zO .e (zO (zO (zO .e (zO (zL (zG [(zI 1)] 3)) .e)) .e) .e)) .e) (zO (zO .e (zO (zO (zO .e (zO (zL .dead) .e)) .e) .e)) .e)) .e))))), 5915, 0⟩⟩
end Go.Ev
namespace Go.Ev
open Go.Proofs
set_option maxRecDepth 1000000
set_option maxHeartbeats 0
set_option linter.all false
noncomputable def sAaW3 (b0 : Nat) (budget : Int) (e1 : Int) : OS := ⟨⟨⟨10, false, none, 169⟩, (zN (zN (zN (zO (zO zq460 zq472) (zO zq462 (zO zq296 .e))) (zI 1) zq475) .nils zq476) (.agg [(.sl 5037 0 2 (some 2)), (.sl 5043 0 1 (some 1))]) (zN (zN (zN (zO zq466 zq477) .nilp zq478) (zP 5045 0) zq479) (zI 1) zq480)), [.inRegion (rAt Tryz.f10 [1, 1, 1, 1, 1, 1, 1, 1, 1, 1, 1, 0, 1, 0, 0, 1, 0, 0, 0]) ((rAt Tryz.f10 [1, 1, 1, 1, 1, 1, 1, 1, 1, 1, 1, 0, 1, 0, 0, 1, 0, 0, 0]).toList.drop 5), .code (cAt Tryz.f10 [1, 1, 1, 1, 1, 1, 1, 1, 1, 1, 1, 0, 1, 0, 0, 1, 0, 0, 1]), .inBlock 10, .code (cAt Tryz.f10 [1, 1, 1, 1, 1, 1, 1, 1, 1, 1, 1, 0, 1, 0, 0, 1, 1]), .inLoop (cAt Tryz.f10 [1, 1, 1, 1, 1, 1, 1, 1, 1, 1, 1, 0, 1, 0, 0]), .inBlock 9, .code (cAt Tryz.f10 [1, 1, 1, 1, 1, 1, 1, 1, 1, 1, 1, 1])], [], false⟩,
  [(⟨⟨3, false, none, 101⟩, (zq458 b0 budget e1), [.inRegion (rAt Tryz.f3 [1, 1, 1, 1, 1, 1, 1, 1, 0]) ((rAt Tryz.f3 [1, 1, 1, 1, 1, 1, 1, 1, 0]).toList.drop 2), .code (cAt Tryz.f3 [1, 1, 1, 1, 1, 1, 1, 1, 1])], [], false⟩, (some 47))],
  ⟨(zO (zO (zO zq481 (zO zq482 (zO (zO .e (zO (zO .e (zO (zO (zO .e (zO (zL (zC [(.sl 5269 0 2 none), (.sl 5289 0 1 none), (.sl 5301 0 2 none), (.map 5290), .nils, (zI 0)] 91)) .e)) .e) (zO .e (zO (zO (zL (zC [(zI 1)] 3)) .e) .e)))) .e)) (zO (zO (zO (zO .e (zO .e (zO .e (zO (zL (zC [(zI 0), (zI 0), (zI 0)] 85)) .e)))) .e) .e) .e)))) (zO (zO zq483 zq91) (zO (zO .e (zO (zO (zO .e (zO (zO (zO .e (zO (zL (zG [(.str [112]), (.sl 5262 0 1 none), (zI 0), (zI 0), (.str [113]), (.sl 5267 0 1 none), (zI 0), (zI 0)] 63)) .e)) .e) .e)) .e) (zO (zO .e (zO (zO (zO .e (zO (zL (zG [(.str [112]), (.str [113])] 9)) .e)) .e) (zO .e (zO (zO (zL (zC [(.sl 5037 0 2 (some 2)), (.sl 5043 0 1 (some 1))] 41)) .e) .e)))) .e))) (zO (zO .e (zO (zO (zO (zO (zO (zO .e zq409) .e) .e) .e) (zO .e (zO .e (zO (zO (zL (zC [(.str [112]), (.sl 5035 0 1 (some 1)), (zI 0), (zI 0), (.str [113]), (.sl 5036 0 1 (some 1)), (zI 0), (zI 0)] 63)) .e) .e)))) .e)) zq484)))) (zO (zO zq485 (zO (zO .e (zO .e (zO (zO (zO .e (zO (zO (zO .e (zL (zG [(zI 0)] 3))) .e) .e)) zq470) .e))) (zO (zO .e (zO (zO .e (zO .e (zO .e (zO (zO (zL (zC [(zI 1)] 3)) .e) .e)))) .e)) .e))) (zO (zO zq486 zq471) (zO (zO .e (zO (zO (zO (zO .e (zO (zO (zO .e zq409) .e) .e)) .e) .e) (zO (zO .e (zO (zO (zO .e (zO (zL (zC [(zI 1), (.map 5303), (.map 5304), (.int .i32 0), (.int .u32 0), .nils, (.map 5305)] 187)) .e)) .e) .e)) .e))) (zO (zO (zO (zO .e (zO (zO (zO .e (zO (zL (zG [(zI 1)] 3)) .e)) .e) .e)) .e) (zO (zO .e (zO (zO (zO .e (zO (zL .dead) .e)) .e) .e)) .e)) .e))))), 6468, 0⟩⟩
end Go.Ev
namespace Go.Ev
open Go.Proofs
set_option maxRecDepth 1000000
set_option maxHeartbeats 0
set_option linter.all false
noncomputable def sAaW4 (b0 : Nat) (budget : Int) (e1 : Int) : OS := ⟨⟨⟨92, false, none, 55⟩, (zN (zN (zN zq487 (zP 6474 0) (zN (zL (zI 1)) (.sl 6183 0 1 none) .e)) (.sl 6183 0 1 none) (zN zq488 (zP 6477 0) (zN (zL (zI 0)) (.sl 6475 0 1 (some 1)) .e))) (zP 5922 0) (zN zq489 (zP 6473 0) (zN (zO (zL (.sl 6183 0 1 none)) .e) (zP 6478 0) (zN (zL (.bool true)) (zP 5922 0) .e)))), [.inRegion (rAt Tryz.f92 [1, 1, 1, 0, 1, 0, 0, 1, 1, 0, 0, 1, 1]) ((rAt Tryz.f92 [1, 1, 1, 0, 1, 0, 0, 1, 1, 0, 0, 1, 1]).toList.drop 1), .inBlock 1, .code (cAt Tryz.f92 [1, 1, 1, 0, 1, 0, 0, 1, 1, 1]), .inLoop (cAt Tryz.f92 [1, 1, 1, 0, 1, 0, 0]), .inBlock 0, .code (cAt Tryz.f92 [1, 1, 1, 1])], [], false⟩,
  [(⟨⟨35, false, none, 114⟩, zq490, [.inRegion (rAt Tryz.f35 [1, 1, 0]) ((rAt Tryz.f35 [1, 1, 0]).toList.drop 6), .code (cAt Tryz.f35 [1, 1, 1])], [], false⟩, (some 29)), (⟨⟨10, false, none, 169⟩, zq491, [.inRegion (rAt Tryz.f10 [1, 1, 1, 1, 1, 1, 1, 1, 1, 1, 1, 0, 1, 0, 0, 1, 0, 0, 1, 0]) ((rAt Tryz.f10 [1, 1, 1, 1, 1, 1, 1, 1, 1, 1, 1, 0, 1, 0, 0, 1, 0, 0, 1, 0]).toList.drop 3), .code (cAt Tryz.f10 [1, 1, 1, 1, 1, 1, 1, 1, 1, 1, 1, 0, 1, 0, 0, 1, 0, 0, 1, 1]), .inBlock 10, .code (cAt Tryz.f10 [1, 1, 1, 1, 1, 1, 1, 1, 1, 1, 1, 0, 1, 0, 0, 1, 1]), .inLoop (cAt Tryz.f10 [1, 1, 1, 1, 1, 1, 1, 1, 1, 1, 1, 0, 1, 0, 0]), .inBlock 9, .code (cAt Tryz.f10 [1, 1, 1, 1, 1, 1, 1, 1, 1, 1, 1, 1])], [], false⟩, (some 161)), (⟨⟨3, false, none, 101⟩, (zq458 b0 budget e1), [.inRegion (rAt Tryz.f3 [1, 1, 1, 1, 1, 1, 1, 1, 0]) ((rAt Tryz.f3 [1, 1, 1, 1, 1, 1, 1, 1, 0]).toList.drop 2), .code (cAt Tryz.f3 [1, 1, 1, 1, 1, 1, 1, 1, 1])], [], false⟩, (some 47))],
  ⟨(zO (zO zq492 (zO zq493 (zO (zO .e (zO (zO (zO .e (zO (zO (zO .e (zO (zL (zG [(.str [112]), (.sl 5262 0 1 none), (zI 0), (zI 0), (.str [113]), (.sl 5267 0 1 none), (zI 0), (zI 0)] 63)) .e)) .e) .e)) .e) (zO (zO .e (zO (zO (zO .e (zO (zL (zG [(.str [112]), (.str [113])] 9)) .e)) .e) (zO .e (zO (zO (zL (zC [(.sl 5037 0 2 (some 2)), (.sl 5043 0 1 (some 1))] 41)) .e) .e)))) .e))) (zO (zO (zO .e (zO (zO .e (zO (zO (zO .e zq433) .e) .e)) .e)) (zO (zO (zO (zO (zO (zO .e zq409) .e) .e) .e) (zO .e (zO .e (zO (zO (zL (zC [(.str [112]), (.sl 5035 0 1 (some 1)), (zI 0), (zI 0), (.str [113]), (.sl 5036 0 1 (some 1)), (zI 0), (zI 0)] 63)) .e) .e)))) .e)) zq484)))) zq494), 6479, 0⟩⟩
end Go.Ev
namespace Go.Ev
open Go.Proofs
set_option maxRecDepth 1000000
set_option maxHeartbeats 0
set_option linter.all false
noncomputable def sAaW5 (b0 : Nat) (budget : Int) (e1 : Int) : OS := ⟨⟨⟨92, false, none, 55⟩, (zN (zN (zN zq487 (zP 6474 0) (zN (zL (zI 1)) (.sl 6183 0 1 none) (zL (.tup [])))) (.sl 6183 0 1 none) (zN zq488 (zP 6477 0) (zN (zL (zI 1)) (.sl 6475 0 1 (some 1)) .e))) (zP 5922 0) (zN zq489 (zP 6473 0) (zN (zO (zL (.sl 6183 0 1 none)) (zL (zI 1))) (zP 6478 0) (zN (zL (.bool false)) (zP 5922 0) .e)))), [.inRegion (rAt Tryz.f92 [1, 1, 1, 1, 0]) ((rAt Tryz.f92 [1, 1, 1, 1, 0]).toList.drop 1), .code (cAt Tryz.f92 [1, 1, 1, 1, 1])], [], false⟩,
  [(⟨⟨35, false, none, 114⟩, zq490, [.inRegion (rAt Tryz.f35 [1, 1, 0]) ((rAt Tryz.f35 [1, 1, 0]).toList.drop 6), .code (cAt Tryz.f35 [1, 1, 1])], [], false⟩, (some 29)), (⟨⟨10, false, none, 169⟩, zq491, [.inRegion (rAt Tryz.f10 [1, 1, 1, 1, 1, 1, 1, 1, 1, 1, 1, 0, 1, 0, 0, 1, 0, 0, 1, 0]) ((rAt Tryz.f10 [1, 1, 1, 1, 1, 1, 1, 1, 1, 1, 1, 0, 1, 0, 0, 1, 0, 0, 1, 0]).toList.drop 3), .code (cAt Tryz.f10 [1, 1, 1, 1, 1, 1, 1, 1, 1, 1, 1, 0, 1, 0, 0, 1, 0, 0, 1, 1]), .inBlock 10, .code (cAt Tryz.f10 [1, 1, 1, 1, 1, 1, 1, 1, 1, 1, 1, 0, 1, 0, 0, 1, 1]), .inLoop (cAt Tryz.f10 [1, 1, 1, 1, 1, 1, 1, 1, 1, 1, 1, 0, 1, 0, 0]), .inBlock 9, .code (cAt Tryz.f10 [1, 1, 1, 1, 1, 1, 1, 1, 1, 1, 1, 1])], [], false⟩, (some 161)), (⟨⟨3, false, none, 101⟩, (zq458 b0 budget e1), [.inRegion (rAt Tryz.f3 [1, 1, 1, 1, 1, 1, 1, 1, 0]) ((rAt Tryz.f3 [1, 1, 1, 1, 1, 1, 1, 1, 0]).toList.drop 2), .code (cAt Tryz.f3 [1, 1, 1, 1, 1, 1, 1, 1, 1])], [], false⟩, (some 47))],
  ⟨(zO (zO zq492 (zO zq493 (zO (zO .e (zO (zO (zO .e (zO (zO (zO .e (zO (zL (zG [(.str [112]), (.sl 5262 0 1 none), (zI 0), (zI 0), (.str [113]), (.sl 5267 0 1 none), (zI 0), (zI 0)] 63)) .e)) .e) .e)) .e) (zO (zO .e (zO (zO (zO .e (zO (zL (zG [(.str [112]), (.str [113])] 9)) .e)) .e) (zO .e (zO (zO (zL (zC [(.sl 5037 0 2 (some 2)), (.sl 5043 0 1 (some 1))] 41)) .e) .e)))) .e))) (zO (zO (zO .e (zO (zO .e (zO (zO (zO .e (zL .dead)) .e) .e)) .e)) (zO (zO (zO (zO (zO (zO .e zq409) .e) .e) .e) (zO .e (zO .e (zO (zO (zL (zC [(.str [112]), (.sl 5035 0 1 (some 1)), (zI 0), (zI 0), (.str [113]), (.sl 5036 0 1 (some 1)), (zI 0), (zI 0)] 63)) .e) .e)))) .e)) zq484)))) zq494), 6817, 0⟩⟩
end Go.Ev
namespace Go.Ev
open Go.Proofs
set_option maxRecDepth 1000000
set_option maxHeartbeats 0
set_option linter.all false
noncomputable def sAaW6 (b0 : Nat) (budget : Int) (e1 : Int) : OS := ⟨⟨⟨3, false, none, 101⟩, (zO (zN (zO (zN (zN .e (zP 5291 0) zq495) (zI 0) .e) (zL .nils)) (zI budget) (zN (zN (zO .e (zL (zI 0))) (zP 5032 0) .e) (.bool true) (zN .e (zP 5044 0) (zO zq495 .e)))) (zN (zN (zN (zN .e (zI 0) (zL (zP 5291 0))) (zI 1) .e) (.bool false) (zL (zI 1))) (zP (OLD + b0) 0) (zq457 e1))), [.code (cAt Tryz.f3 [1, 1, 1, 1, 1, 1, 1, 1, 1])], [], false⟩,
  [],
  ⟨zq104, 6844, 0⟩⟩
end Go.Ev
