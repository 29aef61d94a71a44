/- A part of the proof that pedigreelaw19.WhynotNil returns true for every input (its card: YtieoegkjamcngabGreatDoorMyCard): GFinA. Conditions: those of the given row alone. -/
import Derived.Test.YtieoegkjamcngabGreatDoorMyFits
import Derived.Test.YtieoegkjamcngabGreatDoorMyP1
import Derived.Test.YtieoegkjamcngabGreatDoorMyP2
import Derived.Test.YtieoegkjamcngabGreatDoorMyP3
import Derived.Test.YtieoegkjamcngabGreatDoorMyP4
import Derived.Test.YtieoegkjamcngabGreatDoorMyP5
import Derived.Test.YtieoegkjamcngabGreatDoorMyP6
import Derived.Test.YtieoegkjamcngabGreatDoorMyP7
import Derived.Test.YtieoegkjamcngabGreatDoorMyP8
import Derived.Test.YtieoegkjamcngabGreatDoorMyP9
import Derived.Test.YtieoegkjamcngabGreatDoorMyP10
import Derived.Test.YtieoegkjamcngabGreatDoorMyP11
namespace Go.Ev
open Go.Proofs
theorem pth1 : Path E I Tryz.link.done Tryz.link.tWg out sA0 sA1 := .trans (.run 100000 150 rfl) (.gc [277, 14, 228, 5, 11, 15, 248, 276, 255, 16, 275, 278, 1, 0] pA1)
theorem pth2 : Path E I Tryz.link.done Tryz.link.tWg out sA1 sA2 := .trans (.run 100000 150 rfl) (.gc [294, 277, 288, 285, 905, 14, 228, 5, 11, 15, 907, 286, 253, 276, 295, 255, 16, 275, 906, 287, 280, 297, 1, 0] pA2)
theorem pth3 : Path E I Tryz.link.done Tryz.link.tWg out sA2 sA3 := .trans (.run 100000 50 rfl) (.gc [294, 277, 288, 285, 905, 14, 228, 5, 11, 15, 908, 286, 253, 276, 295, 255, 16, 275, 906, 287, 280, 297, 1, 0] pA3)
theorem pth4 : Path E I Tryz.link.done Tryz.link.tWg out sA3 sA4 := .trans (.run 100000 93 rfl) (.gc [913, 1470, 1179, 1473, 1474, 1469, 1472, 1471, 277, 294, 288, 285, 905, 14, 228, 5, 11, 15, 908, 286, 253, 276, 295, 255, 16, 275, 906, 287, 280, 297, 1, 0] pA4)
theorem pth5 : Path E I Tryz.link.done Tryz.link.tWg out sA4 sA5 := by
  obtain ⟨s, h1, h2⟩ := Option.map_eq_some_iff.1 pA5
  exact .trans (.spawn 100000 100000 h1) (.gc [913, 1470, 1179, 1473, 1474, 1469, 1472, 1471, 277, 294, 288, 285, 905, 14, 228, 5, 11, 15, 908, 286, 253, 276, 295, 255, 16, 275, 906, 287, 280, 297, 1, 0] h2)
theorem pth6 : Path E I Tryz.link.done Tryz.link.tWg out sA5 sA6 := .trans (.run 100000 283 rfl) (.gc [913, 1847, 1840, 1850, 1851, 1846, 1849, 1848, 1418, 1457, 1835, 1831, 277, 281, 912, 265, 1185, 297, 1814, 1839, 1838, 918, 276, 1819, 1179, 1463, 294, 288, 285, 905, 14, 228, 5, 11, 15, 908, 286, 253, 295, 255, 16, 275, 906, 287, 280, 1, 0] pA6)
theorem pth7 : Path E I Tryz.link.done Tryz.link.tWg out sA6 sA7 := by
  obtain ⟨s, h1, h2⟩ := Option.map_eq_some_iff.1 pA7
  exact .trans (.spawn 100000 100000 h1) (.gc [913, 1847, 1840, 1850, 1851, 1846, 1849, 1848, 1418, 1457, 1835, 1831, 277, 281, 912, 265, 1185, 297, 1814, 1839, 1838, 918, 276, 1819, 1179, 1463, 294, 288, 285, 905, 14, 228, 5, 11, 15, 908, 286, 253, 295, 255, 16, 275, 906, 287, 280, 1, 0] h2)
theorem pth8 : Path E I Tryz.link.done Tryz.link.tWg out sA7 sA8 := .trans (.run 100000 300 rfl) (.gc [294, 277, 913, 288, 285, 905, 14, 228, 5, 11, 15, 908, 286, 253, 276, 295, 255, 16, 275, 906, 287, 280, 297, 1, 0] pA8)
theorem pth9 : Path E I Tryz.link.done Tryz.link.tWg out sA8 sA9 := .trans (.run 100000 50 rfl) (.gc [14, 277, 15, 5, 11, 1, 0] pA9)
theorem pth10 : Path E I Tryz.link.done Tryz.link.tWg out sA9 sA10 := .trans (.run 100000 50 rfl) (.gc [4130, 277, 14, 3508, 15, 5, 11, 4133, 1, 0] pA10)
theorem pth11 : Path E I Tryz.link.done Tryz.link.tWg out sA10 sA11 := .trans (.run 100000 59 rfl) (.gc [1, 5438, 0] pA11)
theorem path_all : Path E I Tryz.link.done Tryz.link.tWg out sA0 sA11 := .trans pth1 (.trans pth2 (.trans pth3 (.trans pth4 (.trans pth5 (.trans pth6 (.trans pth7 (.trans pth8 (.trans pth9 (.trans pth10 pth11)))))))))
theorem sA0_eq : sA0 = ⟨(enterA E 3 argsA false).getD default, [], eAH⟩ := rfl
theorem entered : enterA E 3 argsA false = some ((enterA E 3 argsA false).getD default) := by
  have h : (enterA E 3 argsA false).isSome = true := by kernel_rfl
  obtain ⟨f, hf⟩ := Option.isSome_iff_exists.1 h
  rw [hf]; rfl
theorem answers : stepT E sA11.f = some (.ret (.bool true)) := by kernel_rfl

set_option maxRecDepth 100000 in
theorem seat_run (W : World) (x y : Array Value) (hx : x.size = 2) (hy : y.size = 4) :
    ∃ M last o w' t', Go.runNT Tryz.prog (M + 1) (Go.Conc.solo (Go.Conc.G (Frame.enter Tryz.prog 3 #[.agg x, .agg y] .normal) []) W) #[] = (.ended o w', t') ∧
      runN Tryz.prog M (Go.Conc.solo (Go.Conc.G (Frame.enter Tryz.prog 3 #[.agg x, .agg y] .normal) []) W) = .next last ∧ step Tryz.prog last = .ended o w' ∧ Conc.Good Tryz.prog (Ends W (.bool true)) last o w' t' := by
  have anys : ∀ (n : Nat) (l : List Value), l.length = n → RVs (fun _ => none) (List.replicate n AV.any) l := by
    intro n
    induction n with
    | zero => intro l h; rw [List.length_eq_zero_iff.1 h]; exact RVs_nil
    | succ n ih =>
      intro l h
      cases l with
      | nil => cases h
      | cons v l => exact RVs_cons (by unfold RV; trivial) (ih l (by simpa using h))
  refine the_run tabs wait_fine (L := Tryz.link) Tryz.wgLib entered (s' := sA11) (by have := path_all; rw [sA0_eq] at this; exact this) (by kernel_rfl) answers (by kernel_rfl) (by kernel_rfl) (by kernel_rfl) W _ ?_
  exact RVs_cons (RV_agg (anys 2 x.toList (by simpa using hx))) (RVs_cons (RV_agg (anys 4 y.toList (by simpa using hy))) RVs_nil)
end Go.Ev
