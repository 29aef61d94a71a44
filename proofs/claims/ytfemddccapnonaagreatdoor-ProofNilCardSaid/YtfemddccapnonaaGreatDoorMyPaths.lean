/- A part of the proof that the law ProofNil returns true for every input (its card: YtfemddccapnonaaGreatDoorMyCard): AaUQ, AaWQ. Conditions: those of the given row alone. -/
import Derived.Test.YtfemddccapnonaaGreatDoorMyU1
import Derived.Test.YtfemddccapnonaaGreatDoorMyU2
import Derived.Test.YtfemddccapnonaaGreatDoorMyU3
import Derived.Test.YtfemddccapnonaaGreatDoorMyU4
import Derived.Test.YtfemddccapnonaaGreatDoorMyU5
import Derived.Test.YtfemddccapnonaaGreatDoorMyU6
import Derived.Test.YtfemddccapnonaaGreatDoorMyU7
import Derived.Test.YtfemddccapnonaaGreatDoorMyU8
import Derived.Test.YtfemddccapnonaaGreatDoorMyU9
import Derived.Test.YtfemddccapnonaaGreatDoorMyU10
import Derived.Test.YtfemddccapnonaaGreatDoorMyU11
import Derived.Test.YtfemddccapnonaaGreatDoorEv7
import Derived.Test.YtfemddccapnonaaGreatDoorMyW1
import Derived.Test.YtfemddccapnonaaGreatDoorMyW2
import Derived.Test.YtfemddccapnonaaGreatDoorMyW3
import Derived.Test.YtfemddccapnonaaGreatDoorMyW4
import Derived.Test.YtfemddccapnonaaGreatDoorMyW5
import Derived.Test.YtfemddccapnonaaGreatDoorMyW6
namespace Go.Ev
open Go.Proofs
set_option linter.all false
theorem qAaU1 (w : World) (b0 : Nat) (budget : Int) : Path Tryz.prog (E.at w) I 150 291 out (sAaU0 b0 budget) (sAaU1 b0 budget) := .trans (.run 100000 51 rfl) (.gc [13, 3, 9, 14, 12] (pAaU1 w b0 budget))
theorem qAaU2 (w : World) (b0 : Nat) (budget : Int) : Path Tryz.prog (E.at w) I 150 291 out (sAaU1 b0 budget) (sAaU2 b0 budget) := .trans (.run 100000 201 rfl) (.gc [292, 275, 286, 283, 903, 12, 226, 3, 9, 13, 284, 251, 274, 293, 253, 14, 273, 285, 278, 295] (pAaU2 w b0 budget))
theorem qAaU3 (w : World) (b0 : Nat) (budget : Int) : Path Tryz.prog (E.at w) I 150 291 out (sAaU2 b0 budget) (sAaU3 b0 budget) := .trans (.run 100000 110 rfl) (.gc [292, 275, 286, 283, 903, 12, 226, 3, 9, 13, 906, 284, 251, 274, 293, 253, 14, 273, 904, 285, 278, 911, 295] (pAaU3 w b0 budget))
theorem qAaU4 (w : World) (b0 : Nat) (budget : Int) : Path Tryz.prog (E.at w) I 150 291 out (sAaU3 b0 budget) (sAaU4 b0 budget) := .trans (.run 100000 74 rfl) (.gc [911, 1468, 1177, 1471, 1472, 1467, 1470, 1469, 275, 292, 286, 283, 903, 12, 226, 3, 9, 13, 906, 284, 251, 274, 293, 253, 14, 273, 904, 285, 278, 295] (pAaU4 w b0 budget))
theorem qAaU5 (w : World) (b0 : Nat) (budget : Int) : Path Tryz.prog (E.at w) I 150 291 out (sAaU4 b0 budget) (sAaU5 b0 budget) := by
  obtain ⟨s, h1, h2⟩ := Option.map_eq_some_iff.1 (pAaU5 w b0 budget)
  exact .trans (.spawn 100000 100000 h1) (.gc [911, 1468, 1177, 1471, 1472, 1467, 1470, 1469, 275, 292, 286, 283, 903, 12, 226, 3, 9, 13, 906, 284, 251, 274, 293, 253, 14, 273, 904, 285, 278, 295] h2)
theorem qAaU6 (w : World) (b0 : Nat) (budget : Int) : Path Tryz.prog (E.at w) I 150 291 out (sAaU5 b0 budget) (sAaU6 b0 budget) := .trans (.run 100000 283 rfl) (.gc [911, 1845, 1838, 1848, 1849, 1844, 1847, 1846, 1416, 1455, 1833, 1829, 275, 279, 910, 263, 1183, 295, 1812, 1837, 1836, 916, 274, 1817, 1177, 1461, 292, 286, 283, 903, 12, 226, 3, 9, 13, 906, 284, 251, 293, 253, 14, 273, 904, 285, 278] (pAaU6 w b0 budget))
theorem qAaU7 (w : World) (b0 : Nat) (budget : Int) : Path Tryz.prog (E.at w) I 150 291 out (sAaU6 b0 budget) (sAaU7 b0 budget) := by
  obtain ⟨s, h1, h2⟩ := Option.map_eq_some_iff.1 (pAaU7 w b0 budget)
  exact .trans (.spawn 100000 100000 h1) (.gc [911, 1845, 1838, 1848, 1849, 1844, 1847, 1846, 1416, 1455, 1833, 1829, 275, 279, 910, 263, 1183, 295, 1812, 1837, 1836, 916, 274, 1817, 1177, 1461, 292, 286, 283, 903, 12, 226, 3, 9, 13, 906, 284, 251, 293, 253, 14, 273, 904, 285, 278] h2)
theorem qAaU8 (w : World) (b0 : Nat) (budget : Int) : Path Tryz.prog (E.at w) I 150 291 out (sAaU7 b0 budget) (sAaU8 b0 budget) := .trans (.run 100000 331 rfl) (.gc [292, 275, 911, 286, 283, 903, 12, 226, 3, 9, 13, 906, 284, 251, 274, 293, 253, 14, 273, 904, 285, 278, 295] (pAaU8 w b0 budget))
theorem qAaU9 (w : World) (b0 : Nat) (budget : Int) : Path Tryz.prog (E.at w) I 150 291 out (sAaU8 b0 budget) (sAaU9 b0 budget) := .trans (.run 100000 32 rfl) (.gc [275, 3, 9, 3506, 13, 12, 4863, 4864] (pAaU9 w b0 budget))
theorem qAaU10 (w : World) (b0 : Nat) (budget : Int) : Path Tryz.prog (E.at w) I 150 291 out (sAaU9 b0 budget) (sAaU10 b0 budget) := .trans (.run 100000 72 rfl) (.gc [4876, 275, 4980, 4994, 4995, 4863, 4864, 4873, 3, 9, 3506, 4936, 13, 5004, 12] (pAaU10 w b0 budget))
theorem qAaU11 (w : World) (b0 : Nat) (budget : Int) : Path Tryz.prog (E.at w) I 150 291 out (sAaU10 b0 budget) (sAaU11 b0 budget) := .trans (.run 100000 13 rfl) (.gc [] (pAaU11 w b0 budget))
theorem qAaU_all (w : World) (b0 : Nat) (budget : Int) : Path Tryz.prog (E.at w) I 150 291 out (sAaU0 b0 budget) (sAaU11 b0 budget) := .trans (qAaU1 w b0 budget) (.trans (qAaU2 w b0 budget) (.trans (qAaU3 w b0 budget) (.trans (qAaU4 w b0 budget) (.trans (qAaU5 w b0 budget) (.trans (qAaU6 w b0 budget) (.trans (qAaU7 w b0 budget) (.trans (qAaU8 w b0 budget) (.trans (qAaU9 w b0 budget) (.trans (qAaU10 w b0 budget) (qAaU11 w b0 budget))))))))))
end Go.Ev
namespace Go.Ev
open Go.Proofs
set_option linter.all false
theorem qAaW1 (w : World) (b0 : Nat) (budget : Int) (e1 : Int) : Path Tryz.prog (E.at w) I 150 291 out (sAaW0 b0 budget e1) (sAaW1 b0 budget e1) := .trans (.run 100000 42 rfl) (.gc [5037, 5043, 5045, 5032, 5044] (pAaW1 w b0 budget e1))
theorem qAaW2 (w : World) (b0 : Nat) (budget : Int) (e1 : Int) : Path Tryz.prog (E.at w) I 150 291 out (sAaW1 b0 budget e1) (sAaW2 b0 budget e1) := .trans (.run 100000 145 rfl) (.gc [5291, 5302, 5299, 5914, 5037, 5043, 5300, 5267, 5290, 5269, 5045, 5289, 5301, 5294, 5032, 5044] (pAaW2 w b0 budget e1))
theorem qAaW3 (w : World) (b0 : Nat) (budget : Int) (e1 : Int) : Path Tryz.prog (E.at w) I 150 291 out (sAaW2 b0 budget e1) (sAaW3 b0 budget e1) := .trans (.run 100000 110 rfl) (.gc [5291, 5302, 5299, 5914, 5037, 5043, 5917, 5300, 5267, 5290, 5269, 5045, 5289, 5915, 5301, 5294, 5922, 5032, 5044] (pAaW3 w b0 budget e1))
theorem qAaW4 (w : World) (b0 : Nat) (budget : Int) (e1 : Int) : Path Tryz.prog (E.at w) I 150 291 out (sAaW3 b0 budget e1) (sAaW4 b0 budget e1) := .trans (.run 100000 74 rfl) (.gc [5922, 6474, 6183, 6477, 6478, 6473, 6476, 6475, 5291, 5302, 5299, 5914, 5037, 5043, 5917, 5300, 5267, 5290, 5269, 5045, 5289, 5915, 5301, 5294, 5032, 5044] (pAaW4 w b0 budget e1))
theorem qAaW5 (w : World) (b0 : Nat) (budget : Int) (e1 : Int) : Path Tryz.prog (E.at w) I 150 291 out (sAaW4 b0 budget e1) (sAaW5 b0 budget e1) := by
  obtain ⟨s, h1, h2⟩ := Option.map_eq_some_iff.1 (pAaW5 w b0 budget e1)
  exact .trans (.spawn 100000 100000 h1) (.gc [5922, 6474, 6183, 6477, 6478, 6473, 6476, 6475, 5291, 5302, 5299, 5914, 5037, 5043, 5917, 5300, 5267, 5290, 5269, 5045, 5289, 5915, 5301, 5294, 5032, 5044] h2)
theorem qAaW6 (w : World) (b0 : Nat) (budget : Int) (e1 : Int) : Path Tryz.prog (E.at w) I 150 291 out (sAaW5 b0 budget e1) (sAaW6 b0 budget e1) := .trans (.run 100000 133 rfl) (.gc [5291, 5032, 5044, 5037, 5043] (pAaW6 w b0 budget e1))
theorem qAaW_all (w : World) (b0 : Nat) (budget : Int) (e1 : Int) : Path Tryz.prog (E.at w) I 150 291 out (sAaW0 b0 budget e1) (sAaW6 b0 budget e1) := .trans (qAaW1 w b0 budget e1) (.trans (qAaW2 w b0 budget e1) (.trans (qAaW3 w b0 budget e1) (.trans (qAaW4 w b0 budget e1) (.trans (qAaW5 w b0 budget e1) (qAaW6 w b0 budget e1)))))
end Go.Ev
