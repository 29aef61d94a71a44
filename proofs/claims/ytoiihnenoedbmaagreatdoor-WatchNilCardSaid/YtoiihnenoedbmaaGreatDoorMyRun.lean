/- A part of the proof that the law WatchNil returns true for every input (its card: YtoiihnenoedbmaaGreatDoorMyCard): AdRun. Conditions: those of the given row alone. -/
import Derived.Test.YtoiihnenoedbmaaGreatDoorMyFits
import Derived.Test.YtoiihnenoedbmaaGreatDoorMyP1
import Derived.Test.YtoiihnenoedbmaaGreatDoorMyP2
import Derived.Test.YtoiihnenoedbmaaGreatDoorMyP3
import Derived.Test.YtoiihnenoedbmaaGreatDoorMyP4
import Derived.Test.YtoiihnenoedbmaaGreatDoorMyP5
import Derived.Test.YtoiihnenoedbmaaGreatDoorMyP6
import Derived.Test.YtoiihnenoedbmaaGreatDoorMyP7
import Derived.Test.YtoiihnenoedbmaaGreatDoorMyP8
import Derived.Test.YtoiihnenoedbmaaGreatDoorMyP9
import Derived.Test.YtoiihnenoedbmaaGreatDoorMyP10
import Derived.Test.YtoiihnenoedbmaaGreatDoorMyP11
import Derived.Test.YtoiihnenoedbmaaGreatDoorMyP12
import Derived.Test.YtoiihnenoedbmaaGreatDoorMyP13
import Derived.Test.YtoiihnenoedbmaaGreatDoorMyP14
import Derived.Test.YtoiihnenoedbmaaGreatDoorMyP15
import Derived.Test.YtoiihnenoedbmaaGreatDoorMyP16
import Derived.Test.YtoiihnenoedbmaaGreatDoorMyP17
import Derived.Test.YtoiihnenoedbmaaGreatDoorMyP18
import Derived.Test.YtoiihnenoedbmaaGreatDoorMyP19
import Derived.Test.YtoiihnenoedbmaaGreatDoorMyP20
import Derived.Test.YtoiihnenoedbmaaGreatDoorMyP21
namespace Go.Ev
open Go.Proofs
theorem pth1 : Path E I Tryz.link.done Tryz.link.tWg out sA0 sA1 := .trans (.run 100000 81 rfl) (.gc [14, 4, 10, 17, 16, 15, 13, 0] pA1)
theorem pth2 : Path E I Tryz.link.done Tryz.link.tWg out sA1 sA2 := .trans (.run 100000 201 rfl) (.gc [295, 278, 289, 286, 906, 13, 229, 4, 10, 14, 287, 254, 277, 296, 256, 17, 276, 288, 281, 298, 16, 15, 0] pA2)
theorem pth3 : Path E I Tryz.link.done Tryz.link.tWg out sA2 sA3 := .trans (.run 100000 110 rfl) (.gc [295, 278, 289, 286, 906, 13, 229, 4, 10, 14, 909, 287, 254, 277, 296, 256, 17, 276, 907, 288, 281, 914, 298, 16, 15, 0] pA3)
theorem pth4 : Path E I Tryz.link.done Tryz.link.tWg out sA3 sA4 := .trans (.run 100000 74 rfl) (.gc [914, 1471, 1180, 1474, 1475, 1470, 1473, 1472, 278, 295, 289, 286, 906, 13, 229, 4, 10, 14, 909, 287, 254, 277, 296, 256, 17, 276, 907, 288, 281, 298, 16, 15, 0] pA4)
theorem pth5 : Path E I Tryz.link.done Tryz.link.tWg out sA4 sA5 := by
  obtain ⟨s, h1, h2⟩ := Option.map_eq_some_iff.1 pA5
  exact .trans (.spawn 100000 100000 h1) (.gc [914, 1471, 1180, 1474, 1475, 1470, 1473, 1472, 278, 295, 289, 286, 906, 13, 229, 4, 10, 14, 909, 287, 254, 277, 296, 256, 17, 276, 907, 288, 281, 298, 16, 15, 0] h2)
theorem pth6 : Path E I Tryz.link.done Tryz.link.tWg out sA5 sA6 := .trans (.run 100000 283 rfl) (.gc [914, 1848, 1841, 1851, 1852, 1847, 1850, 1849, 1419, 1458, 1836, 1832, 278, 282, 913, 266, 1186, 298, 1815, 1840, 1839, 919, 277, 1820, 1180, 1464, 295, 289, 286, 906, 13, 229, 4, 10, 14, 909, 287, 254, 296, 256, 17, 276, 907, 288, 281, 16, 15, 0] pA6)
theorem pth7 : Path E I Tryz.link.done Tryz.link.tWg out sA6 sA7 := by
  obtain ⟨s, h1, h2⟩ := Option.map_eq_some_iff.1 pA7
  exact .trans (.spawn 100000 100000 h1) (.gc [914, 1848, 1841, 1851, 1852, 1847, 1850, 1849, 1419, 1458, 1836, 1832, 278, 282, 913, 266, 1186, 298, 1815, 1840, 1839, 919, 277, 1820, 1180, 1464, 295, 289, 286, 906, 13, 229, 4, 10, 14, 909, 287, 254, 296, 256, 17, 276, 907, 288, 281, 16, 15, 0] h2)
theorem pth8 : Path E I Tryz.link.done Tryz.link.tWg out sA7 sA8 := .trans (.run 100000 473 rfl) (.gc [2298, 2328, 2339, 289, 2330, 2297, 2337, 278, 2326, 277, 2317, 2327, 288, 2329, 2321, 295, 914, 286, 906, 13, 229, 4, 10, 14, 909, 287, 254, 296, 256, 17, 276, 907, 281, 298, 16, 15, 0] pA8)
theorem pth9 : Path E I Tryz.link.done Tryz.link.tWg out sA8 sA9 := .trans (.run 100000 66 rfl) (.gc [278, 16, 3788, 14, 4, 10, 3520, 3540, 3545, 15, 13, 0] pA9)
theorem pth10 : Path E I Tryz.link.done Tryz.link.tWg out sA9 sA10 := .trans (.run 100000 212 rfl) (.gc [4084, 3856, 3876, 4068, 4069, 4067, 3878, 4022, 3788, 4066, 4019, 4020, 3961, 4018, 3963, 14, 4, 10, 4013, 13, 0] pA10)
theorem pth11 : Path E I Tryz.link.done Tryz.link.tWg out sA10 sA11 := .trans (.run 100000 39 rfl) (.gc [4084, 3856, 3876, 4093, 4068, 4069, 4067, 3878, 4022, 3788, 4066, 4019, 4020, 3961, 4018, 3963, 14, 4, 10, 4013, 13, 0] pA11)
theorem pth12 : Path E I Tryz.link.done Tryz.link.tWg out sA11 sA12 := .trans (.run 100000 257 rfl) (.gc [4386, 4369, 4380, 4377, 5018, 4082, 4320, 3856, 3876, 4084, 4378, 4345, 4368, 4408, 4347, 4093, 4367, 4379, 4372, 4410, 4068, 4069, 4067, 3878, 4022, 3788, 4066, 4019, 4020, 3961, 4018, 3963, 14, 4, 10, 4013, 13, 0] pA12)
theorem pth13 : Path E I Tryz.link.done Tryz.link.tWg out sA12 sA13 := .trans (.run 100000 110 rfl) (.gc [4386, 4369, 4380, 4377, 5018, 4082, 4320, 3856, 3876, 4084, 5021, 4378, 4345, 4368, 4408, 4347, 4093, 4367, 5019, 4379, 4372, 5026, 4410, 4068, 4069, 4067, 3878, 4022, 3788, 4066, 4019, 4020, 3961, 4018, 3963, 14, 4, 10, 4013, 13, 0] pA13)
theorem pth14 : Path E I Tryz.link.done Tryz.link.tWg out sA13 sA14 := .trans (.run 100000 74 rfl) (.gc [5026, 5587, 5296, 5590, 5591, 5586, 5589, 5588, 4369, 4386, 4380, 4377, 5018, 4082, 4320, 3856, 3876, 4084, 5021, 4378, 4345, 4368, 4408, 4347, 4093, 4367, 5019, 4379, 4372, 4410, 4068, 4069, 4067, 3878, 4022, 3788, 4066, 4019, 4020, 3961, 4018, 3963, 14, 4, 10, 4013, 13, 0] pA14)
theorem pth15 : Path E I Tryz.link.done Tryz.link.tWg out sA14 sA15 := by
  obtain ⟨s, h1, h2⟩ := Option.map_eq_some_iff.1 pA15
  exact .trans (.spawn 100000 100000 h1) (.gc [5026, 5587, 5296, 5590, 5591, 5586, 5589, 5588, 4369, 4386, 4380, 4377, 5018, 4082, 4320, 3856, 3876, 4084, 5021, 4378, 4345, 4368, 4408, 4347, 4093, 4367, 5019, 4379, 4372, 4410, 4068, 4069, 4067, 3878, 4022, 3788, 4066, 4019, 4020, 3961, 4018, 3963, 14, 4, 10, 4013, 13, 0] h2)
theorem pth16 : Path E I Tryz.link.done Tryz.link.tWg out sA15 sA16 := .trans (.run 100000 407 rfl) (.gc [5026, 5991, 5984, 5994, 5995, 5990, 5993, 5992, 5535, 5574, 5979, 5975, 4369, 4373, 5957, 5025, 4357, 5302, 4410, 5958, 5983, 5982, 5035, 4368, 5963, 5296, 5580, 4386, 4380, 4377, 5018, 4082, 4320, 3856, 3876, 4084, 5021, 4378, 4345, 4408, 4347, 4093, 4367, 5019, 4379, 4372, 4068, 4069, 4067, 3878, 4022, 3788, 4066, 4019, 4020, 3961, 4018, 3963, 14, 4, 10, 4013, 13, 0] pA16)
theorem pth17 : Path E I Tryz.link.done Tryz.link.tWg out sA16 sA17 := by
  obtain ⟨s, h1, h2⟩ := Option.map_eq_some_iff.1 pA17
  exact .trans (.spawn 100000 100000 h1) (.gc [5026, 5991, 5984, 5994, 5995, 5990, 5993, 5992, 5535, 5574, 5979, 5975, 4369, 4373, 5957, 5025, 4357, 5302, 4410, 5958, 5983, 5982, 5035, 4368, 5963, 5296, 5580, 4386, 4380, 4377, 5018, 4082, 4320, 3856, 3876, 4084, 5021, 4378, 4345, 4408, 4347, 4093, 4367, 5019, 4379, 4372, 4068, 4069, 4067, 3878, 4022, 3788, 4066, 4019, 4020, 3961, 4018, 3963, 14, 4, 10, 4013, 13, 0] h2)
theorem pth18 : Path E I Tryz.link.done Tryz.link.tWg out sA17 sA18 := .trans (.run 100000 635 rfl) (.gc [6869, 6919, 6937, 4380, 6921, 6868, 6930, 4369, 6917, 4368, 6905, 6918, 4379, 6920, 6909, 4386, 5026, 4377, 5018, 4082, 4320, 3856, 3876, 4084, 5021, 4378, 4345, 4408, 4347, 4093, 4367, 5019, 4372, 4410, 4068, 4069, 4067, 3878, 4022, 3788, 4066, 4019, 4020, 3961, 4018, 3963, 14, 4, 10, 4013, 13, 0] pA18)
theorem pth19 : Path E I Tryz.link.done Tryz.link.tWg out sA18 sA19 := .trans (.run 100000 25 rfl) (.gc [6886, 6919, 8106, 4380, 6921, 6885, 6930, 4369, 6917, 4368, 6905, 6918, 4379, 6920, 6909, 4386, 5026, 4377, 5018, 4082, 4320, 3856, 3876, 4084, 5021, 4378, 4345, 4408, 4347, 4093, 4367, 5019, 4372, 4410, 4068, 4069, 4067, 3878, 4022, 3788, 4066, 4019, 4020, 3961, 4018, 3963, 14, 4, 10, 4013, 13, 0] pA19)
theorem pth20 : Path E I Tryz.link.done Tryz.link.tWg out sA19 sA20 := .trans (.run 100000 95 rfl) (.gc [3878, 4066, 4022, 4019, 3788, 4020, 9366, 3961, 4018, 3963, 14, 4, 10, 4013, 13, 0] pA20)
theorem pth21 : Path E I Tryz.link.done Tryz.link.tWg out sA20 sA21 := .trans (.run 100000 259 rfl) (.gc [0, 9485] pA21)
theorem path_all : Path E I Tryz.link.done Tryz.link.tWg out sA0 sA21 := .trans pth1 (.trans pth2 (.trans pth3 (.trans pth4 (.trans pth5 (.trans pth6 (.trans pth7 (.trans pth8 (.trans pth9 (.trans pth10 (.trans pth11 (.trans pth12 (.trans pth13 (.trans pth14 (.trans pth15 (.trans pth16 (.trans pth17 (.trans pth18 (.trans pth19 (.trans pth20 pth21)))))))))))))))))))
theorem sA0_eq : sA0 = ⟨(enterA E 3 argsA false).getD default, [], eAH⟩ := rfl
theorem entered : enterA E 3 argsA false = some ((enterA E 3 argsA false).getD default) := by
  have h : (enterA E 3 argsA false).isSome = true := by kernel_rfl
  obtain ⟨f, hf⟩ := Option.isSome_iff_exists.1 h
  rw [hf]; rfl
theorem answers_ : ∃ h2, stepA E sA21.f sA21.h = some (.ret (.bool true) h2) := ⟨sA21.h, by kernel_rfl⟩

set_option maxRecDepth 100000 in
theorem seat_run (W : World) (args : Array Value) (hargs : RVs (fun _ => none) argsA args.toList) :
    ∃ M last o w' t', Go.runNT Tryz.prog (M + 1) (Go.Conc.solo (Go.Conc.G (Frame.enter Tryz.prog 3 args .normal) []) W) #[] = (.ended o w', t') ∧
      runN Tryz.prog M (Go.Conc.solo (Go.Conc.G (Frame.enter Tryz.prog 3 args .normal) []) W) = .next last ∧ step Tryz.prog last = .ended o w' ∧ Conc.Good Tryz.prog (Ends W (.bool true)) last o w' t' := by
  obtain ⟨h2, ha⟩ := answers_
  exact the_run tabs wait_fine (L := Tryz.link) Tryz.wgLib entered (s' := sA21) (by have := path_all; rw [sA0_eq] at this; exact this) (by kernel_rfl) ha (by kernel_rfl) (by kernel_rfl) (by kernel_rfl) (by kernel_rfl) (by kernel_rfl) W args hargs
end Go.Ev
