/- A part of the proof that the law IncrNil returns true for every input (its card: YtohbpghlbeoikaaGreatDoorMyCard): AcRun. Conditions: those of the given row alone. -/
import Derived.Test.YtohbpghlbeoikaaGreatDoorMyFits
import Derived.Test.YtohbpghlbeoikaaGreatDoorMyP1
import Derived.Test.YtohbpghlbeoikaaGreatDoorMyP2
import Derived.Test.YtohbpghlbeoikaaGreatDoorMyP3
import Derived.Test.YtohbpghlbeoikaaGreatDoorMyP4
import Derived.Test.YtohbpghlbeoikaaGreatDoorMyP5
import Derived.Test.YtohbpghlbeoikaaGreatDoorMyP6
import Derived.Test.YtohbpghlbeoikaaGreatDoorMyP7
import Derived.Test.YtohbpghlbeoikaaGreatDoorMyP8
import Derived.Test.YtohbpghlbeoikaaGreatDoorMyP9
import Derived.Test.YtohbpghlbeoikaaGreatDoorMyP10
import Derived.Test.YtohbpghlbeoikaaGreatDoorMyP11
import Derived.Test.YtohbpghlbeoikaaGreatDoorMyP12
import Derived.Test.YtohbpghlbeoikaaGreatDoorMyP13
import Derived.Test.YtohbpghlbeoikaaGreatDoorMyP14
import Derived.Test.YtohbpghlbeoikaaGreatDoorMyP15
import Derived.Test.YtohbpghlbeoikaaGreatDoorMyP16
import Derived.Test.YtohbpghlbeoikaaGreatDoorMyP17
import Derived.Test.YtohbpghlbeoikaaGreatDoorMyP18
import Derived.Test.YtohbpghlbeoikaaGreatDoorMyP19
import Derived.Test.YtohbpghlbeoikaaGreatDoorMyP20
import Derived.Test.YtohbpghlbeoikaaGreatDoorMyP21
import Derived.Test.YtohbpghlbeoikaaGreatDoorMyP22
namespace Go.Ev
open Go.Proofs
theorem pth1 : Path E I Tryz.link.done Tryz.link.tWg out sA0 sA1 := .trans (.run 100000 94 rfl) (.gc [6, 7, 9, 233, 253, 8, 0, 1] pA1)
theorem pth2 : Path E I Tryz.link.done Tryz.link.tWg out sA1 sA2 := .trans (.run 100000 118 rfl) (.gc [255, 266, 263, 878, 6, 7, 264, 231, 254, 233, 9, 253, 265, 258, 8, 0, 1] pA2)
theorem pth3 : Path E I Tryz.link.done Tryz.link.tWg out sA2 sA3 := .trans (.run 100000 110 rfl) (.gc [255, 266, 263, 878, 6, 7, 881, 264, 231, 254, 233, 9, 253, 879, 265, 258, 886, 8, 0, 1] pA3)
theorem pth4 : Path E I Tryz.link.done Tryz.link.tWg out sA3 sA4 := .trans (.run 100000 74 rfl) (.gc [886, 1438, 1147, 1441, 1442, 1437, 1440, 1439, 255, 266, 263, 878, 6, 7, 881, 264, 231, 254, 233, 9, 253, 879, 265, 258, 8, 0, 1] pA4)
theorem pth5 : Path E I Tryz.link.done Tryz.link.tWg out sA4 sA5 := by
  obtain ⟨s, h1, h2⟩ := Option.map_eq_some_iff.1 pA5
  exact .trans (.spawn 100000 100000 h1) (.gc [886, 1438, 1147, 1441, 1442, 1437, 1440, 1439, 255, 266, 263, 878, 6, 7, 881, 264, 231, 254, 233, 9, 253, 879, 265, 258, 8, 0, 1] h2)
theorem pth6 : Path E I Tryz.link.done Tryz.link.tWg out sA5 sA6 := .trans (.run 100000 148 rfl) (.gc [255, 8, 2084, 6, 7, 1821, 1841, 0, 1] pA6)
theorem pth7 : Path E I Tryz.link.done Tryz.link.tWg out sA6 sA7 := .trans (.run 100000 182 rfl) (.gc [2205, 2098, 2118, 2206, 2196, 2197, 2195, 2120, 2150, 2084, 2194, 2147, 2148, 2146, 6, 7, 0, 1] pA7)
theorem pth8 : Path E I Tryz.link.done Tryz.link.tWg out sA7 sA8 := .trans (.run 100000 201 rfl) (.gc [2484, 2467, 2478, 2475, 3095, 2203, 2418, 2098, 2118, 2205, 2476, 2443, 2466, 2485, 2445, 2206, 2465, 2477, 2470, 2487, 2196, 2197, 2195, 2120, 2150, 2084, 2194, 2147, 2148, 2146, 6, 7, 0, 1] pA8)
theorem pth9 : Path E I Tryz.link.done Tryz.link.tWg out sA8 sA9 := .trans (.run 100000 110 rfl) (.gc [2484, 2467, 2478, 2475, 3095, 2203, 2418, 2098, 2118, 2205, 3098, 2476, 2443, 2466, 2485, 2445, 2206, 2465, 3096, 2477, 2470, 3103, 2487, 2196, 2197, 2195, 2120, 2150, 2084, 2194, 2147, 2148, 2146, 6, 7, 0, 1] pA9)
theorem pth10 : Path E I Tryz.link.done Tryz.link.tWg out sA9 sA10 := .trans (.run 100000 74 rfl) (.gc [3103, 3660, 3369, 3663, 3664, 3659, 3662, 3661, 2467, 2484, 2478, 2475, 3095, 2203, 2418, 2098, 2118, 2205, 3098, 2476, 2443, 2466, 2485, 2445, 2206, 2465, 3096, 2477, 2470, 2487, 2196, 2197, 2195, 2120, 2150, 2084, 2194, 2147, 2148, 2146, 6, 7, 0, 1] pA10)
theorem pth11 : Path E I Tryz.link.done Tryz.link.tWg out sA10 sA11 := by
  obtain ⟨s, h1, h2⟩ := Option.map_eq_some_iff.1 pA11
  exact .trans (.spawn 100000 100000 h1) (.gc [3103, 3660, 3369, 3663, 3664, 3659, 3662, 3661, 2467, 2484, 2478, 2475, 3095, 2203, 2418, 2098, 2118, 2205, 3098, 2476, 2443, 2466, 2485, 2445, 2206, 2465, 3096, 2477, 2470, 2487, 2196, 2197, 2195, 2120, 2150, 2084, 2194, 2147, 2148, 2146, 6, 7, 0, 1] h2)
theorem pth12 : Path E I Tryz.link.done Tryz.link.tWg out sA11 sA12 := .trans (.run 100000 283 rfl) (.gc [3103, 4037, 4030, 4040, 4041, 4036, 4039, 4038, 3608, 3647, 4025, 4021, 2467, 2471, 3102, 2455, 3375, 2487, 4004, 4029, 4028, 3108, 2466, 4009, 3369, 3653, 2484, 2478, 2475, 3095, 2203, 2418, 2098, 2118, 2205, 3098, 2476, 2443, 2485, 2445, 2206, 2465, 3096, 2477, 2470, 2196, 2197, 2195, 2120, 2150, 2084, 2194, 2147, 2148, 2146, 6, 7, 0, 1] pA12)
theorem pth13 : Path E I Tryz.link.done Tryz.link.tWg out sA12 sA13 := by
  obtain ⟨s, h1, h2⟩ := Option.map_eq_some_iff.1 pA13
  exact .trans (.spawn 100000 100000 h1) (.gc [3103, 4037, 4030, 4040, 4041, 4036, 4039, 4038, 3608, 3647, 4025, 4021, 2467, 2471, 3102, 2455, 3375, 2487, 4004, 4029, 4028, 3108, 2466, 4009, 3369, 3653, 2484, 2478, 2475, 3095, 2203, 2418, 2098, 2118, 2205, 3098, 2476, 2443, 2485, 2445, 2206, 2465, 3096, 2477, 2470, 2196, 2197, 2195, 2120, 2150, 2084, 2194, 2147, 2148, 2146, 6, 7, 0, 1] h2)
theorem pth14 : Path E I Tryz.link.done Tryz.link.tWg out sA13 sA14 := .trans (.run 100000 331 rfl) (.gc [2484, 2467, 3103, 2478, 2475, 3095, 2203, 2418, 2098, 2118, 2205, 3098, 2476, 2443, 2466, 2485, 2445, 2206, 2465, 3096, 2477, 2470, 2487, 2196, 2197, 2195, 2120, 2150, 2084, 2194, 2147, 2148, 2146, 6, 7, 0, 1] pA14)
theorem pth15 : Path E I Tryz.link.done Tryz.link.tWg out sA14 sA15 := .trans (.run 100000 119 rfl) (.gc [5804, 5803, 2146, 2120, 5907, 5980, 2147, 6, 7, 0, 1] pA15)
theorem pth16 : Path E I Tryz.link.done Tryz.link.tWg out sA15 sA16 := .trans (.run 100000 124 rfl) (.gc [2098, 2118, 6032, 6029, 6030, 6028, 2120, 5987, 2150, 6027, 5984, 5985, 5804, 5803, 2146, 5983, 5907, 5980, 2147, 6, 7, 0, 1] pA16)
theorem pth17 : Path E I Tryz.link.done Tryz.link.tWg out sA16 sA17 := .trans (.run 100000 145 rfl) (.gc [6278, 6289, 6286, 6901, 2098, 2118, 6287, 6254, 6277, 6256, 6032, 6276, 6288, 6281, 6029, 6030, 6028, 2120, 5987, 2150, 6027, 5984, 5985, 5804, 5803, 2146, 5983, 5907, 5980, 2147, 6, 7, 0, 1] pA17)
theorem pth18 : Path E I Tryz.link.done Tryz.link.tWg out sA17 sA18 := .trans (.run 100000 110 rfl) (.gc [6278, 6289, 6286, 6901, 2098, 2118, 6904, 6287, 6254, 6277, 6256, 6032, 6276, 6902, 6288, 6281, 6909, 6029, 6030, 6028, 2120, 5987, 2150, 6027, 5984, 5985, 5804, 5803, 2146, 5983, 5907, 5980, 2147, 6, 7, 0, 1] pA18)
theorem pth19 : Path E I Tryz.link.done Tryz.link.tWg out sA18 sA19 := .trans (.run 100000 74 rfl) (.gc [6909, 7461, 7170, 7464, 7465, 7460, 7463, 7462, 6278, 6289, 6286, 6901, 2098, 2118, 6904, 6287, 6254, 6277, 6256, 6032, 6276, 6902, 6288, 6281, 6029, 6030, 6028, 2120, 5987, 2150, 6027, 5984, 5985, 5804, 5803, 2146, 5983, 5907, 5980, 2147, 6, 7, 0, 1] pA19)
theorem pth20 : Path E I Tryz.link.done Tryz.link.tWg out sA19 sA20 := by
  obtain ⟨s, h1, h2⟩ := Option.map_eq_some_iff.1 pA20
  exact .trans (.spawn 100000 100000 h1) (.gc [6909, 7461, 7170, 7464, 7465, 7460, 7463, 7462, 6278, 6289, 6286, 6901, 2098, 2118, 6904, 6287, 6254, 6277, 6256, 6032, 6276, 6902, 6288, 6281, 6029, 6030, 6028, 2120, 5987, 2150, 6027, 5984, 5985, 5804, 5803, 2146, 5983, 5907, 5980, 2147, 6, 7, 0, 1] h2)
theorem pth21 : Path E I Tryz.link.done Tryz.link.tWg out sA20 sA21 := .trans (.run 100000 177 rfl) (.gc [2120, 6027, 5987, 5984, 2150, 5985, 7868, 5804, 5803, 2146, 5983, 5907, 5980, 2147, 6, 7, 0, 1] pA21)
theorem pth22 : Path E I Tryz.link.done Tryz.link.tWg out sA21 sA22 := .trans (.run 100000 312 rfl) (.gc [7929, 7937, 7936, 0, 7933, 7949, 7938, 7939, 7940, 7941, 7927, 1] pA22)
theorem path_all : Path E I Tryz.link.done Tryz.link.tWg out sA0 sA22 := .trans pth1 (.trans pth2 (.trans pth3 (.trans pth4 (.trans pth5 (.trans pth6 (.trans pth7 (.trans pth8 (.trans pth9 (.trans pth10 (.trans pth11 (.trans pth12 (.trans pth13 (.trans pth14 (.trans pth15 (.trans pth16 (.trans pth17 (.trans pth18 (.trans pth19 (.trans pth20 (.trans pth21 pth22))))))))))))))))))))
theorem sA0_eq : sA0 = ⟨(enterA E 3 argsA false).getD default, [], eAH⟩ := rfl
theorem entered : enterA E 3 argsA false = some ((enterA E 3 argsA false).getD default) := by
  have h : (enterA E 3 argsA false).isSome = true := by kernel_rfl
  obtain ⟨f, hf⟩ := Option.isSome_iff_exists.1 h
  rw [hf]; rfl
theorem answers_ : ∃ h2, stepA E sA22.f sA22.h = some (.ret (.bool true) h2) := ⟨sA22.h, by kernel_rfl⟩

set_option maxRecDepth 100000 in
theorem seat_run (W : World) (args : Array Value) (hargs : RVs (fun _ => none) argsA args.toList) :
    ∃ M last o w' t', Go.runNT Tryz.prog (M + 1) (Go.Conc.solo (Go.Conc.G (Frame.enter Tryz.prog 3 args .normal) []) W) #[] = (.ended o w', t') ∧
      runN Tryz.prog M (Go.Conc.solo (Go.Conc.G (Frame.enter Tryz.prog 3 args .normal) []) W) = .next last ∧ step Tryz.prog last = .ended o w' ∧ Conc.Good Tryz.prog (Ends W (.bool true)) last o w' t' := by
  obtain ⟨h2, ha⟩ := answers_
  exact the_run tabs wait_fine (L := Tryz.link) Tryz.wgLib entered (s' := sA22) (by have := path_all; rw [sA0_eq] at this; exact this) (by kernel_rfl) ha (by kernel_rfl) (by kernel_rfl) (by kernel_rfl) (by kernel_rfl) (by kernel_rfl) W args hargs
end Go.Ev
