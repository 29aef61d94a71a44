/- A part of the proof that pedigreelaw19.WhynotNil returns true for every input (its card: YtieoegkjamcngabGreatDoorMyCard): GP7. Conditions: those of the given row alone. -/
import Derived.Test.YtieoegkjamcngabGreatDoorMyStates
namespace Go.Ev
open Go.Proofs
set_option maxRecDepth 1000000
set_option maxHeartbeats 0
theorem pA7 : (spawnO E I 121 248 100000 100000 out sA6).map (gcO [913, 1847, 1840, 1850, 1851, 1846, 1849, 1848, 1418, 1457, 1835, 1831, 277, 281, 912, 265, 1185, 297, 1814, 1839, 1838, 918, 276, 1819, 1179, 1463, 294, 288, 285, 905, 14, 228, 5, 11, 15, 908, 286, 253, 295, 255, 16, 275, 906, 287, 280, 1, 0]) = some sA7 := by kernel_rfl
end Go.Ev
