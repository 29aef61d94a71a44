/- A part of the proof that the law ProofNil returns true for every input (its card: YtfemddccapnonaaGreatDoorMyCard): AaD12, AaD13, AaD13a, AaD14, AaD15. Conditions: those of the given row alone. -/
import Derived.Test.YtfemddccapnonaaGreatDoorMyStates
import Derived.Test.YtfemddccapnonaaGreatDoorMyFns
import Derived.Test.YtfemddccapnonaaGreatDoorEv7
set_option linter.all false
namespace Go.Ev
open Go.Proofs
set_option maxRecDepth 100000
variable (F0 : Fits Tryz.prog E) (FF0 : FitsF Tryz.prog E)
include F0 FF0
section
variable (w : World) (F : Fits Tryz.prog (E.at w)) (FF : FitsF Tryz.prog (E.at w)) (bb o c : Nat) (kind num : Int) (sym : List UInt8) (hL : ∀ h, loadT (E.at w) h 69 (OLD + bb) o = some (.agg [.int .i64 kind, .int .i64 num, .str sym]))
include w F FF bb o c kind num sym hL
theorem cfp_c0_126_c2_196_c4_281_c6_197_1 (o1 : (chk_v kind num sym != 0) = true) : DV w (ent (E.at w) 197 [(.agg [(zI kind), (zI num), (.str sym)])]) (⟨(zq242 bb c o), 2, 0⟩) (.bool true) ⟨(zq243 bb c kind num o sym), 3, 0⟩ :=
  path_ret F FF (obs := [DW w 154 [(.agg [(zI kind), (zI num), (.str sym)])] ⟨(zq243 bb c kind num o sym), 3, 0⟩ (zI (chk_v kind num sym)) ⟨(zq243 bb c kind num o sym), 3, 0⟩, zT, zA (chk_v kind num sym != 0) true]) [.n 8, .k (zI (chk_v kind num sym)) ⟨(zq243 bb c kind num o sym), 3, 0⟩, .v (.bool true), .n 3] (by kernel_rfl) ⟨(DoesC.over ((chk_does F0 FF0 kind num sym 0).at (fun _ _ => rfl) rfl w) rfl rfl rfl (Nat.le_of_ble_eq_true rfl)), rfl, (zg o1)⟩
theorem cfp_c0_126_c2_196_c4_281_c6_197_2 (o1 : (chk_v kind num sym != 0) = false) : DV w (ent (E.at w) 197 [(.agg [(zI kind), (zI num), (.str sym)])]) (⟨(zq242 bb c o), 2, 0⟩) (.bool false) ⟨(zq243 bb c kind num o sym), 3, 0⟩ :=
  path_ret F FF (obs := [DW w 154 [(.agg [(zI kind), (zI num), (.str sym)])] ⟨(zq243 bb c kind num o sym), 3, 0⟩ (zI (chk_v kind num sym)) ⟨(zq243 bb c kind num o sym), 3, 0⟩, zT, zA (chk_v kind num sym != 0) false]) [.n 8, .k (zI (chk_v kind num sym)) ⟨(zq243 bb c kind num o sym), 3, 0⟩, .v (.bool false), .n 3] (by kernel_rfl) ⟨(DoesC.over ((chk_does F0 FF0 kind num sym 0).at (fun _ _ => rfl) rfl w) rfl rfl rfl (Nat.le_of_ble_eq_true rfl)), rfl, (zg o1)⟩
theorem cfq_c1_126_c3_196_c5_281_c7_197_1 (o1 : (chk_v kind num sym != 0) = true) : DV w (ent (E.at w) 197 [(.agg [(zI kind), (zI num), (.str sym)])]) (⟨(zq244 bb c o), 2, 0⟩) (.bool true) ⟨(zq245 bb c kind num o sym), 3, 0⟩ :=
  path_ret F FF (obs := [DW w 154 [(.agg [(zI kind), (zI num), (.str sym)])] ⟨(zq245 bb c kind num o sym), 3, 0⟩ (zI (chk_v kind num sym)) ⟨(zq245 bb c kind num o sym), 3, 0⟩, zT, zA (chk_v kind num sym != 0) true]) [.n 8, .k (zI (chk_v kind num sym)) ⟨(zq245 bb c kind num o sym), 3, 0⟩, .v (.bool true), .n 3] (by kernel_rfl) ⟨(DoesC.over ((chk_does F0 FF0 kind num sym 0).at (fun _ _ => rfl) rfl w) rfl rfl rfl (Nat.le_of_ble_eq_true rfl)), rfl, (zg o1)⟩
theorem cfq_c1_126_c3_196_c5_281_c7_197_2 (o1 : (chk_v kind num sym != 0) = false) : DV w (ent (E.at w) 197 [(.agg [(zI kind), (zI num), (.str sym)])]) (⟨(zq244 bb c o), 2, 0⟩) (.bool false) ⟨(zq245 bb c kind num o sym), 3, 0⟩ :=
  path_ret F FF (obs := [DW w 154 [(.agg [(zI kind), (zI num), (.str sym)])] ⟨(zq245 bb c kind num o sym), 3, 0⟩ (zI (chk_v kind num sym)) ⟨(zq245 bb c kind num o sym), 3, 0⟩, zT, zA (chk_v kind num sym != 0) false]) [.n 8, .k (zI (chk_v kind num sym)) ⟨(zq245 bb c kind num o sym), 3, 0⟩, .v (.bool false), .n 3] (by kernel_rfl) ⟨(DoesC.over ((chk_does F0 FF0 kind num sym 0).at (fun _ _ => rfl) rfl w) rfl rfl rfl (Nat.le_of_ble_eq_true rfl)), rfl, (zg o1)⟩
theorem cfp_c0_126_c2_196_c4_281_1 (o1 : (chk_v kind num sym != 0) = true) : DV w (ent (E.at w) 281 [(.osl (some (bb, o)) 1 c), (.fn 197 [] [])]) (⟨(zq242 bb c o), 2, 0⟩) (zI 0) ⟨(zq243 bb c kind num o sym), 3, 0⟩ :=
  path_ret F FF (obs := [zT, loadT (E.at w) ⟨(zq242 bb c o), 2, 0⟩ 69 (1152921504606846976 + bb) (o + 0) = some (.agg [(zI kind), (zI num), (.str sym)]), DW w 197 [(.agg [(zI kind), (zI num), (.str sym)])] ⟨(zq242 bb c o), 2, 0⟩ (.bool true) ⟨(zq243 bb c kind num o sym), 3, 0⟩]) [.n 33, .v (.agg [(zI kind), (zI num), (.str sym)]), .k (.bool true) ⟨(zq243 bb c kind num o sym), 3, 0⟩, .n 8] (by kernel_rfl) ⟨rfl, (hL _), (DoesC.ent FF (by kernel_rfl) (cfp_c0_126_c2_196_c4_281_c6_197_1 F0 FF0 w F FF bb o c kind num sym hL o1))⟩
theorem cfp_c0_126_c2_196_c4_281_2 (o1 : (chk_v kind num sym != 0) = false) : DV w (ent (E.at w) 281 [(.osl (some (bb, o)) 1 c), (.fn 197 [] [])]) (⟨(zq242 bb c o), 2, 0⟩) (zI (-1)) ⟨(zq243 bb c kind num o sym), 3, 0⟩ :=
  path_ret F FF (obs := [zT, loadT (E.at w) ⟨(zq242 bb c o), 2, 0⟩ 69 (1152921504606846976 + bb) (o + 0) = some (.agg [(zI kind), (zI num), (.str sym)]), DW w 197 [(.agg [(zI kind), (zI num), (.str sym)])] ⟨(zq242 bb c o), 2, 0⟩ (.bool false) ⟨(zq243 bb c kind num o sym), 3, 0⟩]) [.n 33, .v (.agg [(zI kind), (zI num), (.str sym)]), .k (.bool false) ⟨(zq243 bb c kind num o sym), 3, 0⟩, .n 21] (by kernel_rfl) ⟨rfl, (hL _), (DoesC.ent FF (by kernel_rfl) (cfp_c0_126_c2_196_c4_281_c6_197_2 F0 FF0 w F FF bb o c kind num sym hL o1))⟩
theorem cfq_c1_126_c3_196_c5_281_1 (o1 : (chk_v kind num sym != 0) = true) : DV w (ent (E.at w) 281 [(.osl (some (bb, o)) 1 c), (.fn 197 [] [])]) (⟨(zq244 bb c o), 2, 0⟩) (zI 0) ⟨(zq245 bb c kind num o sym), 3, 0⟩ :=
  path_ret F FF (obs := [zT, loadT (E.at w) ⟨(zq244 bb c o), 2, 0⟩ 69 (1152921504606846976 + bb) (o + 0) = some (.agg [(zI kind), (zI num), (.str sym)]), DW w 197 [(.agg [(zI kind), (zI num), (.str sym)])] ⟨(zq244 bb c o), 2, 0⟩ (.bool true) ⟨(zq245 bb c kind num o sym), 3, 0⟩]) [.n 33, .v (.agg [(zI kind), (zI num), (.str sym)]), .k (.bool true) ⟨(zq245 bb c kind num o sym), 3, 0⟩, .n 8] (by kernel_rfl) ⟨rfl, (hL _), (DoesC.ent FF (by kernel_rfl) (cfq_c1_126_c3_196_c5_281_c7_197_1 F0 FF0 w F FF bb o c kind num sym hL o1))⟩
theorem cfq_c1_126_c3_196_c5_281_2 (o1 : (chk_v kind num sym != 0) = false) : DV w (ent (E.at w) 281 [(.osl (some (bb, o)) 1 c), (.fn 197 [] [])]) (⟨(zq244 bb c o), 2, 0⟩) (zI (-1)) ⟨(zq245 bb c kind num o sym), 3, 0⟩ :=
  path_ret F FF (obs := [zT, loadT (E.at w) ⟨(zq244 bb c o), 2, 0⟩ 69 (1152921504606846976 + bb) (o + 0) = some (.agg [(zI kind), (zI num), (.str sym)]), DW w 197 [(.agg [(zI kind), (zI num), (.str sym)])] ⟨(zq244 bb c o), 2, 0⟩ (.bool false) ⟨(zq245 bb c kind num o sym), 3, 0⟩]) [.n 33, .v (.agg [(zI kind), (zI num), (.str sym)]), .k (.bool false) ⟨(zq245 bb c kind num o sym), 3, 0⟩, .n 21] (by kernel_rfl) ⟨rfl, (hL _), (DoesC.ent FF (by kernel_rfl) (cfq_c1_126_c3_196_c5_281_c7_197_2 F0 FF0 w F FF bb o c kind num sym hL o1))⟩
theorem cfp_c0_126_c2_196_1 (o1 : (chk_v kind num sym != 0) = true) : DV w (ent (E.at w) 196 [(.osl (some (bb, o)) 1 c), (.fn 197 [] [])]) (⟨(zq242 bb c o), 2, 0⟩) (.bool true) ⟨(zq243 bb c kind num o sym), 3, 0⟩ :=
  path_ret F FF (obs := [DW w 281 [(.osl (some (bb, o)) 1 c), (.fn 197 [] [])] ⟨(zq242 bb c o), 2, 0⟩ (zI 0) ⟨(zq243 bb c kind num o sym), 3, 0⟩]) [.n 8, .k (zI 0) ⟨(zq243 bb c kind num o sym), 3, 0⟩, .n 4] (by kernel_rfl) (DoesC.ent FF (by kernel_rfl) (cfp_c0_126_c2_196_c4_281_1 F0 FF0 w F FF bb o c kind num sym hL o1))
theorem cfp_c0_126_c2_196_2 (o1 : (chk_v kind num sym != 0) = false) : DV w (ent (E.at w) 196 [(.osl (some (bb, o)) 1 c), (.fn 197 [] [])]) (⟨(zq242 bb c o), 2, 0⟩) (.bool false) ⟨(zq243 bb c kind num o sym), 3, 0⟩ :=
  path_ret F FF (obs := [DW w 281 [(.osl (some (bb, o)) 1 c), (.fn 197 [] [])] ⟨(zq242 bb c o), 2, 0⟩ (zI (-1)) ⟨(zq243 bb c kind num o sym), 3, 0⟩]) [.n 8, .k (zI (-1)) ⟨(zq243 bb c kind num o sym), 3, 0⟩, .n 4] (by kernel_rfl) (DoesC.ent FF (by kernel_rfl) (cfp_c0_126_c2_196_c4_281_2 F0 FF0 w F FF bb o c kind num sym hL o1))
theorem cfq_c1_126_c3_196_1 (o1 : (chk_v kind num sym != 0) = true) : DV w (ent (E.at w) 196 [(.osl (some (bb, o)) 1 c), (.fn 197 [] [])]) (⟨(zq244 bb c o), 2, 0⟩) (.bool true) ⟨(zq245 bb c kind num o sym), 3, 0⟩ :=
  path_ret F FF (obs := [DW w 281 [(.osl (some (bb, o)) 1 c), (.fn 197 [] [])] ⟨(zq244 bb c o), 2, 0⟩ (zI 0) ⟨(zq245 bb c kind num o sym), 3, 0⟩]) [.n 8, .k (zI 0) ⟨(zq245 bb c kind num o sym), 3, 0⟩, .n 4] (by kernel_rfl) (DoesC.ent FF (by kernel_rfl) (cfq_c1_126_c3_196_c5_281_1 F0 FF0 w F FF bb o c kind num sym hL o1))
theorem cfq_c1_126_c3_196_2 (o1 : (chk_v kind num sym != 0) = false) : DV w (ent (E.at w) 196 [(.osl (some (bb, o)) 1 c), (.fn 197 [] [])]) (⟨(zq244 bb c o), 2, 0⟩) (.bool false) ⟨(zq245 bb c kind num o sym), 3, 0⟩ :=
  path_ret F FF (obs := [DW w 281 [(.osl (some (bb, o)) 1 c), (.fn 197 [] [])] ⟨(zq244 bb c o), 2, 0⟩ (zI (-1)) ⟨(zq245 bb c kind num o sym), 3, 0⟩]) [.n 8, .k (zI (-1)) ⟨(zq245 bb c kind num o sym), 3, 0⟩, .n 4] (by kernel_rfl) (DoesC.ent FF (by kernel_rfl) (cfq_c1_126_c3_196_c5_281_2 F0 FF0 w F FF bb o c kind num sym hL o1))
theorem cfp_c0_126_1 (o1 : (chk_v kind num sym != 0) = true) : DV w (ent (E.at w) 126 [(.osl (some (bb, o)) 1 c)]) (⟨(zq242 bb c o), 2, 0⟩) (.bool false) ⟨(zq243 bb c kind num o sym), 3, 0⟩ :=
  path_ret F FF (obs := [DW w 196 [(.osl (some (bb, o)) 1 c), (.fn 197 [] [])] ⟨(zq242 bb c o), 2, 0⟩ (.bool true) ⟨(zq243 bb c kind num o sym), 3, 0⟩]) [.n 7, .k (.bool true) ⟨(zq243 bb c kind num o sym), 3, 0⟩, .n 4] (by kernel_rfl) (DoesC.ent FF (by kernel_rfl) (cfp_c0_126_c2_196_1 F0 FF0 w F FF bb o c kind num sym hL o1))
theorem cfp_c0_126_2 (o1 : (chk_v kind num sym != 0) = false) : DV w (ent (E.at w) 126 [(.osl (some (bb, o)) 1 c)]) (⟨(zq242 bb c o), 2, 0⟩) (.bool true) ⟨(zq243 bb c kind num o sym), 3, 0⟩ :=
  path_ret F FF (obs := [DW w 196 [(.osl (some (bb, o)) 1 c), (.fn 197 [] [])] ⟨(zq242 bb c o), 2, 0⟩ (.bool false) ⟨(zq243 bb c kind num o sym), 3, 0⟩]) [.n 7, .k (.bool false) ⟨(zq243 bb c kind num o sym), 3, 0⟩, .n 4] (by kernel_rfl) (DoesC.ent FF (by kernel_rfl) (cfp_c0_126_c2_196_2 F0 FF0 w F FF bb o c kind num sym hL o1))
theorem cfq_c1_126_1 (o1 : (chk_v kind num sym != 0) = true) : DV w (ent (E.at w) 126 [(.osl (some (bb, o)) 1 c)]) (⟨(zq244 bb c o), 2, 0⟩) (.bool false) ⟨(zq245 bb c kind num o sym), 3, 0⟩ :=
  path_ret F FF (obs := [DW w 196 [(.osl (some (bb, o)) 1 c), (.fn 197 [] [])] ⟨(zq244 bb c o), 2, 0⟩ (.bool true) ⟨(zq245 bb c kind num o sym), 3, 0⟩]) [.n 7, .k (.bool true) ⟨(zq245 bb c kind num o sym), 3, 0⟩, .n 4] (by kernel_rfl) (DoesC.ent FF (by kernel_rfl) (cfq_c1_126_c3_196_1 F0 FF0 w F FF bb o c kind num sym hL o1))
theorem cfq_c1_126_2 (o1 : (chk_v kind num sym != 0) = false) : DV w (ent (E.at w) 126 [(.osl (some (bb, o)) 1 c)]) (⟨(zq244 bb c o), 2, 0⟩) (.bool true) ⟨(zq245 bb c kind num o sym), 3, 0⟩ :=
  path_ret F FF (obs := [DW w 196 [(.osl (some (bb, o)) 1 c), (.fn 197 [] [])] ⟨(zq244 bb c o), 2, 0⟩ (.bool false) ⟨(zq245 bb c kind num o sym), 3, 0⟩]) [.n 7, .k (.bool false) ⟨(zq245 bb c kind num o sym), 3, 0⟩, .n 4] (by kernel_rfl) (DoesC.ent FF (by kernel_rfl) (cfq_c1_126_c3_196_2 F0 FF0 w F FF bb o c kind num sym hL o1))
theorem cfp_1 (o1 : (chk_v kind num sym != 0) = true) : DV w (ent (E.at w) 74 [.agg [.str [112], .osl (some (bb, o)) 1 c]]) (⟨.e, 0, 0⟩) (zI 20) ⟨(zq243 bb c kind num o sym), 3, 0⟩ :=
  path_ret F FF (obs := [DW w 125 [(.str [112])] ⟨(zq105 bb c o), 1, 0⟩ (.bool true) ⟨(zq242 bb c o), 2, 0⟩, DW w 126 [(.osl (some (bb, o)) 1 c)] ⟨(zq242 bb c o), 2, 0⟩ (.bool false) ⟨(zq243 bb c kind num o sym), 3, 0⟩]) [.n 10, .k (.bool true) ⟨(zq242 bb c o), 2, 0⟩, .n 10, .k (.bool false) ⟨(zq243 bb c kind num o sym), 3, 0⟩, .n 9] (by kernel_rfl) ⟨(DoesC.of_run F FF (n := 3000) (p := ((.bool true), ⟨(zq242 bb c o), 2, 0⟩)) (by kernel_rfl)), (DoesC.ent FF (by kernel_rfl) (cfp_c0_126_1 F0 FF0 w F FF bb o c kind num sym hL o1))⟩
theorem cfp_1_d (o1 : (chk_v kind num sym != 0) = true) : DW w 74 [.agg [.str [112], .osl (some (bb, o)) 1 c]] (⟨.e, 0, 0⟩) (zI 20) (⟨.e, 0, 0⟩) :=
  DoesC.drop (DoesC.ent FF (by kernel_rfl) (cfp_1 F0 FF0 w F FF bb o c kind num sym hL o1)) [] (by kernel_rfl) (by kernel_rfl) (by kernel_rfl) rfl (by kernel_rfl) (by kernel_rfl) (by kernel_rfl)
theorem cfp_2 (o1 : (chk_v kind num sym != 0) = false) : DV w (ent (E.at w) 74 [.agg [.str [112], .osl (some (bb, o)) 1 c]]) (⟨.e, 0, 0⟩) (zI 0) ⟨(zq243 bb c kind num o sym), 3, 0⟩ :=
  path_ret F FF (obs := [DW w 125 [(.str [112])] ⟨(zq105 bb c o), 1, 0⟩ (.bool true) ⟨(zq242 bb c o), 2, 0⟩, DW w 126 [(.osl (some (bb, o)) 1 c)] ⟨(zq242 bb c o), 2, 0⟩ (.bool true) ⟨(zq243 bb c kind num o sym), 3, 0⟩]) [.n 10, .k (.bool true) ⟨(zq242 bb c o), 2, 0⟩, .n 10, .k (.bool true) ⟨(zq243 bb c kind num o sym), 3, 0⟩, .n 10] (by kernel_rfl) ⟨(DoesC.of_run F FF (n := 3000) (p := ((.bool true), ⟨(zq242 bb c o), 2, 0⟩)) (by kernel_rfl)), (DoesC.ent FF (by kernel_rfl) (cfp_c0_126_2 F0 FF0 w F FF bb o c kind num sym hL o1))⟩
theorem cfp_2_d (o1 : (chk_v kind num sym != 0) = false) : DW w 74 [.agg [.str [112], .osl (some (bb, o)) 1 c]] (⟨.e, 0, 0⟩) (zI 0) (⟨.e, 0, 0⟩) :=
  DoesC.drop (DoesC.ent FF (by kernel_rfl) (cfp_2 F0 FF0 w F FF bb o c kind num sym hL o1)) [] (by kernel_rfl) (by kernel_rfl) (by kernel_rfl) rfl (by kernel_rfl) (by kernel_rfl) (by kernel_rfl)
theorem cfq_1 (o1 : (chk_v kind num sym != 0) = true) : DV w (ent (E.at w) 74 [.agg [.str [113], .osl (some (bb, o)) 1 c]]) (⟨.e, 0, 0⟩) (zI 20) ⟨(zq245 bb c kind num o sym), 3, 0⟩ :=
  path_ret F FF (obs := [DW w 125 [(.str [113])] ⟨(zq134 bb c o), 1, 0⟩ (.bool true) ⟨(zq244 bb c o), 2, 0⟩, DW w 126 [(.osl (some (bb, o)) 1 c)] ⟨(zq244 bb c o), 2, 0⟩ (.bool false) ⟨(zq245 bb c kind num o sym), 3, 0⟩]) [.n 10, .k (.bool true) ⟨(zq244 bb c o), 2, 0⟩, .n 10, .k (.bool false) ⟨(zq245 bb c kind num o sym), 3, 0⟩, .n 9] (by kernel_rfl) ⟨(DoesC.of_run F FF (n := 3000) (p := ((.bool true), ⟨(zq244 bb c o), 2, 0⟩)) (by kernel_rfl)), (DoesC.ent FF (by kernel_rfl) (cfq_c1_126_1 F0 FF0 w F FF bb o c kind num sym hL o1))⟩
theorem cfq_1_d (o1 : (chk_v kind num sym != 0) = true) : DW w 74 [.agg [.str [113], .osl (some (bb, o)) 1 c]] (⟨.e, 0, 0⟩) (zI 20) (⟨.e, 0, 0⟩) :=
  DoesC.drop (DoesC.ent FF (by kernel_rfl) (cfq_1 F0 FF0 w F FF bb o c kind num sym hL o1)) [] (by kernel_rfl) (by kernel_rfl) (by kernel_rfl) rfl (by kernel_rfl) (by kernel_rfl) (by kernel_rfl)
theorem cfq_2 (o1 : (chk_v kind num sym != 0) = false) : DV w (ent (E.at w) 74 [.agg [.str [113], .osl (some (bb, o)) 1 c]]) (⟨.e, 0, 0⟩) (zI 0) ⟨(zq245 bb c kind num o sym), 3, 0⟩ :=
  path_ret F FF (obs := [DW w 125 [(.str [113])] ⟨(zq134 bb c o), 1, 0⟩ (.bool true) ⟨(zq244 bb c o), 2, 0⟩, DW w 126 [(.osl (some (bb, o)) 1 c)] ⟨(zq244 bb c o), 2, 0⟩ (.bool true) ⟨(zq245 bb c kind num o sym), 3, 0⟩]) [.n 10, .k (.bool true) ⟨(zq244 bb c o), 2, 0⟩, .n 10, .k (.bool true) ⟨(zq245 bb c kind num o sym), 3, 0⟩, .n 10] (by kernel_rfl) ⟨(DoesC.of_run F FF (n := 3000) (p := ((.bool true), ⟨(zq244 bb c o), 2, 0⟩)) (by kernel_rfl)), (DoesC.ent FF (by kernel_rfl) (cfq_c1_126_2 F0 FF0 w F FF bb o c kind num sym hL o1))⟩
theorem cfq_2_d (o1 : (chk_v kind num sym != 0) = false) : DW w 74 [.agg [.str [113], .osl (some (bb, o)) 1 c]] (⟨.e, 0, 0⟩) (zI 0) (⟨.e, 0, 0⟩) :=
  DoesC.drop (DoesC.ent FF (by kernel_rfl) (cfq_2 F0 FF0 w F FF bb o c kind num sym hL o1)) [] (by kernel_rfl) (by kernel_rfl) (by kernel_rfl) rfl (by kernel_rfl) (by kernel_rfl) (by kernel_rfl)
end
end Go.Ev
set_option linter.all false
namespace Go.Ev
open Go.Proofs
set_option maxRecDepth 100000
variable (F0 : Fits Tryz.prog E) (FF0 : FitsF Tryz.prog E)
include F0 FF0
section
variable (w : World) (F : Fits Tryz.prog (E.at w)) (FF : FitsF Tryz.prog (E.at w)) (kind num : Int) (sym : List UInt8)
include w F FF kind num sym
theorem c197_1 (o1 : (chk_v kind num sym != 0) = true) : DV w (ent (E.at w) 197 [.agg [.int .i64 kind, .int .i64 num, .str sym]]) (⟨.e, 0, 0⟩) (.bool true) ⟨(zq128 kind num sym), 1, 0⟩ :=
  path_ret F FF (obs := [DW w 154 [(.agg [(zI kind), (zI num), (.str sym)])] ⟨(zq128 kind num sym), 1, 0⟩ (zI (chk_v kind num sym)) ⟨(zq128 kind num sym), 1, 0⟩, zT, zA (chk_v kind num sym != 0) true]) [.n 8, .k (zI (chk_v kind num sym)) ⟨(zq128 kind num sym), 1, 0⟩, .v (.bool true), .n 3] (by kernel_rfl) ⟨(DoesC.over ((chk_does F0 FF0 kind num sym 0).at (fun _ _ => rfl) rfl w) rfl rfl rfl (Nat.le_of_ble_eq_true rfl)), rfl, (zg o1)⟩
theorem c197_1_d (o1 : (chk_v kind num sym != 0) = true) : DW w 197 [.agg [.int .i64 kind, .int .i64 num, .str sym]] (⟨.e, 0, 0⟩) (.bool true) (⟨.e, 0, 0⟩) :=
  DoesC.drop (DoesC.ent FF (by kernel_rfl) (c197_1 F0 FF0 w F FF kind num sym o1)) [] (by kernel_rfl) (by kernel_rfl) (by kernel_rfl) rfl (by kernel_rfl) (by kernel_rfl) (by kernel_rfl)
theorem c197_2 (o1 : (chk_v kind num sym != 0) = false) : DV w (ent (E.at w) 197 [.agg [.int .i64 kind, .int .i64 num, .str sym]]) (⟨.e, 0, 0⟩) (.bool false) ⟨(zq128 kind num sym), 1, 0⟩ :=
  path_ret F FF (obs := [DW w 154 [(.agg [(zI kind), (zI num), (.str sym)])] ⟨(zq128 kind num sym), 1, 0⟩ (zI (chk_v kind num sym)) ⟨(zq128 kind num sym), 1, 0⟩, zT, zA (chk_v kind num sym != 0) false]) [.n 8, .k (zI (chk_v kind num sym)) ⟨(zq128 kind num sym), 1, 0⟩, .v (.bool false), .n 3] (by kernel_rfl) ⟨(DoesC.over ((chk_does F0 FF0 kind num sym 0).at (fun _ _ => rfl) rfl w) rfl rfl rfl (Nat.le_of_ble_eq_true rfl)), rfl, (zg o1)⟩
theorem c197_2_d (o1 : (chk_v kind num sym != 0) = false) : DW w 197 [.agg [.int .i64 kind, .int .i64 num, .str sym]] (⟨.e, 0, 0⟩) (.bool false) (⟨.e, 0, 0⟩) :=
  DoesC.drop (DoesC.ent FF (by kernel_rfl) (c197_2 F0 FF0 w F FF kind num sym o1)) [] (by kernel_rfl) (by kernel_rfl) (by kernel_rfl) rfl (by kernel_rfl) (by kernel_rfl) (by kernel_rfl)
end
end Go.Ev
set_option linter.all false
namespace Go.Ev
open Go.Proofs
theorem idx_old {E : Env} {t e : TypeId} {z : Nat} (ht : E.d t = some (.slice e)) (he : (E.tt.get e).map (·.size) = some z) (hp : E.peek = true) {b o n c : Nat} {i : Int} (h0 : 0 ≤ i) (h1 : i < n) :
    indexAddrA E t (unS E (.osl (some (b, o)) n c)) (zI i) = some (.ptr (OLD + b) (o + i.toNat * z)) := by
  obtain ⟨ei, h2, rfl⟩ := Option.map_eq_some_iff.1 he
  show indexAddrA E t (cond E.peek (.sl (OLD + b) o n (some c)) .any) (zI i) = _
  rw [hp]
  unfold indexAddrA
  rw [ht]
  show (match E.tt.get e with | some ei => cond (decide (0 ≤ i ∧ i < n)) (some (AV.ptr (OLD + b) (o + i.toNat * ei.size))) none | none => none) = _
  rw [h2]
  show cond (decide (0 ≤ i ∧ i < n)) _ _ = _
  rw [decide_eq_true ⟨h0, h1⟩]
  rfl
theorem path_st {P : Program} {E : Env} (F : Fits P E) (FF : FitsF P E) {f f' : AF} {h h' : AH} {obs : List Prop} (l : List Ans) (e : pathP P E l f h = some (f', h', obs)) (H : All obs) : DoesS P E f h f' h' := path_ok F FF l f h e H
end Go.Ev
set_option linter.all false
namespace Go.Ev
open Go.Proofs
set_option maxRecDepth 100000
theorem ix1 (w : World) (F : Fits Tryz.prog (E.at w)) (FF : FitsF Tryz.prog (E.at w)) (bb o n c : Nat) (i : Int) (kind num : Int) (sym : List UInt8) (h0 : 0 ≤ i) (h1 : i < n) (hL : ∀ h, loadT (E.at w) h 69 (OLD + bb) (o + i.toNat * 3) = some (.agg [.int .i64 kind, .int .i64 num, .str sym])) (hC : DW w 197 [.agg [.int .i64 kind, .int .i64 num, .str sym]] ⟨.e, 0, 0⟩ (.bool false) ⟨.e, 0, 0⟩) (o1 : (decide (i < (↑n : Int))) = true) : DoesS Tryz.prog (E.at w) ((⟨⟨281, false, none, 19⟩, (zN (zN (zO (zL (zI ((↑n : Int)))) .e) (.fn 197 [] []) .e) (.osl (some (bb, o)) n c) (zO (zN (zL (zI i)) (zI 0) .e) (zL (.osl (some (bb, o)) n c)))), [.code (cAt Tryz.f281 [1, 0, 1, 0, 0]), .inLoop (cAt Tryz.f281 [1, 0, 1, 0, 0]), .inBlock 0, .code (cAt Tryz.f281 [1, 1])], [], false⟩ : AF)) (⟨.e, 0, 0⟩) ⟨⟨281, false, none, 19⟩, (zN (zN (zO (zL (zI ((↑n : Int)))) .e) (.fn 197 [] []) .e) (.osl (some (bb, o)) n c) (zO (zN (zL (zI (IntKind.i64.wrap (i + 1)))) (zI 0) .e) (zL (.osl (some (bb, o)) n c)))), [.code (cAt Tryz.f281 [1, 0, 1, 0, 0]), .inLoop (cAt Tryz.f281 [1, 0, 1, 0, 0]), .inBlock 0, .code (cAt Tryz.f281 [1, 1])], [], false⟩ ⟨.e, 0, 0⟩ :=
  path_to F FF (obs := [some true = some true, some (AV.bool (decide (i < (↑n : Int)))) = some (AV.bool true), some true = some true, indexAddrA (E.at w) 22 (unS (E.at w) (.osl (some (bb, o)) n c)) (zI i) = some (zP (1152921504606846976 + bb) (o + i.toNat * 3)), some true = some true, loadT (E.at w) ⟨.e, 0, 0⟩ 69 (1152921504606846976 + bb) (o + i.toNat * 3) = some (.agg [(zI kind), (zI num), (.str sym)]), DW w 197 [(.agg [(zI kind), (zI num), (.str sym)])] ⟨.e, 0, 0⟩ (.bool false) ⟨.e, 0, 0⟩]) [.n 2, .v (.bool true), .n 16, .v (zP (1152921504606846976 + bb) (o + i.toNat * 3)), .v (.agg [(zI kind), (zI num), (.str sym)]), .k (.bool false) ⟨.e, 0, 0⟩, .n 9] [0, 1, 4, 6, 7, 8] (by kernel_rfl) ⟨rfl, (congrArg (fun z => some (AV.bool z)) o1), rfl, (idx_old (e := 69) (by kernel_rfl) (by kernel_rfl) rfl h0 h1), rfl, (hL _), (hC)⟩
theorem ix2 (w : World) (F : Fits Tryz.prog (E.at w)) (FF : FitsF Tryz.prog (E.at w)) (bb o n c : Nat) (i : Int) (kind num : Int) (sym : List UInt8) (h0 : 0 ≤ i) (h1 : i < n) (hL : ∀ h, loadT (E.at w) h 69 (OLD + bb) (o + i.toNat * 3) = some (.agg [.int .i64 kind, .int .i64 num, .str sym])) (hC : DW w 197 [.agg [.int .i64 kind, .int .i64 num, .str sym]] ⟨.e, 0, 0⟩ (.bool true) ⟨.e, 0, 0⟩) (o1 : (decide (i < (↑n : Int))) = true) : DV w ((⟨⟨281, false, none, 19⟩, (zN (zN (zO (zL (zI ((↑n : Int)))) .e) (.fn 197 [] []) .e) (.osl (some (bb, o)) n c) (zO (zN (zL (zI i)) (zI 0) .e) (zL (.osl (some (bb, o)) n c)))), [.code (cAt Tryz.f281 [1, 0, 1, 0, 0]), .inLoop (cAt Tryz.f281 [1, 0, 1, 0, 0]), .inBlock 0, .code (cAt Tryz.f281 [1, 1])], [], false⟩ : AF)) (⟨.e, 0, 0⟩) (zI i) ⟨.e, 0, 0⟩ :=
  path_ret F FF (obs := [some true = some true, some (AV.bool (decide (i < (↑n : Int)))) = some (AV.bool true), some true = some true, indexAddrA (E.at w) 22 (unS (E.at w) (.osl (some (bb, o)) n c)) (zI i) = some (zP (1152921504606846976 + bb) (o + i.toNat * 3)), some true = some true, loadT (E.at w) ⟨.e, 0, 0⟩ 69 (1152921504606846976 + bb) (o + i.toNat * 3) = some (.agg [(zI kind), (zI num), (.str sym)]), DW w 197 [(.agg [(zI kind), (zI num), (.str sym)])] ⟨.e, 0, 0⟩ (.bool true) ⟨.e, 0, 0⟩]) [.n 2, .v (.bool true), .n 16, .v (zP (1152921504606846976 + bb) (o + i.toNat * 3)), .v (.agg [(zI kind), (zI num), (.str sym)]), .k (.bool true) ⟨.e, 0, 0⟩, .n 8] (by kernel_rfl) ⟨rfl, (congrArg (fun z => some (AV.bool z)) o1), rfl, (idx_old (e := 69) (by kernel_rfl) (by kernel_rfl) rfl h0 h1), rfl, (hL _), (hC)⟩
theorem ix3 (w : World) (F : Fits Tryz.prog (E.at w)) (FF : FitsF Tryz.prog (E.at w)) (a : Option (Nat × Nat)) (n c : Nat) (i : Int) (o1 : (decide (i < (↑n : Int))) = false) : DV w ((⟨⟨281, false, none, 19⟩, (zN (zN (zO (zL (zI ((↑n : Int)))) .e) (.fn 197 [] []) .e) (.osl a n c) (zO (zN (zL (zI i)) (zI 0) .e) (zL (.osl a n c)))), [.code (cAt Tryz.f281 [1, 0, 1, 0, 0]), .inLoop (cAt Tryz.f281 [1, 0, 1, 0, 0]), .inBlock 0, .code (cAt Tryz.f281 [1, 1])], [], false⟩ : AF)) (⟨.e, 0, 0⟩) (zI (-1)) ⟨.e, 0, 0⟩ :=
  path_ret F FF (obs := [some true = some true, some (AV.bool (decide (i < (↑n : Int)))) = some (AV.bool false)]) [.n 2, .v (.bool false), .n 9] (by kernel_rfl) ⟨rfl, (congrArg (fun z => some (AV.bool z)) o1)⟩
theorem ix0 (w : World) (F : Fits Tryz.prog (E.at w)) (FF : FitsF Tryz.prog (E.at w)) (a : Option (Nat × Nat)) (n c : Nat)  : DoesS Tryz.prog (E.at w) (ent (E.at w) 281 [.osl a n c, .fn 197 [] []]) (⟨.e, 0, 0⟩) ⟨⟨281, false, none, 19⟩, (zN (zN (zO (zL (zI ((↑n : Int)))) .e) (.fn 197 [] []) .e) (.osl a n c) (zO (zN (zL (zI 0)) (zI 0) .e) (zL (.osl a n c)))), [.code (cAt Tryz.f281 [1, 0, 1, 0, 0]), .inLoop (cAt Tryz.f281 [1, 0, 1, 0, 0]), .inBlock 0, .code (cAt Tryz.f281 [1, 1])], [], false⟩ ⟨.e, 0, 0⟩ :=
  path_to F FF (obs := []) [.n 13] [0, 1, 4, 6, 7, 8] (by kernel_rfl) trivial
noncomputable def ixH (a : Option (Nat × Nat)) (n c : Nat) (i : Int) : AF := ⟨⟨281, false, none, 19⟩, (zN (zN (zO (zL (zI ((↑n : Int)))) .e) (.fn 197 [] []) .e) (.osl a n c) (zO (zN (zL (zI i)) (zI 0) .e) (zL (.osl a n c)))), [.code (cAt Tryz.f281 [1, 0, 1, 0, 0]), .inLoop (cAt Tryz.f281 [1, 0, 1, 0, 0]), .inBlock 0, .code (cAt Tryz.f281 [1, 1])], [], false⟩
section
variable (F0 : Fits Tryz.prog E) (FF0 : FitsF Tryz.prog E)
include F0 FF0
def ValsL (w : World) (bb o n : Nat) : Prop := ∀ i, i < n → ∃ (k m : Int) (s : List UInt8), ∀ h, loadT (E.at w) h 69 (OLD + bb) (o + i * 3) = some (.agg [.int .i64 k, .int .i64 m, .str s])
theorem ix_loop (w : World) (F : Fits Tryz.prog (E.at w)) (FF : FitsF Tryz.prog (E.at w)) (bb o n c : Nat) (hn : n ≤ 9223372036854775807) (hV : ValsL w bb o n) : ∀ (m i : Nat), i ≤ n → n - i = m → ∃ r : Int, DV w (ixH (some (bb, o)) n c (↑i : Int)) ⟨.e, 0, 0⟩ (zI r) ⟨.e, 0, 0⟩ := by
  intro m
  induction m with
  | zero =>
    intro i h1 h2
    exact ⟨-1, ix3 w F FF _ n c _ (decide_eq_false (by omega))⟩
  | succ m ih =>
    intro i h1 h2
    obtain ⟨k, u, s, hL⟩ := hV i (by omega)
    have hL' : ∀ h, loadT (E.at w) h 69 (OLD + bb) (o + (↑i : Int).toNat * 3) = some (.agg [.int .i64 k, .int .i64 u, .str s]) := by
      rw [Int.toNat_natCast]; exact hL
    rcases Bool.eq_false_or_eq_true (chk_v k u s != 0) with hc | hc
    · exact ⟨_, ix2 w F FF bb o n c i k u s (by omega) (by omega) hL' (c197_1_d F0 FF0 w F FF k u s hc) (decide_eq_true (by omega))⟩
    · obtain ⟨r, hr⟩ := ih (i + 1) (by omega) (by omega)
      have h := ix1 w F FF bb o n c i k u s (by omega) (by omega) hL' (c197_2_d F0 FF0 w F FF k u s hc) (decide_eq_true (by omega))
      rw [wrap_i64 (by omega) (by omega)] at h
      exact ⟨r, Does.of h hr⟩
def ListL (w : World) (a : Option (Nat × Nat)) (n : Nat) : Prop := n = 0 ∨ ∃ bb o, a = some (bb, o) ∧ ValsL w bb o n
theorem ix_does (w : World) (F : Fits Tryz.prog (E.at w)) (FF : FitsF Tryz.prog (E.at w)) {a : Option (Nat × Nat)} {n : Nat} (c : Nat) (hn : n ≤ 9223372036854775807) (hA : ListL w a n) : ∃ r : Int, DW w 281 [.osl a n c, .fn 197 [] []] ⟨.e, 0, 0⟩ (zI r) ⟨.e, 0, 0⟩ := by
  suffices h : ∃ r : Int, DV w (ixH a n c 0) ⟨.e, 0, 0⟩ (zI r) ⟨.e, 0, 0⟩ by
    obtain ⟨r, h⟩ := h
    exact ⟨r, DoesC.ent FF (by kernel_rfl) (Does.of (ix0 w F FF a n c) h)⟩
  rcases hA with rfl | ⟨bb, o, rfl, hV⟩
  · exact ⟨-1, ix3 w F FF a 0 c 0 rfl⟩
  · exact ix_loop F0 FF0 w F FF bb o n c hn hV n 0 (by omega) (by omega)
end
end Go.Ev
set_option linter.all false
namespace Go.Ev
open Go.Proofs
set_option maxRecDepth 100000
variable (F0 : Fits Tryz.prog E) (FF0 : FitsF Tryz.prog E)
include F0 FF0
section
variable (w : World) (F : Fits Tryz.prog (E.at w)) (FF : FitsF Tryz.prog (E.at w)) (a : Option (Nat × Nat)) (n c : Nat) (r : Int) (h281 : DW w 281 [.osl a n c, .fn 197 [] []] ⟨.e, 0, 0⟩ (zI r) ⟨.e, 0, 0⟩)
include w F FF a n c r h281
theorem al_c0_196_1 (o1 : (decide (r ≥ 0)) = true) : DV w (ent (E.at w) 196 [(.osl a n c), (.fn 197 [] [])]) (⟨.e, 0, 0⟩) (.bool true) ⟨.e, 0, 0⟩ :=
  path_ret F FF (obs := [DW w 281 [(.osl a n c), (.fn 197 [] [])] ⟨.e, 0, 0⟩ (zI r) ⟨.e, 0, 0⟩, zT, zA (decide (r ≥ 0)) true]) [.n 8, .k (zI r) ⟨.e, 0, 0⟩, .v (.bool true), .n 3] (by kernel_rfl) ⟨(h281), rfl, (zg o1)⟩
theorem al_c0_196_2 (o1 : (decide (r ≥ 0)) = false) : DV w (ent (E.at w) 196 [(.osl a n c), (.fn 197 [] [])]) (⟨.e, 0, 0⟩) (.bool false) ⟨.e, 0, 0⟩ :=
  path_ret F FF (obs := [DW w 281 [(.osl a n c), (.fn 197 [] [])] ⟨.e, 0, 0⟩ (zI r) ⟨.e, 0, 0⟩, zT, zA (decide (r ≥ 0)) false]) [.n 8, .k (zI r) ⟨.e, 0, 0⟩, .v (.bool false), .n 3] (by kernel_rfl) ⟨(h281), rfl, (zg o1)⟩
theorem al_1 (o1 : (decide (r ≥ 0)) = true) : DV w (ent (E.at w) 126 [.osl a n c]) (⟨.e, 0, 0⟩) (.bool false) ⟨.e, 0, 0⟩ :=
  path_ret F FF (obs := [DW w 196 [(.osl a n c), (.fn 197 [] [])] ⟨.e, 0, 0⟩ (.bool true) ⟨.e, 0, 0⟩]) [.n 7, .k (.bool true) ⟨.e, 0, 0⟩, .n 4] (by kernel_rfl) (DoesC.ent FF (by kernel_rfl) (al_c0_196_1 F0 FF0 w F FF a n c r h281 o1))
theorem al_1_d (o1 : (decide (r ≥ 0)) = true) : DW w 126 [.osl a n c] (⟨.e, 0, 0⟩) (.bool false) (⟨.e, 0, 0⟩) :=
  DoesC.drop (DoesC.ent FF (by kernel_rfl) (al_1 F0 FF0 w F FF a n c r h281 o1)) [] (by kernel_rfl) (by kernel_rfl) (by kernel_rfl) rfl (by kernel_rfl) (by kernel_rfl) (by kernel_rfl)
theorem al_2 (o1 : (decide (r ≥ 0)) = false) : DV w (ent (E.at w) 126 [.osl a n c]) (⟨.e, 0, 0⟩) (.bool true) ⟨.e, 0, 0⟩ :=
  path_ret F FF (obs := [DW w 196 [(.osl a n c), (.fn 197 [] [])] ⟨.e, 0, 0⟩ (.bool false) ⟨.e, 0, 0⟩]) [.n 7, .k (.bool false) ⟨.e, 0, 0⟩, .n 4] (by kernel_rfl) (DoesC.ent FF (by kernel_rfl) (al_c0_196_2 F0 FF0 w F FF a n c r h281 o1))
theorem al_2_d (o1 : (decide (r ≥ 0)) = false) : DW w 126 [.osl a n c] (⟨.e, 0, 0⟩) (.bool true) (⟨.e, 0, 0⟩) :=
  DoesC.drop (DoesC.ent FF (by kernel_rfl) (al_2 F0 FF0 w F FF a n c r h281 o1)) [] (by kernel_rfl) (by kernel_rfl) (by kernel_rfl) rfl (by kernel_rfl) (by kernel_rfl) (by kernel_rfl)
end
section
variable (w : World) (F : Fits Tryz.prog (E.at w)) (FF : FitsF Tryz.prog (E.at w)) (a : Option (Nat × Nat)) (n c : Nat) (b : Bool) (h126 : DW w 126 [.osl a n c] ⟨.e, 0, 0⟩ (.bool b) ⟨.e, 0, 0⟩)
include w F FF a n c b h126
theorem cfnp_1 (o1 : (decide ((↑n : Int) > 8)) = true) : DV w (ent (E.at w) 74 [.agg [.str [112], .osl a n c]]) (⟨.e, 0, 0⟩) (zI 20) ⟨(zq246 a c n), 2, 0⟩ :=
  path_ret F FF (obs := [DW w 125 [(.str [112])] ⟨(zq247 a c n), 1, 0⟩ (.bool true) ⟨(zq246 a c n), 2, 0⟩, zT, zA (decide ((↑n : Int) > 8)) true]) [.n 10, .k (.bool true) ⟨(zq246 a c n), 2, 0⟩, .n 5, .v (.bool true), .n 14] (by kernel_rfl) ⟨(DoesC.of_run F FF (n := 3000) (p := ((.bool true), ⟨(zq246 a c n), 2, 0⟩)) (by kernel_rfl)), rfl, (zg o1)⟩
theorem cfnp_1_d (o1 : (decide ((↑n : Int) > 8)) = true) : DW w 74 [.agg [.str [112], .osl a n c]] (⟨.e, 0, 0⟩) (zI 20) (⟨.e, 0, 0⟩) :=
  DoesC.drop (DoesC.ent FF (by kernel_rfl) (cfnp_1 F0 FF0 w F FF a n c b h126 o1)) [] (by kernel_rfl) (by kernel_rfl) (by kernel_rfl) rfl (by kernel_rfl) (by kernel_rfl) (by kernel_rfl)
theorem cfnp_2 (o1 : (decide ((↑n : Int) > 8)) = false) (o2 : (b) = true) : DV w (ent (E.at w) 74 [.agg [.str [112], .osl a n c]]) (⟨.e, 0, 0⟩) (zI 0) ⟨(zq246 a c n), 2, 0⟩ :=
  path_ret F FF (obs := [DW w 125 [(.str [112])] ⟨(zq247 a c n), 1, 0⟩ (.bool true) ⟨(zq246 a c n), 2, 0⟩, zT, zA (decide ((↑n : Int) > 8)) false, DW w 126 [(.osl a n c)] ⟨(zq246 a c n), 2, 0⟩ (.bool true) ⟨(zq246 a c n), 2, 0⟩]) [.n 10, .k (.bool true) ⟨(zq246 a c n), 2, 0⟩, .n 5, .v (.bool false), .n 4, .k (.bool true) ⟨(zq246 a c n), 2, 0⟩, .n 10] (by kernel_rfl) ⟨(DoesC.of_run F FF (n := 3000) (p := ((.bool true), ⟨(zq246 a c n), 2, 0⟩)) (by kernel_rfl)), rfl, (zg o1), (o2 ▸ (DoesC.over h126 rfl rfl rfl (Nat.le_of_ble_eq_true rfl)))⟩
theorem cfnp_2_d (o1 : (decide ((↑n : Int) > 8)) = false) (o2 : (b) = true) : DW w 74 [.agg [.str [112], .osl a n c]] (⟨.e, 0, 0⟩) (zI 0) (⟨.e, 0, 0⟩) :=
  DoesC.drop (DoesC.ent FF (by kernel_rfl) (cfnp_2 F0 FF0 w F FF a n c b h126 o1 o2)) [] (by kernel_rfl) (by kernel_rfl) (by kernel_rfl) rfl (by kernel_rfl) (by kernel_rfl) (by kernel_rfl)
theorem cfnp_3 (o1 : (decide ((↑n : Int) > 8)) = false) (o2 : (b) = false) : DV w (ent (E.at w) 74 [.agg [.str [112], .osl a n c]]) (⟨.e, 0, 0⟩) (zI 20) ⟨(zq246 a c n), 2, 0⟩ :=
  path_ret F FF (obs := [DW w 125 [(.str [112])] ⟨(zq247 a c n), 1, 0⟩ (.bool true) ⟨(zq246 a c n), 2, 0⟩, zT, zA (decide ((↑n : Int) > 8)) false, DW w 126 [(.osl a n c)] ⟨(zq246 a c n), 2, 0⟩ (.bool false) ⟨(zq246 a c n), 2, 0⟩]) [.n 10, .k (.bool true) ⟨(zq246 a c n), 2, 0⟩, .n 5, .v (.bool false), .n 4, .k (.bool false) ⟨(zq246 a c n), 2, 0⟩, .n 9] (by kernel_rfl) ⟨(DoesC.of_run F FF (n := 3000) (p := ((.bool true), ⟨(zq246 a c n), 2, 0⟩)) (by kernel_rfl)), rfl, (zg o1), (o2 ▸ (DoesC.over h126 rfl rfl rfl (Nat.le_of_ble_eq_true rfl)))⟩
theorem cfnp_3_d (o1 : (decide ((↑n : Int) > 8)) = false) (o2 : (b) = false) : DW w 74 [.agg [.str [112], .osl a n c]] (⟨.e, 0, 0⟩) (zI 20) (⟨.e, 0, 0⟩) :=
  DoesC.drop (DoesC.ent FF (by kernel_rfl) (cfnp_3 F0 FF0 w F FF a n c b h126 o1 o2)) [] (by kernel_rfl) (by kernel_rfl) (by kernel_rfl) rfl (by kernel_rfl) (by kernel_rfl) (by kernel_rfl)
theorem cfnq_1 (o1 : (decide ((↑n : Int) > 8)) = true) : DV w (ent (E.at w) 74 [.agg [.str [113], .osl a n c]]) (⟨.e, 0, 0⟩) (zI 20) ⟨(zq248 a c n), 2, 0⟩ :=
  path_ret F FF (obs := [DW w 125 [(.str [113])] ⟨(zq249 a c n), 1, 0⟩ (.bool true) ⟨(zq248 a c n), 2, 0⟩, zT, zA (decide ((↑n : Int) > 8)) true]) [.n 10, .k (.bool true) ⟨(zq248 a c n), 2, 0⟩, .n 5, .v (.bool true), .n 14] (by kernel_rfl) ⟨(DoesC.of_run F FF (n := 3000) (p := ((.bool true), ⟨(zq248 a c n), 2, 0⟩)) (by kernel_rfl)), rfl, (zg o1)⟩
theorem cfnq_1_d (o1 : (decide ((↑n : Int) > 8)) = true) : DW w 74 [.agg [.str [113], .osl a n c]] (⟨.e, 0, 0⟩) (zI 20) (⟨.e, 0, 0⟩) :=
  DoesC.drop (DoesC.ent FF (by kernel_rfl) (cfnq_1 F0 FF0 w F FF a n c b h126 o1)) [] (by kernel_rfl) (by kernel_rfl) (by kernel_rfl) rfl (by kernel_rfl) (by kernel_rfl) (by kernel_rfl)
theorem cfnq_2 (o1 : (decide ((↑n : Int) > 8)) = false) (o2 : (b) = true) : DV w (ent (E.at w) 74 [.agg [.str [113], .osl a n c]]) (⟨.e, 0, 0⟩) (zI 0) ⟨(zq248 a c n), 2, 0⟩ :=
  path_ret F FF (obs := [DW w 125 [(.str [113])] ⟨(zq249 a c n), 1, 0⟩ (.bool true) ⟨(zq248 a c n), 2, 0⟩, zT, zA (decide ((↑n : Int) > 8)) false, DW w 126 [(.osl a n c)] ⟨(zq248 a c n), 2, 0⟩ (.bool true) ⟨(zq248 a c n), 2, 0⟩]) [.n 10, .k (.bool true) ⟨(zq248 a c n), 2, 0⟩, .n 5, .v (.bool false), .n 4, .k (.bool true) ⟨(zq248 a c n), 2, 0⟩, .n 10] (by kernel_rfl) ⟨(DoesC.of_run F FF (n := 3000) (p := ((.bool true), ⟨(zq248 a c n), 2, 0⟩)) (by kernel_rfl)), rfl, (zg o1), (o2 ▸ (DoesC.over h126 rfl rfl rfl (Nat.le_of_ble_eq_true rfl)))⟩
theorem cfnq_2_d (o1 : (decide ((↑n : Int) > 8)) = false) (o2 : (b) = true) : DW w 74 [.agg [.str [113], .osl a n c]] (⟨.e, 0, 0⟩) (zI 0) (⟨.e, 0, 0⟩) :=
  DoesC.drop (DoesC.ent FF (by kernel_rfl) (cfnq_2 F0 FF0 w F FF a n c b h126 o1 o2)) [] (by kernel_rfl) (by kernel_rfl) (by kernel_rfl) rfl (by kernel_rfl) (by kernel_rfl) (by kernel_rfl)
theorem cfnq_3 (o1 : (decide ((↑n : Int) > 8)) = false) (o2 : (b) = false) : DV w (ent (E.at w) 74 [.agg [.str [113], .osl a n c]]) (⟨.e, 0, 0⟩) (zI 20) ⟨(zq248 a c n), 2, 0⟩ :=
  path_ret F FF (obs := [DW w 125 [(.str [113])] ⟨(zq249 a c n), 1, 0⟩ (.bool true) ⟨(zq248 a c n), 2, 0⟩, zT, zA (decide ((↑n : Int) > 8)) false, DW w 126 [(.osl a n c)] ⟨(zq248 a c n), 2, 0⟩ (.bool false) ⟨(zq248 a c n), 2, 0⟩]) [.n 10, .k (.bool true) ⟨(zq248 a c n), 2, 0⟩, .n 5, .v (.bool false), .n 4, .k (.bool false) ⟨(zq248 a c n), 2, 0⟩, .n 9] (by kernel_rfl) ⟨(DoesC.of_run F FF (n := 3000) (p := ((.bool true), ⟨(zq248 a c n), 2, 0⟩)) (by kernel_rfl)), rfl, (zg o1), (o2 ▸ (DoesC.over h126 rfl rfl rfl (Nat.le_of_ble_eq_true rfl)))⟩
theorem cfnq_3_d (o1 : (decide ((↑n : Int) > 8)) = false) (o2 : (b) = false) : DW w 74 [.agg [.str [113], .osl a n c]] (⟨.e, 0, 0⟩) (zI 20) (⟨.e, 0, 0⟩) :=
  DoesC.drop (DoesC.ent FF (by kernel_rfl) (cfnq_3 F0 FF0 w F FF a n c b h126 o1 o2)) [] (by kernel_rfl) (by kernel_rfl) (by kernel_rfl) rfl (by kernel_rfl) (by kernel_rfl) (by kernel_rfl)
end
end Go.Ev
