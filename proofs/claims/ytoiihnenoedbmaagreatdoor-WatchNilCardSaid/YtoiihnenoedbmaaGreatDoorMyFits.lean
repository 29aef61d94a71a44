/- A part of the proof that the law WatchNil returns true for every input (its card: YtoiihnenoedbmaaGreatDoorMyCard): AdFits. Conditions: those of the given row alone. -/
import Derived.Test.YtoiihnenoedbmaaGreatDoorMyTabOk
import Derived.Test.YtoiihnenoedbmaaGreatDoorMyStates
namespace Go.Ev
open Go.Proofs
set_option maxRecDepth 100000
theorem fl3 : FlatT Tryz.prog 1 3 [1] false := flat_int Tryz.underlying3 (i := Tryz.t3) (by kernel_rfl) rfl
theorem fl9 : FlatT Tryz.prog 1 9 [2] false := flat_str Tryz.underlying9 (i := Tryz.t9) (by kernel_rfl) rfl
theorem fl77 : FlatT Tryz.prog 2 77 [1, 1, 2] true :=
  flat_struct Tryz.underlying77 (i := Tryz.t77) (by kernel_rfl) rfl Tryz.stoodInHeld77 (by decide) (by refine Itm.cons (ks := [1]) (ks' := [1, 2]) rfl (fl3.mono (by decide)) ?_; refine Itm.cons (ks := [1]) (ks' := [2]) rfl (fl3.mono (by decide)) ?_; exact Itm.cons (ks := [2]) (ks' := []) rfl (fl9.mono (by decide)) .nil) (by decide)
theorem fl90 : FlatT Tryz.prog 2 90 [1, 1] true :=
  flat_struct Tryz.underlying90 (i := Tryz.t90) (by kernel_rfl) rfl Tryz.stoodInHeld90 (by decide) (by refine Itm.cons (ks := [1]) (ks' := [1]) rfl (fl3.mono (by decide)) ?_; exact Itm.cons (ks := [1]) (ks' := []) rfl (fl3.mono (by decide)) .nil) (by decide)
theorem fl183 : FlatT Tryz.prog 3 183 (List.replicate 8 [1, 1, 2]).flatten true := flat_array Tryz.underlying183 (i := Tryz.t183) (by kernel_rfl) fl77 rfl (by decide)
theorem fl185 : FlatT Tryz.prog 4 185 [2, 1, 1, 1, 2, 1, 1, 2, 1, 1, 2, 1, 1, 2, 1, 1, 2, 1, 1, 2, 1, 1, 2, 1, 1, 2] true :=
  flat_struct Tryz.underlying185 (i := Tryz.t185) (by kernel_rfl) rfl Tryz.stoodInHeld185 (by decide) (by refine Itm.cons (ks := [2]) (ks' := [1, 1, 1, 2, 1, 1, 2, 1, 1, 2, 1, 1, 2, 1, 1, 2, 1, 1, 2, 1, 1, 2, 1, 1, 2]) rfl (fl9.mono (by decide)) ?_; refine Itm.cons (ks := [1]) (ks' := [1, 1, 2, 1, 1, 2, 1, 1, 2, 1, 1, 2, 1, 1, 2, 1, 1, 2, 1, 1, 2, 1, 1, 2]) rfl (fl3.mono (by decide)) ?_; exact Itm.cons (ks := [1, 1, 2, 1, 1, 2, 1, 1, 2, 1, 1, 2, 1, 1, 2, 1, 1, 2, 1, 1, 2, 1, 1, 2]) (ks' := []) rfl (fl183.mono (by decide)) .nil) (by decide)
theorem fl336 : FlatT Tryz.prog 3 336 (List.replicate 8 [1, 1, 2]).flatten true := flat_array Tryz.underlying336 (i := Tryz.t336) (by kernel_rfl) fl77 rfl (by decide)
theorem fl574 : FlatT Tryz.prog 2 574 [2, 1] true :=
  flat_struct Tryz.underlying574 (i := Tryz.t574) (by kernel_rfl) rfl Tryz.stoodInHeld574 (by decide) (by refine Itm.cons (ks := [2]) (ks' := [1]) rfl (fl9.mono (by decide)) ?_; exact Itm.cons (ks := [1]) (ks' := []) rfl (fl3.mono (by decide)) .nil) (by decide)
theorem fits : Fits Tryz.prog E where
  depth := by decide +kernel
  meth t m g h v w := by
    simp only [E, List.mem_cons, List.not_mem_nil, or_false, Prod.mk.injEq] at h
    obtain ⟨rfl, rfl, rfl⟩ := h
    exact meth_ptr (i := Tryz.t125) (by kernel_rfl) Tryz.underlying125 rfl rfl rfl (by simp [Tryz.types_size]) v w
  lies el u h := by
    simp only [E, List.mem_cons, List.not_mem_nil, or_false, Prod.mk.injEq] at h
    rcases h with ⟨rfl, rfl⟩ | ⟨rfl, rfl⟩
    all_goals kernel_rfl
  tt := types_of tt_ok
  flat t ks h := by
    simp only [E, List.mem_cons, List.not_mem_nil, or_false, Prod.mk.injEq] at h
    rcases h with ⟨rfl, rfl⟩ | ⟨rfl, rfl⟩ | ⟨rfl, rfl⟩ | ⟨rfl, rfl⟩ | ⟨rfl, rfl⟩
    · exact fl77.says (by decide) Tryz.underlying77 Tryz.eqGuardType77
    · exact fl90.says (by decide) Tryz.underlying90 Tryz.eqGuardType90
    · exact fl185.says (by decide) Tryz.underlying185 Tryz.eqGuardType185
    · exact fl336.says (by decide) Tryz.underlying336 Tryz.eqGuardType336
    · exact fl574.says (by decide) Tryz.underlying574 Tryz.eqGuardType574

theorem tabs : Tabs Tryz.prog E I where
  F := fits
  FF := fitsF_of ft_ok (by kernel_rfl)
  FX := fitsX_of ft_ok
  FW := ⟨⟨Tryz.f101, Tryz.func101, by kernel_rfl, by kernel_rfl, by kernel_rfl, by kernel_rfl⟩, ⟨Tryz.f102, Tryz.func102, by kernel_rfl, by kernel_rfl, by kernel_rfl, by kernel_rfl⟩, ⟨Tryz.f65, Tryz.func65, by kernel_rfl, by kernel_rfl, by kernel_rfl, by kernel_rfl⟩, ⟨Tryz.f59, Tryz.func59, by kernel_rfl, by kernel_rfl, by kernel_rfl, by kernel_rfl⟩, ⟨Tryz.f63, Tryz.func63, by kernel_rfl, by kernel_rfl, by kernel_rfl, by kernel_rfl⟩⟩
theorem wait_fine : waitOk E I = true := by kernel_rfl
end Go.Ev
