/- A part of the proof that pedigreelaw19.WhynotNil returns true for every input (its card: YtieoegkjamcngabGreatDoorMyCard): GFits. Conditions: those of the given row alone. -/
import Derived.Test.YtieoegkjamcngabGreatDoorMyTabOk
import Derived.Test.YtieoegkjamcngabGreatDoorMyStates
namespace Go.Ev
open Go.Proofs
set_option maxRecDepth 100000

theorem f3 : FlatT Tryz.prog 1 3 [1] false := flat_int Tryz.underlying3 (i := Tryz.t3) (by kernel_rfl) rfl
theorem f9 : FlatT Tryz.prog 1 9 [2] false := flat_str Tryz.underlying9 (i := Tryz.t9) (by kernel_rfl) rfl
theorem f51 : FlatT Tryz.prog 2 51 [1, 1, 2] true :=
  flat_struct Tryz.underlying51 (i := Tryz.t51) (by kernel_rfl) rfl Tryz.stoodInHeld51 (by decide) (by refine Itm.cons (ks := [1]) (ks' := [1, 2]) rfl f3 ?_; refine Itm.cons (ks := [1]) (ks' := [2]) rfl f3 ?_; exact Itm.cons (ks := [2]) (ks' := []) rfl f9 .nil) (by decide)
theorem f54 : FlatT Tryz.prog 3 54 [1, 2, 1, 1, 2] true :=
  flat_struct Tryz.underlying54 (i := Tryz.t54) (by kernel_rfl) rfl Tryz.stoodInHeld54 (by decide) (by refine Itm.cons (ks := [1]) (ks' := [2, 1, 1, 2]) rfl (f3.mono (by decide)) ?_; refine Itm.cons (ks := [2]) (ks' := [1, 1, 2]) rfl (f9.mono (by decide)) ?_; exact Itm.cons (ks := [1, 1, 2]) (ks' := []) rfl f51 .nil) (by decide)
theorem f482 : FlatT Tryz.prog 2 482 [2, 1] true :=
  flat_struct Tryz.underlying482 (i := Tryz.t482) (by kernel_rfl) rfl Tryz.stoodInHeld482 (by decide) (by refine Itm.cons (ks := [2]) (ks' := [1]) rfl f9 ?_; exact Itm.cons (ks := [1]) (ks' := []) rfl f3 .nil) (by decide)
theorem f259 : FlatT Tryz.prog 3 259 (List.replicate 8 [1, 1, 2]).flatten true :=
  flat_array Tryz.underlying259 (i := Tryz.t259) (by kernel_rfl) f51 rfl (by decide)

theorem fits : Fits Tryz.prog E where
  depth := by decide +kernel
  meth t m g h v w := by
    simp only [E, List.mem_cons, List.not_mem_nil, or_false, Prod.mk.injEq] at h
    obtain ⟨rfl, rfl, rfl⟩ := h
    exact meth_ptr (i := Tryz.t40) (by kernel_rfl) Tryz.underlying40 rfl rfl rfl (by simp [Tryz.types_size]) v w
  lies el u h := by
    simp only [E, List.mem_cons, List.not_mem_nil, or_false, Prod.mk.injEq] at h
    rcases h with ⟨rfl, rfl⟩ | ⟨rfl, rfl⟩
    · kernel_rfl
    · kernel_rfl
  tt := types_of tt_ok
  flat t ks h := by
    simp only [E, List.mem_cons, List.not_mem_nil, or_false, Prod.mk.injEq] at h
    rcases h with ⟨rfl, rfl⟩ | ⟨rfl, rfl⟩ | ⟨rfl, rfl⟩ | ⟨rfl, rfl⟩
    · exact f51.says (by decide) Tryz.underlying51 Tryz.eqGuardType51
    · exact f54.says (by decide) Tryz.underlying54 Tryz.eqGuardType54
    · exact f259.says (by decide) Tryz.underlying259 Tryz.eqGuardType259
    · exact f482.says (by decide) Tryz.underlying482 Tryz.eqGuardType482

theorem tabs : Tabs Tryz.prog E I where
  F := fits
  FF := fitsF_of ft_ok (by kernel_rfl)
  FX := fitsX_of ft_ok
  FW := ⟨⟨Tryz.f277, Tryz.func277, by kernel_rfl, by kernel_rfl, by kernel_rfl, by kernel_rfl⟩, ⟨Tryz.f284, Tryz.func284, by kernel_rfl, by kernel_rfl, by kernel_rfl, by kernel_rfl⟩, ⟨Tryz.f200, Tryz.func200, by kernel_rfl, by kernel_rfl, by kernel_rfl, by kernel_rfl⟩, ⟨Tryz.f196, Tryz.func196, by kernel_rfl, by kernel_rfl, by kernel_rfl, by kernel_rfl⟩, ⟨Tryz.f199, Tryz.func199, by kernel_rfl, by kernel_rfl, by kernel_rfl, by kernel_rfl⟩⟩
theorem wait_fine : waitOk E I = true := by kernel_rfl
end Go.Ev
