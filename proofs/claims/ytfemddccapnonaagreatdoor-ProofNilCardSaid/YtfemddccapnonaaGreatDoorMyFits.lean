/- A part of the proof that the law ProofNil returns true for every input (its card: YtfemddccapnonaaGreatDoorMyCard): AaFits. Conditions: those of the given row alone. -/
import Derived.Test.YtfemddccapnonaaGreatDoorMyTabOk
import Derived.Test.YtfemddccapnonaaGreatDoorMyStates
namespace Go.Ev
open Go.Proofs
set_option maxRecDepth 100000
theorem fl3 : FlatT Tryz.prog 1 3 [1] false := flat_int Tryz.underlying3 (i := Tryz.t3) (by kernel_rfl) rfl
theorem fl9 : FlatT Tryz.prog 1 9 [2] false := flat_str Tryz.underlying9 (i := Tryz.t9) (by kernel_rfl) rfl
theorem fl69 : FlatT Tryz.prog 2 69 [1, 1, 2] true :=
  flat_struct Tryz.underlying69 (i := Tryz.t69) (by kernel_rfl) rfl Tryz.stoodInHeld69 (by decide) (by refine Itm.cons (ks := [1]) (ks' := [1, 2]) rfl (fl3.mono (by decide)) ?_; refine Itm.cons (ks := [1]) (ks' := [2]) rfl (fl3.mono (by decide)) ?_; exact Itm.cons (ks := [2]) (ks' := []) rfl (fl9.mono (by decide)) .nil) (by decide)
theorem fl138 : FlatT Tryz.prog 2 138 [1, 1] true :=
  flat_struct Tryz.underlying138 (i := Tryz.t138) (by kernel_rfl) rfl Tryz.stoodInHeld138 (by decide) (by refine Itm.cons (ks := [1]) (ks' := [1]) rfl (fl3.mono (by decide)) ?_; exact Itm.cons (ks := [1]) (ks' := []) rfl (fl3.mono (by decide)) .nil) (by decide)
theorem fl298 : FlatT Tryz.prog 3 298 (List.replicate 8 [1, 1, 2]).flatten true := flat_array Tryz.underlying298 (i := Tryz.t298) (by kernel_rfl) fl69 rfl (by decide)
theorem fl500 : FlatT Tryz.prog 2 500 [2, 1] true :=
  flat_struct Tryz.underlying500 (i := Tryz.t500) (by kernel_rfl) rfl Tryz.stoodInHeld500 (by decide) (by refine Itm.cons (ks := [2]) (ks' := [1]) rfl (fl9.mono (by decide)) ?_; exact Itm.cons (ks := [1]) (ks' := []) rfl (fl3.mono (by decide)) .nil) (by decide)
theorem fits : Fits Tryz.prog E where
  depth := by decide +kernel
  meth t m g h v w := by
    simp only [E, List.mem_cons, List.not_mem_nil, or_false, Prod.mk.injEq] at h
    obtain ⟨rfl, rfl, rfl⟩ := h
    exact meth_ptr (i := Tryz.t26) (by kernel_rfl) Tryz.underlying26 rfl rfl rfl (by simp [Tryz.types_size]) v w
  lies el u h := by
    simp only [E, List.mem_cons, List.not_mem_nil, or_false, Prod.mk.injEq] at h
    rcases h with ⟨rfl, rfl⟩ | ⟨rfl, rfl⟩
    all_goals kernel_rfl
  tt := types_of tt_ok
  flat t ks h := by
    simp only [E, List.mem_cons, List.not_mem_nil, or_false, Prod.mk.injEq] at h
    rcases h with ⟨rfl, rfl⟩ | ⟨rfl, rfl⟩ | ⟨rfl, rfl⟩ | ⟨rfl, rfl⟩
    · exact fl69.says (by decide) Tryz.underlying69 Tryz.eqGuardType69
    · exact fl138.says (by decide) Tryz.underlying138 Tryz.eqGuardType138
    · exact fl298.says (by decide) Tryz.underlying298 Tryz.eqGuardType298
    · exact fl500.says (by decide) Tryz.underlying500 Tryz.eqGuardType500
theorem tabs : Tabs Tryz.prog E I where
  F := fits
  FF := fitsF_of ft_ok (by kernel_rfl)
  FX := fitsX_of ft_ok
  FW := ⟨⟨Tryz.f287, Tryz.func287, by kernel_rfl, by kernel_rfl, by kernel_rfl, by kernel_rfl⟩, ⟨Tryz.f299, Tryz.func299, by kernel_rfl, by kernel_rfl, by kernel_rfl, by kernel_rfl⟩, ⟨Tryz.f237, Tryz.func237, by kernel_rfl, by kernel_rfl, by kernel_rfl, by kernel_rfl⟩, ⟨Tryz.f233, Tryz.func233, by kernel_rfl, by kernel_rfl, by kernel_rfl, by kernel_rfl⟩, ⟨Tryz.f236, Tryz.func236, by kernel_rfl, by kernel_rfl, by kernel_rfl, by kernel_rfl⟩⟩
theorem wait_fine : waitOk E I = true := by kernel_rfl
end Go.Ev
