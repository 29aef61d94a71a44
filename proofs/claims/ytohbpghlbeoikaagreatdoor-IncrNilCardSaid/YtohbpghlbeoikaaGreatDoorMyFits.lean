/- A part of the proof that the law IncrNil returns true for every input (its card: YtohbpghlbeoikaaGreatDoorMyCard): AcFits. Conditions: those of the given row alone. -/
import Derived.Test.YtohbpghlbeoikaaGreatDoorMyTabOk
import Derived.Test.YtohbpghlbeoikaaGreatDoorMyStates
namespace Go.Ev
open Go.Proofs
set_option maxRecDepth 100000
theorem fl3 : FlatT Tryz.prog 1 3 [1] false := flat_int Tryz.underlying3 (i := Tryz.t3) (by kernel_rfl) rfl
theorem fl43 : FlatT Tryz.prog 2 43 [1, 1] true :=
  flat_struct Tryz.underlying43 (i := Tryz.t43) (by kernel_rfl) rfl Tryz.stoodInHeld43 (by decide) (by refine Itm.cons (ks := [1]) (ks' := [1]) rfl (fl3.mono (by decide)) ?_; exact Itm.cons (ks := [1]) (ks' := []) rfl (fl3.mono (by decide)) .nil) (by decide)
theorem fl9 : FlatT Tryz.prog 1 9 [2] false := flat_str Tryz.underlying9 (i := Tryz.t9) (by kernel_rfl) rfl
theorem fl97 : FlatT Tryz.prog 2 97 [1, 1, 2] true :=
  flat_struct Tryz.underlying97 (i := Tryz.t97) (by kernel_rfl) rfl Tryz.stoodInHeld97 (by decide) (by refine Itm.cons (ks := [1]) (ks' := [1, 2]) rfl (fl3.mono (by decide)) ?_; refine Itm.cons (ks := [1]) (ks' := [2]) rfl (fl3.mono (by decide)) ?_; exact Itm.cons (ks := [2]) (ks' := []) rfl (fl9.mono (by decide)) .nil) (by decide)
theorem fl127 : FlatT Tryz.prog 3 127 (List.replicate 8 [1, 1, 2]).flatten true := flat_array Tryz.underlying127 (i := Tryz.t127) (by kernel_rfl) fl97 rfl (by decide)
theorem fl129 : FlatT Tryz.prog 4 129 [2, 1, 1, 1, 2, 1, 1, 2, 1, 1, 2, 1, 1, 2, 1, 1, 2, 1, 1, 2, 1, 1, 2, 1, 1, 2] true :=
  flat_struct Tryz.underlying129 (i := Tryz.t129) (by kernel_rfl) rfl Tryz.stoodInHeld129 (by decide) (by refine Itm.cons (ks := [2]) (ks' := [1, 1, 1, 2, 1, 1, 2, 1, 1, 2, 1, 1, 2, 1, 1, 2, 1, 1, 2, 1, 1, 2, 1, 1, 2]) rfl (fl9.mono (by decide)) ?_; refine Itm.cons (ks := [1]) (ks' := [1, 1, 2, 1, 1, 2, 1, 1, 2, 1, 1, 2, 1, 1, 2, 1, 1, 2, 1, 1, 2, 1, 1, 2]) rfl (fl3.mono (by decide)) ?_; exact Itm.cons (ks := [1, 1, 2, 1, 1, 2, 1, 1, 2, 1, 1, 2, 1, 1, 2, 1, 1, 2, 1, 1, 2, 1, 1, 2]) (ks' := []) rfl (fl127.mono (by decide)) .nil) (by decide)
theorem fl208 : FlatT Tryz.prog 3 208 (List.replicate 8 [1, 1, 2]).flatten true := flat_array Tryz.underlying208 (i := Tryz.t208) (by kernel_rfl) fl97 rfl (by decide)
theorem fl583 : FlatT Tryz.prog 2 583 [2, 1] true :=
  flat_struct Tryz.underlying583 (i := Tryz.t583) (by kernel_rfl) rfl Tryz.stoodInHeld583 (by decide) (by refine Itm.cons (ks := [2]) (ks' := [1]) rfl (fl9.mono (by decide)) ?_; exact Itm.cons (ks := [1]) (ks' := []) rfl (fl3.mono (by decide)) .nil) (by decide)
theorem fits : Fits Tryz.prog E where
  depth := by decide +kernel
  meth t m g h v w := by
    simp only [E, List.mem_cons, List.not_mem_nil, or_false, Prod.mk.injEq] at h
    obtain ⟨rfl, rfl, rfl⟩ := h
    exact meth_ptr (i := Tryz.t77) (by kernel_rfl) Tryz.underlying77 rfl rfl rfl (by simp [Tryz.types_size]) v w
  lies el u h := by
    simp only [E, List.mem_cons, List.not_mem_nil, or_false, Prod.mk.injEq] at h
    rcases h with ⟨rfl, rfl⟩ | ⟨rfl, rfl⟩
    all_goals kernel_rfl
  tt := types_of tt_ok
  flat t ks h := by
    simp only [E, List.mem_cons, List.not_mem_nil, or_false, Prod.mk.injEq] at h
    rcases h with ⟨rfl, rfl⟩ | ⟨rfl, rfl⟩ | ⟨rfl, rfl⟩ | ⟨rfl, rfl⟩ | ⟨rfl, rfl⟩
    · exact fl43.says (by decide) Tryz.underlying43 Tryz.eqGuardType43
    · exact fl97.says (by decide) Tryz.underlying97 Tryz.eqGuardType97
    · exact fl129.says (by decide) Tryz.underlying129 Tryz.eqGuardType129
    · exact fl208.says (by decide) Tryz.underlying208 Tryz.eqGuardType208
    · exact fl583.says (by decide) Tryz.underlying583 Tryz.eqGuardType583

theorem tabs : Tabs Tryz.prog E I where
  F := fits
  FF := fitsF_of ft_ok (by kernel_rfl)
  FX := fitsX_of ft_ok
  FW := ⟨⟨Tryz.f387, Tryz.func387, by kernel_rfl, by kernel_rfl, by kernel_rfl, by kernel_rfl⟩, ⟨Tryz.f389, Tryz.func389, by kernel_rfl, by kernel_rfl, by kernel_rfl, by kernel_rfl⟩, ⟨Tryz.f311, Tryz.func311, by kernel_rfl, by kernel_rfl, by kernel_rfl, by kernel_rfl⟩, ⟨Tryz.f307, Tryz.func307, by kernel_rfl, by kernel_rfl, by kernel_rfl, by kernel_rfl⟩, ⟨Tryz.f310, Tryz.func310, by kernel_rfl, by kernel_rfl, by kernel_rfl, by kernel_rfl⟩⟩
theorem wait_fine : waitOk E I = true := by kernel_rfl
end Go.Ev
