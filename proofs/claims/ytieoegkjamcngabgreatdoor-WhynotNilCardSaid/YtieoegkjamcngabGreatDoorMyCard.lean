/- The card of WhynotNil is proved: for every fact and every block, pedigreelaw19.WhynotNil returns true on every schedule, its arguments read as before. Conditions: those of the given row alone. -/
import Derived.Test.YtieoegkjamcngabGreatDoorMySaid
import Derived.Test.YtieoegkjamcngabGreatDoorMyFactsC
import Derived.SevenTiedAt
namespace Go.Proofs.YtieoegkjamcngabGreatDoor

/-- No parameter wants a stand-in; the program's own looks are off. -/
theorem plain (f : FuncId) (fn : Func) (hf : Tryz.pinned.checked.prog.funcNamed Rows.whynotNilRow.func = some f) (hfn : Tryz.pinned.checked.prog.funcs[f]? = some fn) :
    true = Tryz.pinned.checked.prog.looks [] ∧ ∀ (j : Nat) t, fn.params[j]? = some t → Tryz.pinned.checked.prog.wantsStandIn t = false := by
  obtain rfl : f = 3 := Option.some.inj ((show Tryz.prog.funcNamed Rows.whynotNilRow.func = some 3 by kernel_rfl).symm.trans hf) |>.symm
  obtain rfl : fn = Tryz.f3 := (Option.some.inj (Tryz.func3.symm.trans hfn)).symm
  refine ⟨by kernel_rfl, fun j t ht => ?_⟩
  rw [Tryz.params3] at ht
  have h3 : t = 24 ∨ t = 27 := by
    rcases j with _ | _ | j
    · left; simpa using ht.symm
    · right; simpa using ht.symm
    · simp at ht
  rcases h3 with rfl | rfl
  · exact (show Tryz.prog.wantsStandIn 24 = false by kernel_rfl)
  · exact (show Tryz.prog.wantsStandIn 27 = false by kernel_rfl)

theorem whynotNil_card : Rows.WhynotNilCardSaid := by
  have hn := Claim7.tied_new_at .later [.data, .data, .data] true (Claim7.new_of_sixth said (true, "641c47182e4e7a22cfea6ebca4c40fe24db3d3825c5a7dd0e2dd4fb133906465") true rfl ⟨rfl, rfl⟩ (by kernel_rfl) (by simp [Claim7.isSixth]) plain) (by kernel_rfl)
  exact ⟨hn, (fun D hD => by cases hD), whynotNil_row_tie, (fun h => by cases h), k_goes⟩
end Go.Proofs.YtieoegkjamcngabGreatDoor
#print axioms Go.Proofs.YtieoegkjamcngabGreatDoor.whynotNil_card
