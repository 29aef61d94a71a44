/- The card of IncrNil is proved: for every input the law returns true on every schedule, its arguments read as before. Conditions: those of the given row alone. -/
import Derived.Test.YtohbpghlbeoikaaGreatDoorMySaid
import Derived.Test.YtohbpghlbeoikaaGreatDoorMyFactsC
import Derived.SevenTiedAt
namespace Go.Proofs.YtohbpghlbeoikaaGreatDoor

/-- No parameter wants a stand-in; the program's own looks are off. -/
theorem plain (f : FuncId) (fn : Func) (hf : Tryz.pinned.checked.prog.funcNamed Rows.incrNilRow.func = some f) (hfn : Tryz.pinned.checked.prog.funcs[f]? = some fn) :
    true = Tryz.pinned.checked.prog.looks [] ∧ ∀ (j : Nat) t, fn.params[j]? = some t → Tryz.pinned.checked.prog.wantsStandIn t = false := by
  obtain rfl : f = 3 := Option.some.inj ((show Tryz.prog.funcNamed Rows.incrNilRow.func = some 3 by kernel_rfl).symm.trans hf) |>.symm
  obtain rfl : fn = Tryz.f3 := (Option.some.inj (Tryz.func3.symm.trans hfn)).symm
  refine ⟨by kernel_rfl, fun j t ht => ?_⟩
  rw [Tryz.params3] at ht
  have h3 : t = 30 := by
    rcases j with _ | j
    · simpa using ht.symm
    · simp at ht
  rcases h3 with rfl
  · exact (show Tryz.prog.wantsStandIn 30 = false by kernel_rfl)

theorem incrNil_card : Rows.IncrNilCardSaid := by
  have hn := Claim7.tied_new_at .later [.data, .data, .data] true (Claim7.new_of_sixth said (true, "ddb1689d2b75182b9b2f9833f84a2df8fd3a550af47f265b8363ab3ca0b71158") true rfl ⟨rfl, rfl⟩ (by kernel_rfl) (by simp [Claim7.isSixth]) plain) (by kernel_rfl)
  exact ⟨hn, (fun D hD => by cases hD), incrNil_row_tie, (fun h => by cases h), k_goes⟩
end Go.Proofs.YtohbpghlbeoikaaGreatDoor
#print axioms Go.Proofs.YtohbpghlbeoikaaGreatDoor.incrNil_card
