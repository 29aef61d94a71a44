/- The card of WatchNil is proved: for every input the law returns true on every schedule, its arguments read as before. Conditions: those of the given row alone. -/
import Derived.Test.YtoiihnenoedbmaaGreatDoorMySaid
import Derived.Test.YtoiihnenoedbmaaGreatDoorMyFactsC
import Derived.SevenTiedAt
namespace Go.Proofs.YtoiihnenoedbmaaGreatDoor

/-- No parameter wants a stand-in; the program's own looks are off. -/
theorem plain (f : FuncId) (fn : Func) (hf : Tryz.pinned.checked.prog.funcNamed Rows.watchNilRow.func = some f) (hfn : Tryz.pinned.checked.prog.funcs[f]? = some fn) :
    true = Tryz.pinned.checked.prog.looks [] ∧ ∀ (j : Nat) t, fn.params[j]? = some t → Tryz.pinned.checked.prog.wantsStandIn t = false := by
  obtain rfl : f = 3 := Option.some.inj ((show Tryz.prog.funcNamed Rows.watchNilRow.func = some 3 by kernel_rfl).symm.trans hf) |>.symm
  obtain rfl : fn = Tryz.f3 := (Option.some.inj (Tryz.func3.symm.trans hfn)).symm
  refine ⟨by kernel_rfl, fun j t ht => ?_⟩
  rw [Tryz.params3] at ht
  have h3 : t = 24 ∨ t = 3 := by
    rcases j with _ | _ | j
    · left; simpa using ht.symm
    · right; simpa using ht.symm
    · simp at ht
  rcases h3 with rfl | rfl
  · exact (show Tryz.prog.wantsStandIn 24 = false by kernel_rfl)
  · exact (show Tryz.prog.wantsStandIn 3 = false by kernel_rfl)

theorem watchNil_card : Rows.WatchNilCardSaid := by
  have hn := Claim7.tied_new_at .later [.data, .data, .data] true (Claim7.new_of_sixth said (true, "ef0a753ddbec05540c2218288087aa387d0d174c9e3a0a3241da21255c2d89d5") true rfl ⟨rfl, rfl⟩ (by kernel_rfl) (by simp [Claim7.isSixth]) plain) (by kernel_rfl)
  exact ⟨hn, (fun D hD => by cases hD), watchNil_row_tie, (fun h => by cases h), k_goes⟩
end Go.Proofs.YtoiihnenoedbmaaGreatDoor
#print axioms Go.Proofs.YtoiihnenoedbmaaGreatDoor.watchNil_card
