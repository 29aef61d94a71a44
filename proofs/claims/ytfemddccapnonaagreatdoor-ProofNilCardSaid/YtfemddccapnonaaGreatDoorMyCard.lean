/- The card of ProofNil is proved: for every input the law returns true on every schedule, its arguments read as before. Conditions: those of the given row alone. -/
import Derived.Test.YtfemddccapnonaaGreatDoorMySaid
import Derived.Test.YtfemddccapnonaaGreatDoorMyFactsC
import Derived.SevenTiedAt
namespace Go.Proofs.YtfemddccapnonaaGreatDoor
theorem plain (f : FuncId) (fn : Func) (hf : Tryz.pinned.checked.prog.funcNamed Rows.proofNilRow.func = some f) (hfn : Tryz.pinned.checked.prog.funcs[f]? = some fn) :
    true = Tryz.pinned.checked.prog.looks [] ∧ ∀ (j : Nat) t, fn.params[j]? = some t → Tryz.pinned.checked.prog.wantsStandIn t = false := by
  obtain rfl : f = 3 := Option.some.inj ((show Tryz.prog.funcNamed Rows.proofNilRow.func = some 3 by kernel_rfl).symm.trans hf) |>.symm
  obtain rfl : fn = Tryz.f3 := (Option.some.inj (Tryz.func3.symm.trans hfn)).symm
  refine ⟨by kernel_rfl, fun j t ht => ?_⟩
  rw [Tryz.params3] at ht
  have h3 : t = 24 ∨ t = 3 := by
    rcases j with _ | _ | j
    · left; simpa using ht.symm
    · right; simpa using ht.symm
    · simp at ht
  rcases h3 with rfl | rfl
  · exact (show Tryz.prog.wantsStandIn 24 = false by kernel_rfl)
  · exact (show Tryz.prog.wantsStandIn 3 = false by kernel_rfl)
theorem proofNil_card : Rows.ProofNilCardSaid := by
  have hn := Claim7.tied_new_at .later [.data, .data, .data] true (Claim7.new_of_sixth said (true, "7825f5f65a667c13168056ad8bb0b4a3855ad9ed628c0197b762d6c30904765d") true rfl ⟨rfl, rfl⟩ (by kernel_rfl) (by simp [Claim7.isSixth]) plain) (by kernel_rfl)
  exact ⟨hn, (fun D hD => by cases hD), proofNil_row_tie, (fun h => by cases h), k_goes⟩
end Go.Proofs.YtfemddccapnonaaGreatDoor
#print axioms Go.Proofs.YtfemddccapnonaaGreatDoor.proofNil_card
