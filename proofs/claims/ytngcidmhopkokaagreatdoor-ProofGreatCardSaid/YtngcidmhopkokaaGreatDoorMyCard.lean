/- The card of ProofGreat is proved: the law returns true on every schedule. Conditions: those of the given row alone. -/
import Derived.Test.YtngcidmhopkokaaGreatDoorMySaid
import Derived.SevenTiedAt
set_option linter.all false
namespace Go.Proofs.YtngcidmhopkokaaGreatDoor
theorem plain(f:FuncId)(fn:Func)(c:Tryz.pinned.checked.prog.funcNamed Rows.proofGreatRow.func=some f)(a:Tryz.pinned.checked.prog.funcs[f]? =some fn):
 true=Tryz.pinned.checked.prog.looks []∧∀(j:Nat) t,fn.params[j]? =some t->Tryz.pinned.checked.prog.wantsStandIn t=false:=by
 obtain rfl:f=3:=Option.some.inj ((show Tryz.prog.funcNamed Rows.proofGreatRow.func=some 3 by kernel_rfl).symm.trans c) |>.symm
 obtain rfl:fn=Tryz.f3:=(Option.some.inj (Tryz.func3.symm.trans a)).symm;refine⟨by kernel_rfl,λj t b=>?_⟩;have e:Tryz.f3.params=#[]:=by kernel_rfl
 rw[e]at b;simp at b
theorem proofGreat_card:Rows.ProofGreatCardSaid:=by
 have a := Claim7.tied_new_at .later [.data, .data, .data] true (Claim7.new_of_sixth said (true, "4358e7241b0df1281d7c7b0b0abf1e8f9b91ab19c78d943f6942be9b2121d0ad") true rfl ⟨rfl, rfl⟩ (by kernel_rfl) (by simp [Claim7.isSixth]) plain) (by kernel_rfl);exact⟨a,(λD b=>by cases b),proofGreat_row_tie,(λh=>by cases h),abG⟩
end Go.Proofs.YtngcidmhopkokaaGreatDoor
#print axioms Go.Proofs.YtngcidmhopkokaaGreatDoor.proofGreat_card
