/- The card of ProofBack is proved: the law returns true on every schedule. Conditions: those of the given row alone. -/
import Derived.Test.YtencnjmceojnjaaGreatDoorMySaid
import Derived.SevenTiedAt
set_option linter.all false
namespace Go.Proofs.YtencnjmceojnjaaGreatDoor
theorem plain(f:FuncId)(fn:Func)(c:Tryz.pinned.checked.prog.funcNamed Rows.proofBackRow.func=some f)(a:Tryz.pinned.checked.prog.funcs[f]? =some fn):
 true=Tryz.pinned.checked.prog.looks []∧∀(j:Nat) t,fn.params[j]? =some t->Tryz.pinned.checked.prog.wantsStandIn t=false:=by
 obtain rfl:f=3:=Option.some.inj ((show Tryz.prog.funcNamed Rows.proofBackRow.func=some 3 by kernel_rfl).symm.trans c) |>.symm
 obtain rfl:fn=Tryz.f3:=(Option.some.inj (Tryz.func3.symm.trans a)).symm;refine⟨by kernel_rfl,λj t b=>?_⟩;rw[Tryz.params3]at b;obtain rfl:t=27:=by
  rcases j with _|j
  .simpa using b.symm
  .simp at b
 exact(show Tryz.prog.wantsStandIn 27=false by kernel_rfl)
theorem proofBack_card:Rows.ProofBackCardSaid:=by
 have a := Claim7.tied_new_at .later [.data, .data, .data] true (Claim7.new_of_sixth said (true, "d0bc0f50410ca8118aae6837371dc2c99578e0f830c373e40d9b08c299d9ca2b") true rfl ⟨rfl, rfl⟩ (by kernel_rfl) (by simp [Claim7.isSixth]) plain) (by kernel_rfl);exact⟨a,(λD b=>by cases b),proofBack_row_tie,(λh=>by cases h),aeO⟩
end Go.Proofs.YtencnjmceojnjaaGreatDoor
#print axioms Go.Proofs.YtencnjmceojnjaaGreatDoor.proofBack_card
