/- A part of the proof that ProofBack returns true. -/
import Derived.Test.YtencnjmceojnjaaGreatDoorMyFactsD
import Derived.Test.YtencnjmceojnjaaGreatDoorMyFactsE
import Derived.Test.YtencnjmceojnjaaGreatDoorMyFactsF
set_option linter.all false
namespace Go.Proofs.YtencnjmceojnjaaGreatDoor
open Go.ChangeShapes Go.WideShapes Go.ChangeAt Go.RowKit Go.Conc Go.ConcM
theorem adi:joinedFacts Tryz.prog 3 Tryz.f3 Rows.proofBackSpec Rows.proofBackRow=true:=by
 unfold joinedFacts;simp only[laidOut,YH,Po,Vu,acK,aeN,acL,acM,Bool.and_true]
 kernel_rfl
theorem said:Rows.ProofBackSaid:=
 OpenClaim.holds_of_wide_leaving_time 3 Tryz.f3 rfl rfl rfl rfl rfl rfl rfl ⟨rfl,rfl,rfl,rfl,rfl⟩ rfl rfl rfl rfl rfl aeE Tryz.func3 adi af8 afc
  (λos a H enc _ F=>by rw[OpenClaim.pre_eq_preRow];exact lifted os a H enc F)
end Go.Proofs.YtencnjmceojnjaaGreatDoor
