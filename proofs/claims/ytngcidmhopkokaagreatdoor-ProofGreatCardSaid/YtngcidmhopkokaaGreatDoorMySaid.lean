/- A part of the proof that ProofGreat returns true. -/
import Derived.Test.YtngcidmhopkokaaGreatDoorMyFactsD
import Derived.Test.YtngcidmhopkokaaGreatDoorMyFactsE
import Derived.Test.YtngcidmhopkokaaGreatDoorMyFactsF
set_option linter.all false
namespace Go.Proofs.YtngcidmhopkokaaGreatDoor
open Go.ChangeShapes Go.WideShapes Go.ChangeAt Go.RowKit Go.Conc Go.ConcM
theorem ZH:joinedFacts Tryz.prog 3 Tryz.f3 Rows.proofGreatSpec Rows.proofGreatRow=true:=by
 unfold joinedFacts;simp only[laidOut,Ud,K7,PI,YZ,abF,Y0,Y1,Bool.and_true]
 kernel_rfl
theorem said:Rows.ProofGreatSaid:=
 OpenClaim.holds_of_wide_leaving_time 3 Tryz.f3 rfl rfl rfl rfl rfl rfl rfl ⟨rfl,rfl,rfl,rfl,rfl⟩ rfl rfl rfl rfl rfl abt Tryz.func3 ZH adD acB
  (λos a H enc _ F=>by rw[OpenClaim.pre_eq_preRow];exact lifted os a H enc F)
end Go.Proofs.YtngcidmhopkokaaGreatDoor
