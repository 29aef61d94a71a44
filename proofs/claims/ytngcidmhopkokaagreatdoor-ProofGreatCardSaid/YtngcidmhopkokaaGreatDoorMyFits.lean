/- A part of the proof that ProofGreat returns true. -/
import Derived.Test.YtngcidmhopkokaaGreatDoorMyTabOk
import Derived.Test.YtngcidmhopkokaaGreatDoorMyStates
import Derived.Test.YtngcidmhopkokaaGreatDoorMyEv4
set_option linter.all false
namespace Go.Ev
open Go.Proofs
set_option maxRecDepth 100000
theorem fl3:qQ Tryz.prog 1 3 [1] false:=WB Tryz.underlying3 (i:=Tryz.t3) (by kernel_rfl) rfl
theorem fl9:qQ Tryz.prog 1 9 [2] false:=WA Tryz.underlying9 (i:=Tryz.t9) (by kernel_rfl) rfl
theorem aee:qQ Tryz.prog 2 94 [1,1,2] true:=
 y8 Tryz.underlying94 (i:=Tryz.t94) (by kernel_rfl) rfl Tryz.stoodInHeld94 (by decide) (by refine OW.cons (ks:=[1]) (ks':=[1,2]) rfl (fl3.mono (by decide)) ?_;refine OW.cons (ks:=[1]) (ks':=[2]) rfl (fl3.mono (by decide)) ?_;exact OW.cons (ks:=[2]) (ks':=[]) rfl (fl9.mono (by decide)) .nil) (by decide)
theorem aeh:qQ Tryz.prog 2 214 [1,1] true:=
 y8 Tryz.underlying214 (i:=Tryz.t214) (by kernel_rfl) rfl Tryz.stoodInHeld214 (by decide) (by refine OW.cons (ks:=[1]) (ks':=[1]) rfl (fl3.mono (by decide)) ?_;exact OW.cons (ks:=[1]) (ks':=[]) rfl (fl3.mono (by decide)) .nil) (by decide)
theorem aeg:qQ Tryz.prog 3 309 (List.replicate 8 [1,1,2]).flatten true:=PS Tryz.underlying309 (i:=Tryz.t309) (by kernel_rfl) aee rfl (by decide)
theorem aef:qQ Tryz.prog 2 496 [2,1] true:=
 y8 Tryz.underlying496 (i:=Tryz.t496) (by kernel_rfl) rfl Tryz.stoodInHeld496 (by decide) (by refine OW.cons (ks:=[2]) (ks':=[1]) rfl (fl9.mono (by decide)) ?_;exact OW.cons (ks:=[1]) (ks':=[]) rfl (fl3.mono (by decide)) .nil) (by decide)
theorem fits:Fits Tryz.prog E where
 depth:=by decide+kernel
 M7 t m g h v w:=by
  simp only[E,ay,aB,bn,pK]at h;rcases h with⟨rfl,rfl,rfl⟩|⟨rfl,rfl,rfl⟩
  .exact M6 (i:=Tryz.t46) (by kernel_rfl) Tryz.underlying46 rfl rfl rfl (by simp[Tryz.types_size]) v w
  .exact M6 (i:=Tryz.t260) (by kernel_rfl) Tryz.underlying260 rfl rfl rfl (by simp[Tryz.types_size]) v w
 lies el u h:=by
  simp only[E,ay,aB,bn,pK]at h;rcases h with⟨rfl,rfl⟩|⟨rfl,rfl⟩
  all_goals kernel_rfl
 tt:=Vf acM
 flat t ks h:=by
  simp only[E,ay,aB,bn,pK]at h;rcases h with⟨rfl,rfl⟩|⟨rfl,rfl⟩|⟨rfl,rfl⟩|⟨rfl,rfl⟩
  .exact aee.says (by decide) Tryz.underlying94 Tryz.eqGuardType94
  .exact aeh.says (by decide) Tryz.underlying214 Tryz.eqGuardType214
  .exact aeg.says (by decide) Tryz.underlying309 Tryz.eqGuardType309
  .exact aef.says (by decide) Tryz.underlying496 Tryz.eqGuardType496
theorem tabs:vo Tryz.prog E I where
 F:=fits
 FF:=NM R4 (by kernel_rfl)
 FX:=Ho R4
 FW:=⟨⟨Tryz.f297,Tryz.func297,by kernel_rfl,by kernel_rfl,by kernel_rfl,by kernel_rfl⟩,⟨Tryz.f299,Tryz.func299,by kernel_rfl,by kernel_rfl,by kernel_rfl,by kernel_rfl⟩,⟨Tryz.f228,Tryz.func228,by kernel_rfl,by kernel_rfl,by kernel_rfl,by kernel_rfl⟩,⟨Tryz.f224,Tryz.func224,by kernel_rfl,by kernel_rfl,by kernel_rfl,by kernel_rfl⟩,⟨Tryz.f227,Tryz.func227,by kernel_rfl,by kernel_rfl,by kernel_rfl,by kernel_rfl⟩⟩
theorem acO(old:Old):vo Tryz.prog (E.wo old) I where
 F:=⟨fits.depth,fits.M7,fits.lies,fits.tt,fits.flat⟩
 FF:=NM (E:=E.wo old) R4 (by kernel_rfl)
 FX:=Ho (E:=E.wo old) R4
 FW:=tabs.FW
theorem waits(w:World):uz (E.at w) I=true:=by kernel_rfl
end Go.Ev
