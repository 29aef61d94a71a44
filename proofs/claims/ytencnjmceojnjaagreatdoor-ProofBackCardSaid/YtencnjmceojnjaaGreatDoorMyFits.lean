/- A part of the proof that ProofBack returns true. -/
import Derived.Test.YtencnjmceojnjaaGreatDoorMyTabOk
import Derived.Test.YtencnjmceojnjaaGreatDoorMyStates
import Derived.Test.YtencnjmceojnjaaGreatDoorMyEv4
set_option linter.all false
namespace Go.Ev
open Go.Proofs
set_option maxRecDepth 100000
theorem fl3:sS Tryz.prog 1 3 [1] false:=aaO Tryz.underlying3 (i:=Tryz.t3) (by kernel_rfl) rfl
theorem fl9:sS Tryz.prog 1 9 [2] false:=aaN Tryz.underlying9 (i:=Tryz.t9) (by kernel_rfl) rfl
theorem adW:sS Tryz.prog 2 101 [1,1,2] true:=
 BI Tryz.underlying101 (i:=Tryz.t101) (by kernel_rfl) rfl Tryz.stoodInHeld101 (by decide) (by refine UU.cons (ks:=[1]) (ks':=[1,2]) rfl (fl3.mono (by decide)) ?_;refine UU.cons (ks:=[1]) (ks':=[2]) rfl (fl3.mono (by decide)) ?_;exact UU.cons (ks:=[2]) (ks':=[]) rfl (fl9.mono (by decide)) .nil) (by decide)
theorem agq:sS Tryz.prog 2 203 [1,1] true:=
 BI Tryz.underlying203 (i:=Tryz.t203) (by kernel_rfl) rfl Tryz.stoodInHeld203 (by decide) (by refine UU.cons (ks:=[1]) (ks':=[1]) rfl (fl3.mono (by decide)) ?_;exact UU.cons (ks:=[1]) (ks':=[]) rfl (fl3.mono (by decide)) .nil) (by decide)
theorem agp:sS Tryz.prog 3 292 (List.replicate 8 [1,1,2]).flatten true:=VA Tryz.underlying292 (i:=Tryz.t292) (by kernel_rfl) adW rfl (by decide)
theorem agn:sS Tryz.prog 2 492 [2,1] true:=
 BI Tryz.underlying492 (i:=Tryz.t492) (by kernel_rfl) rfl Tryz.stoodInHeld492 (by decide) (by refine UU.cons (ks:=[2]) (ks':=[1]) rfl (fl9.mono (by decide)) ?_;exact UU.cons (ks:=[1]) (ks':=[]) rfl (fl3.mono (by decide)) .nil) (by decide)
theorem fits:Fits Tryz.prog E where
 depth:=by decide+kernel
 RU t m g h v w:=by
  simp only[E,ay,av,aU,qV]at h;rcases h with⟨rfl,rfl,rfl⟩|⟨rfl,rfl,rfl⟩
  .exact RQ (i:=Tryz.t40) (by kernel_rfl) Tryz.underlying40 rfl rfl rfl (by simp[Tryz.types_size]) v w
  .exact RQ (i:=Tryz.t390) (by kernel_rfl) Tryz.underlying390 rfl rfl rfl (by simp[Tryz.types_size]) v w
 lies el u h:=by
  simp only[E,ay,av,aU,qV]at h;rcases h with⟨rfl,rfl⟩|⟨rfl,rfl⟩
  all_goals kernel_rfl
 tt:=Zq afi
 flat t ks h:=by
  simp only[E,ay,av,aU,qV]at h;rcases h with⟨rfl,rfl⟩|⟨rfl,rfl⟩|⟨rfl,rfl⟩|⟨rfl,rfl⟩
  .exact adW.says (by decide) Tryz.underlying101 Tryz.eqGuardType101
  .exact agq.says (by decide) Tryz.underlying203 Tryz.eqGuardType203
  .exact agp.says (by decide) Tryz.underlying292 Tryz.eqGuardType292
  .exact agn.says (by decide) Tryz.underlying492 Tryz.eqGuardType492
theorem tabs:xZ Tryz.prog E I where
 F:=fits
 FF:=TA XA (by kernel_rfl)
 FX:=KP XA
 FW:=⟨⟨Tryz.f279,Tryz.func279,by kernel_rfl,by kernel_rfl,by kernel_rfl,by kernel_rfl⟩,⟨Tryz.f292,Tryz.func292,by kernel_rfl,by kernel_rfl,by kernel_rfl,by kernel_rfl⟩,⟨Tryz.f219,Tryz.func219,by kernel_rfl,by kernel_rfl,by kernel_rfl,by kernel_rfl⟩,⟨Tryz.f215,Tryz.func215,by kernel_rfl,by kernel_rfl,by kernel_rfl,by kernel_rfl⟩,⟨Tryz.f218,Tryz.func218,by kernel_rfl,by kernel_rfl,by kernel_rfl,by kernel_rfl⟩⟩
theorem afk(old:Old):xZ Tryz.prog (E.wo old) I where
 F:=⟨fits.depth,fits.RU,fits.lies,fits.tt,fits.flat⟩
 FF:=TA (E:=E.wo old) XA (by kernel_rfl)
 FX:=KP (E:=E.wo old) XA
 FW:=tabs.FW
theorem waits(w:World):wM (E.at w) I=true:=by kernel_rfl
end Go.Ev
