/- A part of the proof that ProofGreat returns true. -/
import Derived.Test.YtngcidmhopkokaaGreatDoorMyUP1
import Derived.Test.YtngcidmhopkokaaGreatDoorMyUP2
import Derived.Test.YtngcidmhopkokaaGreatDoorMyUP3
import Derived.Test.YtngcidmhopkokaaGreatDoorMyUP4
import Derived.Test.YtngcidmhopkokaaGreatDoorMyUP5
import Derived.Test.YtngcidmhopkokaaGreatDoorMyUP6
import Derived.Test.YtngcidmhopkokaaGreatDoorMyUP7
import Derived.Test.YtngcidmhopkokaaGreatDoorMyUP8
import Derived.Test.YtngcidmhopkokaaGreatDoorMyUP9
import Derived.Test.YtngcidmhopkokaaGreatDoorMyUP10
import Derived.Test.YtngcidmhopkokaaGreatDoorMyEv4
import Derived.Test.YtngcidmhopkokaaGreatDoorMyGr6
set_option linter.all false
namespace Go.Ev
open Go.Proofs Go.Proofs.Tryz
set_option maxRecDepth 100000
theorem ac0(w:World):Path prog (E.at w) I 155 304 out (Vx ) (Rf ):= .trans (.run 100000 51 rfl) (.gc [13,3,9,14,12] (adg w ))
theorem acZ(w:World):Path prog (E.at w) I 155 304 out (Rf ) (Rc ):= .trans (.run 100000 201 rfl) (.gc [292,275,286,283,903,12,226,3,9,13,284,251,274,293,253,14,273,285,278,295] (adf w ))
theorem acY(w:World):Path prog (E.at w) I 155 304 out (Rc ) (Rb ):= .trans (.run 100000 110 rfl) (.gc [292,275,286,283,903,12,226,3,9,13,906,284,251,274,293,253,14,273,904,285,278,911,295] (ade w ))
theorem acX(w:World):Path prog (E.at w) I 155 304 out (Rb ) (Ra ):= .trans (.run 100000 74 rfl) (.gc [911,1468,1177,1471,1472,1467,1470,1469,275,292,286,283,903,12,226,3,9,13,906,284,251,274,293,253,14,273,904,285,278,295] (adb w ))
theorem acW(w:World):Path prog (E.at w) I 155 304 out (Ra ) (Q9 ):=by
 obtain⟨s,h1,a⟩:=aN.1 (ada w );exact .trans (.spawn 100000 100000 h1) (.gc [911,1468,1177,1471,1472,1467,1470,1469,275,292,286,283,903,12,226,3,9,13,906,284,251,274,293,253,14,273,904,285,278,295] a)
theorem acV(w:World):Path prog (E.at w) I 155 304 out (Q9 ) (Q8 ):= .trans (.run 100000 283 rfl) (.gc [911,1845,1838,1848,1849,1844,1847,1846,1416,1455,1833,1829,275,279,910,263,1183,295,1812,1837,1836,916,274,1817,1177,1461,292,286,283,903,12,226,3,9,13,906,284,251,293,253,14,273,904,285,278] (ac9 w ))
theorem acU(w:World):Path prog (E.at w) I 155 304 out (Q8 ) (Q7 ):=by
 obtain⟨s,h1,a⟩:=aN.1 (ac8 w );exact .trans (.spawn 100000 100000 h1) (.gc [911,1845,1838,1848,1849,1844,1847,1846,1416,1455,1833,1829,275,279,910,263,1183,295,1812,1837,1836,916,274,1817,1177,1461,292,286,283,903,12,226,3,9,13,906,284,251,293,253,14,273,904,285,278] a)
theorem acT(w:World):Path prog (E.at w) I 155 304 out (Q7 ) (Q6 ):= .trans (.run 100000 331 rfl) (.gc [292,275,911,286,283,903,12,226,3,9,13,906,284,251,274,293,253,14,273,904,285,278,295] (ac7 w ))
theorem acS(w:World):Path prog (E.at w) I 155 304 out (Q6 ) (Q5 ):= .trans (.run 100000 32 rfl) (.gc [275,3,9,3506,13,12,4863,4864] (ac6 w ))
theorem aa8(w:World):Path prog (E.at w) I 155 304 out (Q5 ) (D9 ):= .trans (.run 100000 85 rfl) (.gc [] (abe w ))
theorem VI(w:World):Path prog (E.at w) I 155 304 out (Vx ) (D9 ):= .trans (ac0 w ) (.trans (acZ w ) (.trans (acY w ) (.trans (acX w ) (.trans (acW w ) (.trans (acV w ) (.trans (acU w ) (.trans (acT w ) (.trans (acS w ) (aa8 w )))))))))
section
open Go.Conc.Lib (WgLib WgLink)
theorem gr_run(X:vo prog E I)(c:∀old,vo prog (E.wo old) I)(a:∀w,uz (E.at w) I=true){L:WgLink}(H:WgLib prog L)(d:L.done=155)(g:L.tWg=304)(W:World)(args:Array Value)(b:dJ dI [] args.toList):
 ∃M last o w' h,runNT prog (M+1) (Conc.solo (Conc.G (Frame.enter prog 3 args .normal) []) W) #[]=(.ended o w',h)∧runN prog M (Conc.solo (Conc.G (Frame.enter prog 3 args .normal) []) W)= .next last∧step prog last= .ended o w'∧Conc.Good prog (Ends W (.bool true)) last o w' h:=by
 refine the_run3 (E:=E) (I:=I) (L:=L) (out:=out) (fid:=3) (f0:=ent E 3 []) X c a H (λ_ _=>rfl) (by kernel_rfl) (gd0 X.F X.FF) rfl (aF rfl) (by kernel_rfl) (by kernel_rfl) rfl rfl W args b ?_;intro w1 i j;have P:=VI w1;rw[← d,← g]at P;refine⟨_,P,rfl,?_⟩;show iU prog E (ES w1) D9.f ⟨.e,5030,0⟩ _;have K:=DoesS.keep (P:=prog) (E:=E.wo (ES w1)) [0,1] (DoesS.refl D9.f (⟨.e,5030,0⟩:AH));have e:RJ [0,1] D9.f=(⟨⟨3,false,none,150⟩,zN (zL (.bool true)) (.bool false) .e,[.code (dY f3 [1,1])],[],false⟩:AF):=by kernel_rfl
 rw[e]at K;exact iU.of K (aT rfl) λ_ _=>gr_head X.F X.FF (λold=>(c old).F) (λold=>(c old).FF) (ES w1)
end
end Go.Ev
