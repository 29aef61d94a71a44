/- A part of the proof that ProofGreat returns true. -/
import Derived.Test.YtngcidmhopkokaaGreatDoorMyGr1
import Derived.Test.YtngcidmhopkokaaGreatDoorMyEv4
import Derived.Test.YtngcidmhopkokaaGreatDoorMyGr4
import Derived.Test.YtngcidmhopkokaaGreatDoorMyGr3
import Derived.Test.YtngcidmhopkokaaGreatDoorMyGr2
import Derived.Test.YtngcidmhopkokaaGreatDoorMyEv5
import Derived.Test.YtngcidmhopkokaaGreatDoorMyStates
set_option linter.all false
namespace Go.Ev
open Go.Proofs Go.Proofs.Tryz
set_option maxRecDepth 100000
section
variable(Y:Fe)(Z:Ge)
include Y Z
section
variable(V:Old)(F:Fw V)(O:Gw V)(a b j k:Option (Nat×Nat))(n c m d S R U T:Nat)(P Q:List UInt8)(W X z w:Int)(M:DC V 29 [mK P a n c,mK Q b m d] eH (zI z) eH)(N:DC V 53 (ni j S R k U T) eH (zI w) eH)
include V F O a b j k n c m d S R U T P Q W X z w M N
theorem MU(e:(z !=0)=true):DR V (ent (E.wo V) 51 [.sl 2 0 3 (some 3)]) (bG (dR Q b m d X k U T) (dR P a n c W j S R) (.cells [zI z,zI (aL W X),zI w] 3 false false)) (zI z) (bG (dR Q b m d X k U T) (dR P a n c W j S R) (.cells [zI z,zI (aL W X),zI w] 3 false false)):=
 prt F O (Qb 36 e (Qn 8)) (by kernel_rfl)
theorem MS(e:(z !=0)=false)(o2:(aL W X !=0)=true):DR V (ent (E.wo V) 51 [.sl 2 0 3 (some 3)]) (bG (dR Q b m d X k U T) (dR P a n c W j S R) (.cells [zI z,zI (aL W X),zI w] 3 false false)) (zI (aL W X)) (bG (dR Q b m d X k U T) (dR P a n c W j S R) (.cells [zI z,zI (aL W X),zI w] 3 false false)):=
 prt F O (Qb 36 e (Qb 28 o2 (Qn 8))) (by kernel_rfl)
theorem MR(e:(z !=0)=false)(o2:(aL W X !=0)=false)(f:(w !=0)=true):DR V (ent (E.wo V) 51 [.sl 2 0 3 (some 3)]) (bG (dR Q b m d X k U T) (dR P a n c W j S R) (.cells [zI z,zI (aL W X),zI w] 3 false false)) (zI w) (bG (dR Q b m d X k U T) (dR P a n c W j S R) (.cells [zI z,zI (aL W X),zI w] 3 false false)):=
 prt F O (Qb 36 e (Qb 28 o2 (Qb 28 f (Qn 8)))) (by kernel_rfl)
theorem MQ(e:(z !=0)=false)(o2:(aL W X !=0)=false)(f:(w !=0)=false):DR V (ent (E.wo V) 51 [.sl 2 0 3 (some 3)]) (bG (dR Q b m d X k U T) (dR P a n c W j S R) (.cells [zI z,zI (aL W X),zI w] 3 false false)) (zI 0) (bG (dR Q b m d X k U T) (dR P a n c W j S R) (.cells [zI z,zI (aL W X),zI w] 3 false false)):=
 prt F O (Qb 36 e (Qb 28 o2 (Qb 28 f (Qn 22)))) (by kernel_rfl)
theorem adr(f:(z !=0)=true):DR V (ent (E.wo V) 24 [qX P a n c W j S R,qX Q b m d X k U T]) ⟨.e,0,0⟩ (zI z) (bG (dR Q b m d X k U T) (dR P a n c W j S R) (.cells [zI z,zI (aL W X),zI w] 3 false false)):=
 prt F O (Qd 7 [.c,.c,.c,.c,.k (zI z) (jG Q b m d X k U T P a n c W j S R),.c,.c,.c,.c,.k (zI (aL W X)) (jG Q b m d X k U T P a n c W j S R),.c,.c,.c,.c,.k (zI w) (jG Q b m d X k U T P a n c W j S R),.c,.k (zI z) (bG (dR Q b m d X k U T) (dR P a n c W j S R) (.cells [zI z,zI (aL W X),zI w] 3 false false)),.c] (Qp (DoesC.ov M rfl rfl rfl (by kernel_rfl):DC V 29 [mK P a n c,mK Q b m d] (jG Q b m d X k U T P a n c W j S R) (zI z) (jG Q b m d X k U T P a n c W j S R)) (Qp (DoesC.ov (C9 Y Z V F O W X) rfl rfl rfl (by kernel_rfl):DC V 52 [zI W,zI X] (jG Q b m d X k U T P a n c W j S R) (zI (aL W X)) (jG Q b m d X k U T P a n c W j S R)) (Qp (DoesC.ov N rfl rfl rfl (by kernel_rfl):DC V 53 (ni j S R k U T) (jG Q b m d X k U T P a n c W j S R) (zI w) (jG Q b m d X k U T P a n c W j S R)) (Qp (DoesC.ent O (by kernel_rfl) (MU Y Z V F O a b j k n c m d S R U T P Q W X z w M N f):DC V 51 [.sl 2 0 3 (some 3)] (bG (dR Q b m d X k U T) (dR P a n c W j S R) (.cells [zI z,zI (aL W X),zI w] 3 false false)) (zI z) (bG (dR Q b m d X k U T) (dR P a n c W j S R) (.cells [zI z,zI (aL W X),zI w] 3 false false))) (Qs (.aO k U T) (Qs (.aO k U T) (Qs (.aO k U T) (Qs (.aO j S R) (Qs (.aO j S R) (Qs (.aO j S R) (Qs (zI X) (Qs (zI X) (Qs (zI W) (Qs (zI W) (Qs (mK Q b m d) (Qs (mK P a n c) (Qn 1)))))))))))))))))) (by kernel_rfl)
end
theorem YO(old:Old)(F:Fw old)(FF:Gw old)(a b j k:Option (Nat×Nat))(n c m d jn jc kn kc:Nat)(r1 r2:List UInt8)(u1 u2 z w:Int)(hC:DC old 29 [mK r1 a n c,mK r2 b m d] eH (zI z) eH)(hD:DC old 53 (ni j jn jc k kn kc) eH (zI w) eH)(f:(z !=0)=true):DC old 24 [qX r1 a n c u1 j jn jc,qX r2 b m d u2 k kn kc] ⟨.e,0,0⟩ (zI z) ⟨.e,0,0⟩:=
 DoesC.drop (DoesC.ent FF (by kernel_rfl) (adr Y Z old F FF a b j k n c m d jn jc kn kc r1 r2 u1 u2 z w hC hD f)) [] (by kernel_rfl) (by kernel_rfl) (by kernel_rfl) rfl (by kernel_rfl) (by kernel_rfl) (by kernel_rfl)
theorem adq(old:Old)(F:Fw old)(FF:Gw old)(a b j k:Option (Nat×Nat))(n c m d jn jc kn kc:Nat)(r1 r2:List UInt8)(u1 u2 z w:Int)(hC:DC old 29 [mK r1 a n c,mK r2 b m d] eH (zI z) eH)(hD:DC old 53 (ni j jn jc k kn kc) eH (zI w) eH)(f:(z !=0)=false)(o2:(aL u1 u2 !=0)=true):DR old (ent (E.wo old) 24 [qX r1 a n c u1 j jn jc,qX r2 b m d u2 k kn kc]) ⟨.e,0,0⟩ (zI (aL u1 u2)) (bG (dR r2 b m d u2 k kn kc) (dR r1 a n c u1 j jn jc) (.cells [zI z,zI (aL u1 u2),zI w] 3 false false)):=
 prt F FF (Qd 7 [.c,.c,.c,.c,.k (zI z) (jG r2 b m d u2 k kn kc r1 a n c u1 j jn jc),.c,.c,.c,.c,.k (zI (aL u1 u2)) (jG r2 b m d u2 k kn kc r1 a n c u1 j jn jc),.c,.c,.c,.c,.k (zI w) (jG r2 b m d u2 k kn kc r1 a n c u1 j jn jc),.c,.k (zI (aL u1 u2)) (bG (dR r2 b m d u2 k kn kc) (dR r1 a n c u1 j jn jc) (.cells [zI z,zI (aL u1 u2),zI w] 3 false false)),.c] (Qp (DoesC.ov hC rfl rfl rfl (by kernel_rfl):DC old 29 [mK r1 a n c,mK r2 b m d] (jG r2 b m d u2 k kn kc r1 a n c u1 j jn jc) (zI z) (jG r2 b m d u2 k kn kc r1 a n c u1 j jn jc)) (Qp (DoesC.ov (C9 Y Z old F FF u1 u2) rfl rfl rfl (by kernel_rfl):DC old 52 [zI u1,zI u2] (jG r2 b m d u2 k kn kc r1 a n c u1 j jn jc) (zI (aL u1 u2)) (jG r2 b m d u2 k kn kc r1 a n c u1 j jn jc)) (Qp (DoesC.ov hD rfl rfl rfl (by kernel_rfl):DC old 53 (ni j jn jc k kn kc) (jG r2 b m d u2 k kn kc r1 a n c u1 j jn jc) (zI w) (jG r2 b m d u2 k kn kc r1 a n c u1 j jn jc)) (Qp (DoesC.ent FF (by kernel_rfl) (MS Y Z old F FF a b j k n c m d jn jc kn kc r1 r2 u1 u2 z w hC hD f o2):DC old 51 [.sl 2 0 3 (some 3)] (bG (dR r2 b m d u2 k kn kc) (dR r1 a n c u1 j jn jc) (.cells [zI z,zI (aL u1 u2),zI w] 3 false false)) (zI (aL u1 u2)) (bG (dR r2 b m d u2 k kn kc) (dR r1 a n c u1 j jn jc) (.cells [zI z,zI (aL u1 u2),zI w] 3 false false))) (Qs (.aO k kn kc) (Qs (.aO k kn kc) (Qs (.aO k kn kc) (Qs (.aO j jn jc) (Qs (.aO j jn jc) (Qs (.aO j jn jc) (Qs (zI u2) (Qs (zI u2) (Qs (zI u1) (Qs (zI u1) (Qs (mK r2 b m d) (Qs (mK r1 a n c) (Qn 1)))))))))))))))))) (by kernel_rfl)
theorem YN(old:Old)(F:Fw old)(FF:Gw old)(a b j k:Option (Nat×Nat))(n c m d jn jc kn kc:Nat)(r1 r2:List UInt8)(u1 u2 z w:Int)(hC:DC old 29 [mK r1 a n c,mK r2 b m d] eH (zI z) eH)(hD:DC old 53 (ni j jn jc k kn kc) eH (zI w) eH)(f:(z !=0)=false)(o2:(aL u1 u2 !=0)=true):DC old 24 [qX r1 a n c u1 j jn jc,qX r2 b m d u2 k kn kc] ⟨.e,0,0⟩ (zI (aL u1 u2)) ⟨.e,0,0⟩:=
 DoesC.drop (DoesC.ent FF (by kernel_rfl) (adq Y Z old F FF a b j k n c m d jn jc kn kc r1 r2 u1 u2 z w hC hD f o2)) [] (by kernel_rfl) (by kernel_rfl) (by kernel_rfl) rfl (by kernel_rfl) (by kernel_rfl) (by kernel_rfl)
theorem adp(old:Old)(F:Fw old)(FF:Gw old)(a b j k:Option (Nat×Nat))(n c m d jn jc kn kc:Nat)(r1 r2:List UInt8)(u1 u2 z w:Int)(hC:DC old 29 [mK r1 a n c,mK r2 b m d] eH (zI z) eH)(hD:DC old 53 (ni j jn jc k kn kc) eH (zI w) eH)(f:(z !=0)=false)(o2:(aL u1 u2 !=0)=false)(g:(w !=0)=true):DR old (ent (E.wo old) 24 [qX r1 a n c u1 j jn jc,qX r2 b m d u2 k kn kc]) ⟨.e,0,0⟩ (zI w) (bG (dR r2 b m d u2 k kn kc) (dR r1 a n c u1 j jn jc) (.cells [zI z,zI (aL u1 u2),zI w] 3 false false)):=
 prt F FF (Qd 7 [.c,.c,.c,.c,.k (zI z) (jG r2 b m d u2 k kn kc r1 a n c u1 j jn jc),.c,.c,.c,.c,.k (zI (aL u1 u2)) (jG r2 b m d u2 k kn kc r1 a n c u1 j jn jc),.c,.c,.c,.c,.k (zI w) (jG r2 b m d u2 k kn kc r1 a n c u1 j jn jc),.c,.k (zI w) (bG (dR r2 b m d u2 k kn kc) (dR r1 a n c u1 j jn jc) (.cells [zI z,zI (aL u1 u2),zI w] 3 false false)),.c] (Qp (DoesC.ov hC rfl rfl rfl (by kernel_rfl):DC old 29 [mK r1 a n c,mK r2 b m d] (jG r2 b m d u2 k kn kc r1 a n c u1 j jn jc) (zI z) (jG r2 b m d u2 k kn kc r1 a n c u1 j jn jc)) (Qp (DoesC.ov (C9 Y Z old F FF u1 u2) rfl rfl rfl (by kernel_rfl):DC old 52 [zI u1,zI u2] (jG r2 b m d u2 k kn kc r1 a n c u1 j jn jc) (zI (aL u1 u2)) (jG r2 b m d u2 k kn kc r1 a n c u1 j jn jc)) (Qp (DoesC.ov hD rfl rfl rfl (by kernel_rfl):DC old 53 (ni j jn jc k kn kc) (jG r2 b m d u2 k kn kc r1 a n c u1 j jn jc) (zI w) (jG r2 b m d u2 k kn kc r1 a n c u1 j jn jc)) (Qp (DoesC.ent FF (by kernel_rfl) (MR Y Z old F FF a b j k n c m d jn jc kn kc r1 r2 u1 u2 z w hC hD f o2 g):DC old 51 [.sl 2 0 3 (some 3)] (bG (dR r2 b m d u2 k kn kc) (dR r1 a n c u1 j jn jc) (.cells [zI z,zI (aL u1 u2),zI w] 3 false false)) (zI w) (bG (dR r2 b m d u2 k kn kc) (dR r1 a n c u1 j jn jc) (.cells [zI z,zI (aL u1 u2),zI w] 3 false false))) (Qs (.aO k kn kc) (Qs (.aO k kn kc) (Qs (.aO k kn kc) (Qs (.aO j jn jc) (Qs (.aO j jn jc) (Qs (.aO j jn jc) (Qs (zI u2) (Qs (zI u2) (Qs (zI u1) (Qs (zI u1) (Qs (mK r2 b m d) (Qs (mK r1 a n c) (Qn 1)))))))))))))))))) (by kernel_rfl)
theorem YM(old:Old)(F:Fw old)(FF:Gw old)(a b j k:Option (Nat×Nat))(n c m d jn jc kn kc:Nat)(r1 r2:List UInt8)(u1 u2 z w:Int)(hC:DC old 29 [mK r1 a n c,mK r2 b m d] eH (zI z) eH)(hD:DC old 53 (ni j jn jc k kn kc) eH (zI w) eH)(f:(z !=0)=false)(o2:(aL u1 u2 !=0)=false)(g:(w !=0)=true):DC old 24 [qX r1 a n c u1 j jn jc,qX r2 b m d u2 k kn kc] ⟨.e,0,0⟩ (zI w) ⟨.e,0,0⟩:=
 DoesC.drop (DoesC.ent FF (by kernel_rfl) (adp Y Z old F FF a b j k n c m d jn jc kn kc r1 r2 u1 u2 z w hC hD f o2 g)) [] (by kernel_rfl) (by kernel_rfl) (by kernel_rfl) rfl (by kernel_rfl) (by kernel_rfl) (by kernel_rfl)
theorem ado(old:Old)(F:Fw old)(FF:Gw old)(a b j k:Option (Nat×Nat))(n c m d jn jc kn kc:Nat)(r1 r2:List UInt8)(u1 u2 z w:Int)(hC:DC old 29 [mK r1 a n c,mK r2 b m d] eH (zI z) eH)(hD:DC old 53 (ni j jn jc k kn kc) eH (zI w) eH)(f:(z !=0)=false)(o2:(aL u1 u2 !=0)=false)(g:(w !=0)=false):DR old (ent (E.wo old) 24 [qX r1 a n c u1 j jn jc,qX r2 b m d u2 k kn kc]) ⟨.e,0,0⟩ (zI 0) (bG (dR r2 b m d u2 k kn kc) (dR r1 a n c u1 j jn jc) (.cells [zI z,zI (aL u1 u2),zI w] 3 false false)):=
 prt F FF (Qd 7 [.c,.c,.c,.c,.k (zI z) (jG r2 b m d u2 k kn kc r1 a n c u1 j jn jc),.c,.c,.c,.c,.k (zI (aL u1 u2)) (jG r2 b m d u2 k kn kc r1 a n c u1 j jn jc),.c,.c,.c,.c,.k (zI w) (jG r2 b m d u2 k kn kc r1 a n c u1 j jn jc),.c,.k (zI 0) (bG (dR r2 b m d u2 k kn kc) (dR r1 a n c u1 j jn jc) (.cells [zI z,zI (aL u1 u2),zI w] 3 false false)),.c] (Qp (DoesC.ov hC rfl rfl rfl (by kernel_rfl):DC old 29 [mK r1 a n c,mK r2 b m d] (jG r2 b m d u2 k kn kc r1 a n c u1 j jn jc) (zI z) (jG r2 b m d u2 k kn kc r1 a n c u1 j jn jc)) (Qp (DoesC.ov (C9 Y Z old F FF u1 u2) rfl rfl rfl (by kernel_rfl):DC old 52 [zI u1,zI u2] (jG r2 b m d u2 k kn kc r1 a n c u1 j jn jc) (zI (aL u1 u2)) (jG r2 b m d u2 k kn kc r1 a n c u1 j jn jc)) (Qp (DoesC.ov hD rfl rfl rfl (by kernel_rfl):DC old 53 (ni j jn jc k kn kc) (jG r2 b m d u2 k kn kc r1 a n c u1 j jn jc) (zI w) (jG r2 b m d u2 k kn kc r1 a n c u1 j jn jc)) (Qp (DoesC.ent FF (by kernel_rfl) (MQ Y Z old F FF a b j k n c m d jn jc kn kc r1 r2 u1 u2 z w hC hD f o2 g):DC old 51 [.sl 2 0 3 (some 3)] (bG (dR r2 b m d u2 k kn kc) (dR r1 a n c u1 j jn jc) (.cells [zI z,zI (aL u1 u2),zI w] 3 false false)) (zI 0) (bG (dR r2 b m d u2 k kn kc) (dR r1 a n c u1 j jn jc) (.cells [zI z,zI (aL u1 u2),zI w] 3 false false))) (Qs (.aO k kn kc) (Qs (.aO k kn kc) (Qs (.aO k kn kc) (Qs (.aO j jn jc) (Qs (.aO j jn jc) (Qs (.aO j jn jc) (Qs (zI u2) (Qs (zI u2) (Qs (zI u1) (Qs (zI u1) (Qs (mK r2 b m d) (Qs (mK r1 a n c) (Qn 1)))))))))))))))))) (by kernel_rfl)
theorem YL(old:Old)(F:Fw old)(FF:Gw old)(a b j k:Option (Nat×Nat))(n c m d jn jc kn kc:Nat)(r1 r2:List UInt8)(u1 u2 z w:Int)(hC:DC old 29 [mK r1 a n c,mK r2 b m d] eH (zI z) eH)(hD:DC old 53 (ni j jn jc k kn kc) eH (zI w) eH)(f:(z !=0)=false)(o2:(aL u1 u2 !=0)=false)(g:(w !=0)=false):DC old 24 [qX r1 a n c u1 j jn jc,qX r2 b m d u2 k kn kc] ⟨.e,0,0⟩ (zI 0) ⟨.e,0,0⟩:=
 DoesC.drop (DoesC.ent FF (by kernel_rfl) (ado Y Z old F FF a b j k n c m d jn jc kn kc r1 r2 u1 u2 z w hC hD f o2 g)) [] (by kernel_rfl) (by kernel_rfl) (by kernel_rfl) rfl (by kernel_rfl) (by kernel_rfl) (by kernel_rfl)
end
section
variable(Y:Fe)(Z:Ge)
include Y Z
section
variable(X:Old)(F:Fw X)(W:Gw X)
include X F W
theorem p23(eb ob a on p x:Nat)(i:Int)(r1:List UInt8)(d:Option (Nat×Nat))(f g:Nat)(u1:Int)(k1:Option (Nat×Nat))(l m:Nat)(r2:List UInt8)(b1:Option (Nat×Nat))(b2 b3:Nat)(u2:Int)(j1:Option (Nat×Nat))(j2 j3:Nat)(z:Int)(hi:i=(↑x:Int))(lx:x<on)(q:∀h:AH,loadT (E.wo X) h 30 (OLD+eb) 0=some (.aO (some (ob,a)) on p))(hL:∀h:AH,loadT (E.wo X) h 65 (OLD+ob) (a+x*4)=some (qX r1 d f g u1 k1 l m))(hC:DC X 24 [qX r1 d f g u1 k1 l m,qX r2 b1 b2 b3 u2 j1 j2 j3] eH (zI z) eH):DR X (ent (E.wo X) 23 [zI i,qX r2 b1 b2 b3 u2 j1 j2 j3,.ptr (OLD+eb) 0]) ⟨.e,0,0⟩ (zI z) (jF r2 b1 b2 b3 u2 j1 j2 j3):=
 prt F W (Qd 6 [.v (.aO (some (ob,a)) on p),.c,.v (zP (1152921504606846976+ob) (a+x*4)),.v (qX r1 d f g u1 k1 l m),.c,.k (zI z) (jF r2 b1 b2 b3 u2 j1 j2 j3),.c] (Qq (q (jF r2 b1 b2 b3 u2 j1 j2 j3)) (Qq (gL (e:=65) (by kernel_rfl) (by kernel_rfl) rfl hi lx:aR (E.wo X) 30 (l9 (E.wo X) (.aO (some (ob,a)) on p)) (zI i)=some (zP (1152921504606846976+ob) (a+x*4))) (Qq (hL (jF r2 b1 b2 b3 u2 j1 j2 j3)) (Qp (DoesC.ov hC rfl rfl rfl (by kernel_rfl):DC X 24 [qX r1 d f g u1 k1 l m,qX r2 b1 b2 b3 u2 j1 j2 j3] (jF r2 b1 b2 b3 u2 j1 j2 j3) (zI z) (jF r2 b1 b2 b3 u2 j1 j2 j3)) (Qs (qX r2 b1 b2 b3 u2 j1 j2 j3) (Qp (hL (jF r2 b1 b2 b3 u2 j1 j2 j3)) (Qp (q (jF r2 b1 b2 b3 u2 j1 j2 j3)) (Qn 1))))))))) (by kernel_rfl)
theorem fs0(eb b o n c:Nat)(r2:List UInt8)(b1:Option (Nat×Nat))(b2 b3:Nat)(u2:Int)(j1:Option (Nat×Nat))(j2 j3:Nat):DS X (ent (E.wo X) 22 [.aO (some (b,o)) n c,qX r2 b1 b2 b3 u2 j1 j2 j3,.fn 23 [] [.ptr (OLD+eb) 0]]) ⟨.e,0,0⟩ (Ou (zI 0) (.aO (some (b,o)) n c) (zI (↑n:Int)) (.fn 23 [] [zP (1152921504606846976+eb) 0]) (zI (↑n:Int))) (jF r2 b1 b2 b3 u2 j1 j2 j3):=
 jK F W [0,2,4,8,9,10] (Qn 21) (by kernel_rfl)
theorem fsn(eb:Nat)(r2:List UInt8)(b1:Option (Nat×Nat))(b2 b3:Nat)(u2:Int)(j1:Option (Nat×Nat))(j2 j3:Nat):DR X (ent (E.wo X) 22 [.aO none 0 0,qX r2 b1 b2 b3 u2 j1 j2 j3,.fn 23 [] [.ptr (OLD+eb) 0]]) ⟨.e,0,0⟩ (.bV [zI 0,.bool false]) (jF r2 b1 b2 b3 u2 j1 j2 j3):=
 prt F W (Qd 31 [.c,.c,.c,.c,.c,.c,.c,.c,.c,.c,.c,.c,.c,.c,.c,.c] (Qn 1)) (by kernel_rfl)
end
section
variable(X:Old)(F:Fw X)(H:Gw X)(O b o n c:Nat)(V:List UInt8)(P:Option (Nat×Nat))(Q R:Nat)(W:Int)(S:Option (Nat×Nat))(T U:Nat)(i j z w:Int)(J:0<=(IntKind.i64.wrap ((IntKind.u64.wrap (IntKind.i64.wrap (i+j))).fdiv 2)))(K:(IntKind.i64.wrap ((IntKind.u64.wrap (IntKind.i64.wrap (i+j))).fdiv 2))<n)(N:∀h,loadT (E.wo X) h 3 (OLD+b) (o+(IntKind.i64.wrap ((IntKind.u64.wrap (IntKind.i64.wrap (i+j))).fdiv 2)).toNat*1)=some (zI w))(L:RX X 23 [zI w,qX V P Q R W S T U,.ptr (OLD+O) 0] (zI z))(M:(decide (i<j))=true)
include X F H O b o n c V P Q R W S T U i j z w J K N L M
theorem af4(o2:(decide (z<0))=true):DS X (Oo i b o n c O j) (jF V P Q R W S T U) (Ou (zI (IntKind.i64.wrap (IntKind.i64.wrap ((IntKind.u64.wrap (IntKind.i64.wrap (i+j))).fdiv 2)+1))) (.aO (some (b,o)) n c) (zI (↑n:Int)) (.fn 23 [] [zP (1152921504606846976+O) 0]) (zI j)) (jF V P Q R W S T U):=
 jK F H [0,2,4,8,9,10] (Qb 5 M (Qd 15 [.c,.c,.c,.v (zP (1152921504606846976+b) (o+(IntKind.i64.wrap ((IntKind.u64.wrap (IntKind.i64.wrap (i+j))).fdiv 2)).toNat*1)),.v (zI w),.c,.k (zI z) (jF V P Q R W S T U),.v (.bool true)] (Qq (x55 X b o c J K) (Qq (N (jF V P Q R W S T U)) (Qp (L (jF V P Q R W S T U) (by kernel_rfl) rfl) (Qq (Qc o2) (Qs (qX V P Q R W S T U) (Qp (N (jF V P Q R W S T U)) (Qn 8))))))))) (by kernel_rfl)
theorem af3(o2:(decide (z<0))=false):DS X (Oo i b o n c O j) (jF V P Q R W S T U) (Ou (zI i) (.aO (some (b,o)) n c) (zI (↑n:Int)) (.fn 23 [] [zP (1152921504606846976+O) 0]) (zI (IntKind.i64.wrap ((IntKind.u64.wrap (IntKind.i64.wrap (i+j))).fdiv 2)))) (jF V P Q R W S T U):=
 jK F H [0,2,4,8,9,10] (Qb 5 M (Qd 15 [.c,.c,.c,.v (zP (1152921504606846976+b) (o+(IntKind.i64.wrap ((IntKind.u64.wrap (IntKind.i64.wrap (i+j))).fdiv 2)).toNat*1)),.v (zI w),.c,.k (zI z) (jF V P Q R W S T U),.v (.bool false)] (Qq (x55 X b o c J K) (Qq (N (jF V P Q R W S T U)) (Qp (L (jF V P Q R W S T U) (by kernel_rfl) rfl) (Qq (Qc o2) (Qs (qX V P Q R W S T U) (Qp (N (jF V P Q R W S T U)) (Qn 7))))))))) (by kernel_rfl)
end
theorem fsx(old:Old)(F:Fw old)(FF:Gw old)(eb b o n c:Nat)(r2:List UInt8)(b1:Option (Nat×Nat))(b2 b3:Nat)(u2:Int)(j1:Option (Nat×Nat))(j2 j3:Nat)(i j:Int)(o1:(decide (i<j))=false)(o2:(decide (i<(↑n:Int)))=false):DR old (Oo i b o n c eb j) (jF r2 b1 b2 b3 u2 j1 j2 j3) (.bV [zI i,.bool false]) (jF r2 b1 b2 b3 u2 j1 j2 j3):=
 prt F FF (Qb 5 o1 (Qd 4 [.c,.c,.c,.v (.bool false),.c,.c,.c,.c,.c,.c,.c,.c,.c,.c,.c,.c] (Qq (Qc o2) (Qn 1)))) (by kernel_rfl)
section
variable(X:Old)(F:Fw X)(G:Gw X)(N b o n c:Nat)(V:List UInt8)(P:Option (Nat×Nat))(Q R:Nat)(W:Int)(S:Option (Nat×Nat))(T U:Nat)(i j z w:Int)(H:0<=i)(J:i<n)(O:∀h,loadT (E.wo X) h 3 (OLD+b) (o+(i).toNat*1)=some (zI w))(K:RX X 23 [zI w,qX V P Q R W S T U,.ptr (OLD+N) 0] (zI z))(L:(decide (i<j))=false)(M:(decide (i<(↑n:Int)))=true)
include X F G N b o n c V P Q R W S T U i j z w H J O K L M
theorem adW(a:(z==0)=true):DR X (Oo i b o n c N j) (jF V P Q R W S T U) (.bV [zI i,.bool true]) (jF V P Q R W S T U):=
 prt F G (Qb 5 L (Qd 4 [.c,.c,.c,.v (.bool true),.c,.c,.c,.c,.v (zP (1152921504606846976+b) (o+i.toNat*1)),.v (zI w),.c,.k (zI z) (jF V P Q R W S T U),.v (.bool true),.c,.c,.c] (Qq (Qc M) (Qq (x55 X b o c H J) (Qq (O (jF V P Q R W S T U)) (Qp (K (jF V P Q R W S T U) (by kernel_rfl) rfl) (Qq (Qc a) (Qs (qX V P Q R W S T U) (Qp (O (jF V P Q R W S T U)) (Qn 1)))))))))) (by kernel_rfl)
theorem adV(a:(z==0)=false):DR X (Oo i b o n c N j) (jF V P Q R W S T U) (.bV [zI i,.bool false]) (jF V P Q R W S T U):=
 prt F G (Qb 5 L (Qd 4 [.c,.c,.c,.v (.bool true),.c,.c,.c,.c,.v (zP (1152921504606846976+b) (o+i.toNat*1)),.v (zI w),.c,.k (zI z) (jF V P Q R W S T U),.v (.bool false),.c,.c,.c] (Qq (Qc M) (Qq (x55 X b o c H J) (Qq (O (jF V P Q R W S T U)) (Qp (K (jF V P Q R W S T U) (by kernel_rfl) rfl) (Qq (Qc a) (Qs (qX V P Q R W S T U) (Qp (O (jF V P Q R W S T U)) (Qn 1)))))))))) (by kernel_rfl)
end
end
section
variable{L:List LN}{b eb i j:Nat}{cs:List AV}{y:LN}
def mU(x y:LN):Int:=dQ (Us x.rel x.args y.rel y.args) (dQ (aL x.rule y.rule) (vO x.kids y.kids))
def yM(old:Old)(c:List AV)(x:LN):Prop:=∃a k,c=[.str x.rel,a,zI x.rule,k]∧iM old a x.args∧vv old k x.kids.length 1 (x.kids.map zI)
theorem yM.mono{old old':Old}(h:Old.le old old'){c:List AV}{x:LN}(H:yM old c x):yM old' c x:=by
 obtain⟨a,k,e,h1,b⟩:=H;exact⟨a,k,e,h1.mono h,vv.mono h b⟩
theorem yM.low{old:Old}{c:List AV}{x:LN}(H:yM old c x):AV.dX 0 c=true:=by
 obtain⟨a,k,rfl,h1,b⟩:=H;show(true&&(AV.low 0 _&&(true&&(AV.low 0 _&&true))))=true;rw[qI h1,qI b];rfl
theorem Aw.ln{old:Old}{o:Nat}(d:Aw old cs L)(e:iI old b o (L.length*4)=some cs){x:LN}(hj:L[j]? =some x):∃c,iI old b (o+j*4) 4=some c∧yM old c x:=by
 obtain⟨a,k,h1,f,g⟩:=d.at e hj;exact⟨_,h1,a,k,rfl,f,g⟩
def acA(old:Old)(eb:Nat)(L:List LN):Prop:=∃ob a b cs,old eb 0=some (.aO (some (ob,a)) L.length b)∧Aw old cs L∧iI old ob a (L.length*4)=some cs
noncomputable def bsL(eb b o n c:Nat)(y:List AV)(i j:Int):AF:=(Ou (zI i) (.aO (some (b,o)) n c) (zI ((↑n:Int))) (.fn 23 [] [.ptr (OLD+eb) 0]) (zI j))
theorem abw(eb:Nat):AV.low 0 (.fn 23 [] [.ptr (OLD+eb) 0])=true:=by
 show(AV.dX 0 []&&(AV.low 0 (.ptr (OLD+eb) 0)&&true))=true;rw[oI eb |> (λh=>(show AV.low 0 (.ptr (OLD+eb) 0)=true from h))];rfl
section
variable(W:Fe)(Y:Ge)(Z:Old)(F:Fw Z)(X:Gw Z)
include W Y F X
theorem c24{c d:List AV}{x:LN}(o:yM Z c x)(p:yM Z d y)(h1:x.args.length<=268435456)(q:x.kids.length<=268435456):DC Z 24 [.agg c,.agg d] eH (zI (mU x y)) eH:=by
 obtain⟨a,k,rfl,i,l⟩:=o;obtain⟨b,j,rfl,m,n⟩:=p;have C:=c49 W Y Z F X (r1:=x.rel) (r2:=y.rel) i m h1;have D:=c53 W Y Z F X l n q;obtain⟨r,s,t,rfl⟩:=i.shape;obtain⟨u,v,w,rfl⟩:=m.shape;obtain⟨r1,r2,rfl,_⟩:=K5 l;obtain⟨z,A,rfl,_⟩:=K5 n;by_cases f:Us x.rel x.args y.rel y.args=0
 .by_cases g:aL x.rule y.rule=0
  .by_cases h:vO x.kids y.kids=0
   .have e:mU x y=0:=by unfold mU dQ;rw[aH f,aH g,h]
    rw[e];exact YL W Y Z F X _ _ _ _ _ _ _ _ _ _ _ _ _ _ _ _ _ _ C D (tC f) (tC g) (tC h)
   .have e:mU x y=vO x.kids y.kids:=by unfold mU dQ;rw[aH f,aH g]
    rw[e];exact YM W Y Z F X _ _ _ _ _ _ _ _ _ _ _ _ _ _ _ _ _ _ C D (tC f) (tC g) (AY h)
  .have e:mU x y=aL x.rule y.rule:=by unfold mU dQ;rw[aH f,au g]
   rw[e];exact YN W Y Z F X _ _ _ _ _ _ _ _ _ _ _ _ _ _ _ _ _ _ C D (tC f) (AY g)
 .have e:mU x y=Us x.rel x.args y.rel y.args:=by unfold mU dQ;rw[au f]
  rw[e];exact YO W Y Z F X _ _ _ _ _ _ _ _ _ _ _ _ _ _ _ _ _ _ C D (AY f)
theorem c23(q:acA Z eb L)(f:∀l∈L,l.args.length<=268435456∧l.kids.length<=268435456){d:List AV}(g:yM Z d y){x:LN}(hi:L[i]? =some x):
 DC Z 23 [zI i,.agg d,.ptr (OLD+eb) 0] eH (zI (mU x y)) eH:=by
 obtain⟨ob,r,s,cs,h1,u,v⟩:=q;obtain⟨c,w,p⟩:=u.ln v hi;obtain⟨m,n⟩:=f x (bE hi);have C:=c24 W Y Z F X p g m n;have o:i<L.length:=(aJ.1 hi).1;have e:=rH (E:=E.wo Z) (t:=65) (z:=4) (by kernel_rfl) (by kernel_rfl) w;obtain⟨a,k,rfl,A,B⟩:=p;have D:=g.low;obtain⟨b,j,rfl,m,n⟩:=g;obtain⟨G,H,I,rfl⟩:=A.shape;obtain⟨J,K,M,rfl⟩:=m.shape;obtain⟨r1,r2,rfl,_⟩:=K5 B;obtain⟨N,O,rfl,_⟩:=K5 n;refine DoesC.drop (DoesC.ent X (by kernel_rfl) (p23 W Y Z F X eb ob r L.length s i i x.rel G H I x.rule r1 x.kids.length r2 y.rel J K M y.rule N y.kids.length O (mU x y) rfl o (λh=>gB (by kernel_rfl) h1) e C)) [] (by kernel_rfl) (by kernel_rfl) (by kernel_rfl) rfl (by kernel_rfl) ?_ (by kernel_rfl);show(true&&(AV.low 0 _&&(AV.low 0 (.ptr (OLD+eb) 0)&&true)))=true;rw[show AV.low 0 (.ptr (OLD+eb) 0)=true from oI eb];rfl
end
end
section
variable{α:Type}{cf:α->α->Int}{eb:Nat}{v:AV}{σ:List Nat}
theorem EI:∀l m,vO l m=tX aL l m
 |[],[]=>rfl
 |[],_::_=>rfl
 |_::_,[]=>rfl
 |x::l,y::m=>by show dQ _ (vO l m)=dQ _ (tX aL l m);rw[EI]
theorem Xf:TO vO:=by
 have:vO=tX aL:=funext λl=>funext λm=>EI l m;rw[this];exact Ak.lex
def LN.fact(x:LN):PF:=⟨x.rel,x.args⟩
theorem Gm:TO mU:=(xY.pull LN.fact).or ((Ak.pull LN.rule).or (Xf.pull LN.kids))
theorem ZY.srt{l:List α}(h:ZY cf l):o8 cf l:=h.imp kC
structure rQ(K:List LN)(y:LN)(k:Nat)(was:Bool):Prop where
 le:k<=K.length
 lo:∀(i:Nat) x,i<k->K[i]? =some x->mU x y<0
 hi:∀(i:Nat) x,k<=i->K[i]? =some x->0<=mU x y
 eq:was=true->∃x,K[k]? =some x∧mU x y=0
 ne:was=false->∀(i:Nat) x,K[i]? =some x->mU x y≠0
section
variable(W:Fe)(Y:Ge)(Z:Old)(F:Fw Z)(X:Gw Z)
include W Y F X
theorem c22{L K:List LN}(hs:vv Z v σ.length 1 (σ.map λ(i:Nat)=>zI i))(hB:L≠[]->acA Z eb L)(Q:∀l∈L,l.args.length<=268435456∧l.kids.length<=268435456)(hn:L.length<=268435456)(B:σ.length=K.length)(hK:∀(i j:Nat),σ[i]? =some j->j<L.length∧L[j]? =K[i]?)(hS:ZY mU K)(hKn:K.length<=268435456){d:List AV}{y:LN}(R:yM Z d y):
 ∃k I,rQ K y k I∧DC Z 22 [v,.agg d,.fn 23 [] [.ptr (OLD+eb) 0]] eH (.bV [zI (k:Nat),.bool I]) eH:=by
 have S:=R.low;have J:AV.dX 0 [v,.agg d,.fn 23 [] [.ptr (OLD+eb) 0]]=true:=by
  show(AV.low 0 v&&(AV.dX 0 d&&(AV.low 0 _&&true)))=true;rw[qI hs,S,abw];rfl
 have fin:∀{k:Nat} {b:Bool} {w:AH},DR Z (Ev.ent (E.wo Z) 22 [v,.agg d,.fn 23 [] [.ptr (OLD+eb) 0]]) eH (.bV [zI (k:Nat),.bool b]) w->(iW (E.wo Z) 22 [v,.agg d,.fn 23 [] [.ptr (OLD+eb) 0]] false).isSome=true->Nat.ble w.nx OLD=true->w.df=0->DC Z 22 [v,.agg d,.fn 23 [] [.ptr (OLD+eb) 0]] eH (.bV [zI (k:Nat),.bool b]) eH:=λ{k b w} A m h1 h0=>
  DoesC.move (ρ:=λi=>i) (by rw[AV.iO];exact DoesC.ent X m A) (Ab h0 (bT _) h1 (λi o e=>by rw[Tr.dN]at e;cases e) rfl) J rfl (λi o e=>by rw[show(eH.tr).get i=none from Tr.dN i]at e;cases e) rfl
 have U:=R;obtain⟨q0,j0,rfl,qa,qk⟩:=R;obtain⟨p,r,s,rfl⟩:=qa.shape;obtain⟨t,u,rfl,_⟩:=K5 qk;rcases hs with⟨b,o,c,rfl,hC⟩|⟨rfl,h0,_⟩
 .rw[bW]at hC
  have M:∀x,x<σ.length->∃j e,σ[x]? =some j∧L[j]? =some e∧K[x]? =some e:=λx n=>by
   have h1:σ[x]? =some σ[x]:=aK n;obtain⟨w,N⟩:=hK x _ h1;have h4:L[σ[x]]? =some L[σ[x]]:=aK w;exact⟨_,_,h1,h4,by rw[← N];exact h4⟩
  have V:∀{j:Nat} {e:LN},L[j]? =some e->acA Z eb L:=λ{j e} h=>hB λh0=>by rw[h0]at h;cases h
  have a:∀{x j:Nat},σ[x]? =some j->∀h:AH,loadT (E.wo Z) h 3 (OLD+b) (o+(x:Int).toNat*1)=some (zI j):=λ{x j} hj h=>by
   rw[bN,bW];exact gB (by kernel_rfl) (iY hC (by rw[eu,hj];rfl))
  have f:∀{j:Nat} {e:LN},L[j]? =some e->∀h:AH,Nat.ble h.nx OLD=true->h.df=0->DC Z 23 [zI j,.agg [.str y.rel,.aO p r s,zI y.rule,.aO t y.kids.length u],.ptr (OLD+eb) 0] h (zI (mU e y)) h:=λ{j e} m h hn hd=>
   DoesC.ov (c23 W Y Z F X (V m) Q U m) (by
    show(true&&(AV.low 0 _&&(AV.low 0 (.ptr (OLD+eb) 0)&&true)))=true;rw[show AV.low 0 (.ptr (OLD+eb) 0)=true from oI eb];rfl) rfl hd hn
  have A0:=fs0 W Y Z F X eb b o σ.length c y.rel p r s y.rule t y.kids.length u;let q:Nat->Bool:=λx=>match K[x]? with |some e=>decide (mU e y<0)|none=>false
  have G:∀{x:Nat} {e:LN},K[x]? =some e->q x=decide (mU e y<0):=λ{x e} m=>by show(match K[x]? with |some e=>decide (mU e y<0)|none=>false)=_;rw[m]
  have T:=Gm;obtain⟨k,k1,k2,k3,k4,k5⟩:=bsearch (P:=prog) (E:=E.wo Z) (St:=λi j=>bsL eb b o σ.length c [] i j) (hp:=⟨zL (.cells [.str y.rel,.aO p r s,zI y.rule,.aO t y.kids.length u] 65 false false),1,0⟩) q 0 σ.length
   (λi j h1 w N C=>by
    obtain⟨H,e,hj,m,O⟩:=M ((i+j) / 2) (by omega);rw[G O]at C;have w0:=Ei (i:=i) (j:=j) (by omega) (by omega);have A1:=af4 W Y Z F X eb b o σ.length c y.rel p r s y.rule t y.kids.length u i j (mU e y) H (by rw[w0];omega) (by rw[w0];omega) (by rw[w0];exact a hj) (f m) (aA (by omega)) C;rw[w0,dW (z:=(((i+j) / 2:Nat):Int)+1) (by omega) (by omega)]at A1;exact A1)
   (λi j h1 w N C=>by
    obtain⟨H,e,hj,m,O⟩:=M ((i+j) / 2) (by omega);rw[G O]at C;have w0:=Ei (i:=i) (j:=j) (by omega) (by omega);have A1:=af3 W Y Z F X eb b o σ.length c y.rel p r s y.rule t y.kids.length u i j (mU e y) H (by rw[w0];omega) (by rw[w0];omega) (by rw[w0];exact a hj) (f m) (aA (by omega)) C;rw[w0]at A1;exact A1)
   (λx z h1 w N C=>by
    obtain⟨_,e,_,_,m⟩:=M x (by omega);obtain⟨_,g,_,_,hg⟩:=M z N;rw[G hg]at C;rw[G m];exact aA (T.EU (hS.srt.get T w m hg) (bZ C)))
   σ.length 0 σ.length (by omega) (ah _) (bT _) (ah _) (λx h h'=>by omega) (λx h h'=>by omega)
  have lo:∀(i:Nat) x,i<k->K[i]? =some x->mU x y<0:=λi x hi n=>by
   have:=k3 i (bT _) hi;rw[G n]at this;exact bZ this
  have hi:∀(i:Nat) x,k<=i->K[i]? =some x->0<=mU x y:=λi x hi n=>by
   have:=k4 i hi (by rw[B];exact(aJ.1 n).1);rw[G n]at this;have:=of_decide_eq_false this;omega
  by_cases O:k<σ.length
  .obtain⟨H,e,hj,m,D⟩:=M k O
   have A2:∀z:Bool,(mU e y==0)=z->DR Z (bsL eb b o σ.length c [] k k) ⟨zL (.cells [.str y.rel,.aO p r s,zI y.rule,.aO t y.kids.length u] 65 false false),1,0⟩ (.bV [zI (k:Nat),.bool z]) ⟨zL (.cells [.str y.rel,.aO p r s,zI y.rule,.aO t y.kids.length u] 65 false false),1,0⟩:=λz hz=>by
    cases z
    .exact adV W Y Z F X eb b o σ.length c y.rel p r s y.rule t y.kids.length u k k (mU e y) H (by omega) (by omega) (a hj) (f m) (aD (by omega)) (aA (by omega)) hz
    .exact adW W Y Z F X eb b o σ.length c y.rel p r s y.rule t y.kids.length u k k (mU e y) H (by omega) (by omega) (a hj) (f m) (aD (by omega)) (aA (by omega)) hz
   refine⟨k,mU e y==0,⟨by omega,lo,hi,λh=>⟨e,D,by simpa using h⟩,λh i x n h0=>?_⟩,fin (Does.of A0 (Does.of k5 (A2 _ rfl))) (by kernel_rfl) rfl rfl⟩;have h:mU e y≠0:=by simpa using h
   have ki:k<=i:=by
    rcases aZ i k with g|g
    .have:=lo i x g n;omega
    .exact g
   have l1:mU e x<=0:=hS.srt.get T ki D n;have l2:=T.trans l1 (iE h0);have:=hi k e (ah _) D;omega
  .have A2:=fsx W Y Z F X eb b o σ.length c y.rel p r s y.rule t y.kids.length u k k (aD (by omega)) (aD (by omega))
   refine⟨k,false,⟨by omega,lo,hi,λh=>(by cases h),λ_ i x n h0=>?_⟩,fin (Does.of A0 (Does.of k5 A2)) (by kernel_rfl) rfl rfl⟩;have:=lo i x (by have:=(aJ.1 n).1;omega) n;omega
 .obtain rfl:σ=[]:=bB.1 h0
  have hK0:K=[]:=bB.1 (by simpa using B.symm);subst hK0;exact⟨0,false,⟨ah _,λi x hi=>aP hi (iq _),λi x _ h=>(by cases h),λh=>(by cases h),λ_ i x h=>(by cases h)⟩,fin (fsn W Y Z F X eb y.rel p r s y.rule t y.kids.length u) (by kernel_rfl) rfl rfl⟩
end
end
section
variable{N b x:Nat}{R:rP}{S:List AV}{SV:AV}{cp:Option Nat}{m:Mm}
def UO(m:Mm)(a:AV)(ids:List Int):Prop:=(a= .aM∧ids=[])∨∃q,a= .sl q 0 ids.length none∧m q= .cells (ids.map zI) 3 true false∧0<ids.length
def PG(a:AV)(k:Nat):Prop:=∃o n c,a= .sl k o n c
theorem UO.ok{a:AV}{ids:List Int}(h:UO m a ids):afE a ids.length:=by
 rcases h with⟨rfl,rfl⟩|⟨q,rfl,_,_⟩
 .exact .inl ⟨rfl,rfl⟩
 .exact .inr ⟨q,none,rfl⟩
theorem O8{E:Env}{g:Bool}{w:Nat}(h:FR cp g S (w+1))(a:E.d 59=some (.slice 56))(b:(E.tt.get 56).map (·.size)=some 1){i:Int}(hi:i=(↑w:Int)):iN E 59 (.sl 0 0 (w+1) cp) none (some (zI i)) none=some (.sl 0 0 w cp):=by
 rcases h with⟨rfl,_,_⟩|⟨rfl,_,_,d⟩
 .exact Gz a b hi (by omega)
 .exact Jo a b hi (by omega)
theorem Ny(l:List Int):∀a∈l.map zI,AV.low 0 a=true:=λa b=>by
 obtain⟨i,_,rfl⟩:=bP.1 b;rfl
theorem Uc{old:Old}{c:Nat}{l:List Int}(h:∀(o:Nat) a,(l.map zI)[o]? =some a->old b o=some a):vv old (.aO (some (b,0)) l.length c) l.length 1 (l.map zI):=
 .inl ⟨b,0,c,rfl,by have:=know h;rw[bH]at this;rw[bW];exact this⟩
theorem tq.reads{old:Old}{d to:Nat}{t:T}(h:tq old (.ptr (OLD+d) to) t):∃a c f ks,iM old a t.args∧ny old ks t.kids∧((t.kids=[]∧c=none)∨∃g ok,c=some (g,ok)∧iI old g ok (t.kids.length*4)=some ks)∧
 (∀h:AH,loadT (E.wo old) h 25 (OLD+d) to=some (.agg [.str t.rel,a]))∧(∀h:AH,loadT (E.wo old) h 3 (OLD+d) (to+2)=some (zI t.rule))∧∀h:AH,loadT (E.wo old) h 26 (OLD+d) (to+3)=some (.aO c t.kids.length f):=by
 obtain⟨b,o,cs,e,h1,i⟩:=h;simp only[AV.ptr.injEq]at e;obtain⟨e1,rfl⟩:=e;obtain rfl:d=b:=by omega
 clear e1;obtain⟨a,c,f,ks,rfl,l,m,p⟩:=i.one;obtain⟨q,r,s,u,e1,e2⟩:=rG (k:=2) (n:=2) h1;obtain⟨v,w⟩:=List.append_inj (s₁:=[AV.str t.rel,a]) (t₁:=[zI t.rule,AV.aO c t.kids.length f]) (s₂:=q) (t₂:=r) s (by rw[u];rfl);subst v;subst w;refine⟨a,c,f,ks,l,m,p,λh=>rH (E:=E.wo old) (by kernel_rfl) (by kernel_rfl) e1 h,λh=>gB (by kernel_rfl) (iY (j:=0) e2 rfl),λh=>gB (by kernel_rfl) (iY (j:=1) e2 rfl)⟩
section
variable(W:Fe)(Y:Ge)(X:∀old,Fw old)(Z:∀old,Gw old)
include W Y X Z
theorem agp{old:Old}{B d:AV}{g:Bool}{w s p to:Nat}{t:T}{ids:List Int}
 (hs:m s= .cells S 56 g false)(hx:m x= .cells [.ptr (OLD+p) to,d] 58 false false)(hne:s≠x)(hsN:s<N)(hxN:x<N)(hO:N+2<=OLD)(hst:FR cp g S (w+1))(hw:w<=268435456)(hT:S[w]? =some (.ptr x 0))(I:UO m d ids)(hkN:∀k,PG d k->k<N)
 (hp:tq old (.ptr (OLD+p) to) t)(hal:t.args.length<=268435456)(hj:ids.length=t.kids.length)
 (B':∀old' y c m',Old.le old old'->N<=y->y<N+2->m' y= .cells c 65 false false->yM old' c ⟨t.rel,t.args,t.rule,ids⟩->(∀k,k<N->¬PG d k->m' k=m k)->dA prog E old' (za B SV (.sl s 0 w cp) (.ptr y 0)) m' (N+2) R):
 dA prog E old (IJ B SV (.sl s 0 (w+1) cp)) m N R:=by
 obtain⟨θ,hθ⟩:=Pm.mk' (l:=[s,x]) (N:=N) (k:=2) [0,1,2,3] (by decide) rfl (by decide) (by simpa using hne) (by simp;omega) hO;obtain⟨t0,t1,t2,t3⟩:θ.to 0=s∧θ.to 1=x∧θ.to 2=N∧θ.to 3=N+1:=by
  have h:[θ.to 0,θ.to 1,θ.to 2,θ.to 3]=[s,x,N,N+1]:=hθ;simp only[dO,j6]at h;exact h
 obtain⟨a,ka,kc,ks,r1,r2,r3,lF,lR,lK⟩:=hp.reads;have hi:IntKind.i64.wrap ((↑(w+1):Int) - 1)=(↑w:Int):=by rw[dW (by omega) (by omega)];omega
 have eT:(AV.ptr x 0).un θ= .ptr 1 0:=by show AV.ptr (θ.inv x) _=_;rw[← t1,θ.li]
 have r:∀h:AH,h.obj 0= .cells (fQ θ S) 56 g false->loadT (E.wo old) h 56 0 (w*1)=some (.ptr 1 0):=λh ho=>lD (by kernel_rfl) rfl ho (by rw[bW,tK hT,eT]);have z:iN (E.wo old) 59 (.sl 0 0 (w+1) cp) none (some (zI (IntKind.i64.wrap ((↑(w+1):Int) - 1)))) none=some (.sl 0 0 w cp):=O8 hst (by kernel_rfl) (by kernel_rfl) hi;have M:∀b,θ.to (OLD+b)=OLD+b:=λb=>θ.old _ (dZ _ _);have eO:(AO.cells [.ptr (OLD+p) to,d.un θ] 58 false false).ren θ.to= .cells [.ptr (OLD+p) to,d] 58 false false:=by
  show AO.cells [.ptr (θ.to (OLD+p)) to,(d.un θ).ren θ.to] 58 false false=_;rw[AV.jo,M]
 have v:∀e∈ents (zN (zL (.cells [.ptr (OLD+p) to,d.un θ] 58 false false)) (.cells (fQ θ S) 56 g false) .e),m (θ.to e.1)=e.2.ren θ.to∧θ.to e.1∈[s,x,N,N+1]:=λe n=>by
  have n:e∈[(0,AO.cells (fQ θ S) 56 g false),(1,.cells [.ptr (OLD+p) to,d.un θ] 58 false false)]:=n;simp only[ay,aB,bn]at n;rcases n with rfl|rfl
  .exact⟨by rw[t0,hs,iT],by rw[t0];simp⟩
  .exact⟨by rw[t1,hx,eO],by rw[t1];simp⟩
 have kids:∀(f:Old) (y:Nat) (O:AV) (m1:Mm),Old.le old f->N<=y->y<N+2->iM f O t.args->m1 y= .cells [.str t.rel,O,zI t.rule,d] 65 false false->(∀k,k<N->m1 k=m k)->dA prog E f (za B SV (.sl s 0 w cp) (.ptr y 0)) m1 (N+2) R:=λf y O m1 A P Q hv hm L=>by
  rcases I with⟨rfl,rfl⟩|⟨q,rfl,hq,U⟩
  .refine dA.nil (id:=y) (j:=3) hm rfl ?_
   refine B' f y _ _ A P Q (by simp only[dH];rw[aH trivial];rfl) ⟨O,.aO none 0 0,rfl,hv,.inr ⟨rfl,rfl,rfl⟩⟩ (λk h1 G=>?_);simp only[dH];rw[au (by omega)];exact L k h1
  .have hqN:=hkN q ⟨_,_,_,rfl⟩
   refine dA.BD (id:=q) (i:=y) (j:=3) (by rw[L q hqN];exact hq) (Ny ids) hm (by omega) rfl ?_;intro V b c H _ J;refine B' V y _ _ (Old.le_trans A H) P Q (by simp only[dH];rw[aH trivial];rfl) ⟨O,.aO (some (b,0)) ids.length c,rfl,hv.mono H,Uc J⟩ (λk h1 G=>?_);simp only[dH];rw[au (by omega),au (λe=>G ⟨_,_,_,by rw[e]⟩)];exact L k h1
 have eL:∀a0:AV,(AO.cells [.str t.rel,a0,zI t.rule,d.un θ] 65 false false).ren θ.to= .cells [.str t.rel,a0.ren θ.to,zI t.rule,d] 65 false false:=λa0=>by
  show AO.cells [.str t.rel,a0.ren θ.to,zI t.rule,(d.un θ).ren θ.to] 65 false false=_;rw[AV.jo]
 rcases r1 with⟨b,o,ac,rfl,hC⟩|⟨rfl,F,hcv⟩
 .obtain⟨u,ag,hR,C⟩:=c21 W Y old (X old) (Z old) t.rel (c:=ac) hC hal
  have D:DS old (IJ (B.un θ) (SV.un θ) (.sl 0 0 (w+1) cp)) (ji (.cells [.ptr (OLD+p) to,d.un θ] 58 false false) (.cells (fQ θ S) 56 g false)) (za (B.un θ) (SV.un θ) (.sl 0 0 w cp) (.ptr 3 0))
   (iK (.cells [.str t.rel,.sl 2 0 t.args.length u,zI t.rule,d.un θ] 65 false false) (.cells [.ptr (OLD+p) to,d.un θ] 58 false false) (.cells (fQ θ S) 56 g false) (.cells (fD t.args) 94 ag false)):=by
   rcases I with⟨rfl,rfl⟩|⟨q,rfl,hq,U⟩
   .exact aeb W Y old (X old) (Z old) (B.un θ) (SV.un θ) (fQ θ S) g cp w hw hi r p to ka t.kids.length kc lK t.rel (some (b,o)) t.args.length ac t.rule lF lR z (fD t.args) ag u (by rw[← hj];exact ah _) (C rfl rfl rfl (by kernel_rfl)) (aA (by omega)) (aD (by rw[← hj];simp))
   .exact ad9 W Y old (X old) (Z old) (B.un θ) (SV.un θ) (fQ θ S) g cp w hw hi r p to ka t.kids.length kc lK t.rel (some (b,o)) t.args.length ac t.rule lF lR z (θ.inv q) ids.length none (fD t.args) ag u (by rw[← hj];exact ah _) (C rfl rfl rfl (by kernel_rfl)) (aA (by omega)) (aD (by rw[← hj];simp))
  refine dA.lift (θ:=θ) (N':=N+2) (l:=[(s,.cells S 56 g false),(x,.cells [.ptr (OLD+p) to,d] 58 false false),(N,.cells (fD t.args) 94 ag false),(N+1,.cells [.str t.rel,.sl N 0 t.args.length u,zI t.rule,d] 65 false false)])
   ⟨λe n=>(v e n).1,λe n=>(v e n).2,λe n hlv=>?_,λi h1 G=>?_,by omega,rfl,hO,rfl,rfl⟩ D ⟨rfl,rfl,rfl⟩ ⟨rfl,rfl,rfl⟩ ?_ rfl ?_
  .simp only[ay,aB,bn]at n
   rcases n with rfl|rfl|rfl|rfl
   .exact⟨0,_,rfl,t0,iT _ _ _ _ _⟩
   .exact⟨1,_,rfl,t1,eO⟩
   .exact⟨2,_,rfl,t2,jL θ (kU (gY t.args)) _ _ _⟩
   .refine⟨3,_,rfl,t3,?_⟩
    rw[eL];show AO.cells [.str t.rel,.sl (θ.to 2) 0 t.args.length u,zI t.rule,d] 65 false false=_;rw[t2]
  .have h1:2<=i:=h1
   have G:i<4:=G;rcases(by omega:i=2∨i=3)with rfl|rfl
   .rw[t2];omega
   .rw[t3];omega
  .rw[Gg,AV.jo,AV.jo]
   show _=IJ B SV (.sl (θ.to 0) 0 (w+1) cp);rw[t0]
  .have e:(za (B.un θ) (SV.un θ) (.sl 0 0 w cp) (.ptr 3 0)).ren θ.to=za B SV (.sl s 0 w cp) (.ptr (N+1) 0):=by
    rw[NQ,AV.jo,AV.jo];show za B SV (.sl (θ.to 0) 0 w cp) (.ptr (θ.to 3) 0)=_;rw[t0,t3]
   rw[e];have L:∀k,k<N->dH m [(s,.cells S 56 g false),(x,.cells [.ptr (OLD+p) to,d] 58 false false),(N,.cells (fD t.args) 94 ag false),(N+1,.cells [.str t.rel,.sl N 0 t.args.length u,zI t.rule,d] 65 false false)] k=m k:=λk L=>by
    simp only[dH];by_cases k1:k=s
    .rw[aH k1,k1,hs]
    .by_cases K:k=x
     .rw[au k1,aH K,K,hx]
     .rw[au k1,au K,au (by omega),au (by omega)]
   refine dA.BD (id:=N) (i:=N+1) (j:=1) (by simp only[dH];rw[au (by omega),au (by omega),aH trivial]) (gY t.args) (by simp only[dH];rw[au (by omega),au (by omega),au (by omega),aH trivial]) (by omega) rfl ?_;intro f b' c' A _ J;refine kids f (N+1) (.aO (some (b',0)) t.args.length c') _ A (by omega) (by omega) (oJ J) ?_ (λk h1=>?_)
   .simp only[dH];rw[aH trivial];rfl
   .have:=L k h1
    simp only[dH]at this ⊢;rw[au (by omega),au (by omega)];exact this
 .have F:t.args=[]:=bB.1 F
  have D:DS old (IJ (B.un θ) (SV.un θ) (.sl 0 0 (w+1) cp)) (ji (.cells [.ptr (OLD+p) to,d.un θ] 58 false false) (.cells (fQ θ S) 56 g false)) (za (B.un θ) (SV.un θ) (.sl 0 0 w cp) (.ptr 2 0))
   (bG (.cells [.ptr (OLD+p) to,d.un θ] 58 false false) (.cells (fQ θ S) 56 g false) (.cells [.str t.rel,.aM,zI t.rule,d.un θ] 65 false false)):=by
   rcases I with⟨rfl,rfl⟩|⟨q,rfl,hq,U⟩
   .exact aea W Y old (X old) (Z old) (B.un θ) (SV.un θ) (fQ θ S) g cp w hw hi r p to ka t.kids.length kc lK t.rel none 0 0 t.rule lF lR z (by rw[← hj];exact ah _) (ZK W Y X Z old t.rel rfl rfl) (aA (by omega)) (aD (by rw[← hj];simp))
   .exact ad8 W Y old (X old) (Z old) (B.un θ) (SV.un θ) (fQ θ S) g cp w hw hi r p to ka t.kids.length kc lK t.rel none 0 0 t.rule lF lR z (θ.inv q) ids.length none (by rw[← hj];exact ah _) (ZK W Y X Z old t.rel rfl rfl) (aA (by omega)) (aD (by rw[← hj];simp))
  refine dA.lift (θ:=θ) (N':=N+2) (l:=[(s,.cells S 56 g false),(x,.cells [.ptr (OLD+p) to,d] 58 false false),(N,.cells [.str t.rel,.aM,zI t.rule,d] 65 false false)])
   ⟨λe n=>(v e n).1,λe n=>?_,λe n hlv=>?_,λi h1 G=>?_,by omega,rfl,hO,rfl,rfl⟩ D ⟨rfl,rfl,rfl⟩ ⟨rfl,rfl,rfl⟩ ?_ rfl ?_
  .have n:e∈[(0,AO.cells (fQ θ S) 56 g false),(1,.cells [.ptr (OLD+p) to,d.un θ] 58 false false)]:=n
   simp only[ay,aB,bn]at n;rcases n with rfl|rfl
   .rw[t0];simp
   .rw[t1];simp
  .simp only[ay,aB,bn]at n
   rcases n with rfl|rfl|rfl
   .exact⟨0,_,rfl,t0,iT _ _ _ _ _⟩
   .exact⟨1,_,rfl,t1,eO⟩
   .exact⟨2,_,rfl,t2,eL .aM⟩
  .have h1:2<=i:=h1
   have G:i<3:=G;obtain rfl:i=2:=by omega
   rw[t2];omega
  .rw[Gg,AV.jo,AV.jo]
   show _=IJ B SV (.sl (θ.to 0) 0 (w+1) cp);rw[t0]
  .have e:(za (B.un θ) (SV.un θ) (.sl 0 0 w cp) (.ptr 2 0)).ren θ.to=za B SV (.sl s 0 w cp) (.ptr N 0):=by
    rw[NQ,AV.jo,AV.jo];show za B SV (.sl (θ.to 0) 0 w cp) (.ptr (θ.to 2) 0)=_;rw[t0,t2]
   rw[e];refine dA.nil (id:=N) (j:=1) (by simp only[dH];rw[au (by omega),au (by omega),aH trivial]) rfl ?_;refine kids old N (.aO none 0 0) _ (Old.le_refl _) (ah _) (by omega) (.inr ⟨rfl,by rw[F];rfl,by rw[F];rfl⟩) ?_ (λk h1=>?_)
   .simp only[dH];rw[aH trivial];rfl
   .simp only[dH]
    rw[au (by omega)];by_cases k1:k=s
    .rw[aH k1,k1,hs]
    .by_cases K:k=x
     .rw[au k1,aH K,K,hx]
     .rw[au k1,au K,au (by omega)]
end
end
section
variable{H:AH}{N n:Nat}{Q:Old->AV->Prop}{R:rP}{m:Mm}{v vP:AV}{θ:Pm}
noncomputable def smT:Tr AO:=(zN (zN (zL kR) mh (zL yL)) mh (zN (zL kR) yK (zL yJ)))
noncomputable def smP:AV:=uT
noncomputable def smB:AO:=ug
noncomputable def sm8:AH:=qx
noncomputable def vT:List AI:=aaB
noncomputable def vI:List AI:=aaC
noncomputable def vA(t4 a:AV):AF:=⟨⟨10,false,none,99⟩,zO (zN (zO (zL a) .e) .aM .e) (zN (zN (zL (zI 0)) t4 .e) .kH .e),vI,[],false⟩
noncomputable def vL(t4 t15 a b:AV)(c:Nat)(i:Int):AF:=⟨⟨10,false,none,99⟩,zO (zO (zO (zO (zL t15) .e) (zO .e (zO (zO (zL (zI i)) .e) .e))) (zO (zO .e (zO (zO (zL b) .e) .e)) .e)) (zN (zN (zL (zI 0)) t4 .e) .kH (zO (zO (zL a) (zO (zO (zL (zI (↑c:Int))) .e) .e)) .e)),vT,[],false⟩
theorem Vb(ρ:Nat->Nat)(a b:AV):(vA a b).ren ρ=vA (a.ren ρ) (b.ren ρ):=rfl
theorem DF(ρ:Nat->Nat)(a b c d:AV)(e:Nat)(i:Int):(vL a b c d e i).ren ρ=vL (a.ren ρ) (b.ren ρ) (c.ren ρ) (d.ren ρ) e i:=rfl
def afB(m:Mm)(pr:List Nat)(N x:Nat)(a:AV):Prop:=(x=0∧a= .aM)∨∃q vs,0<x∧a= .sl q 0 x none∧m q= .cells vs 25 true false∧vs.length=x*2∧AV.dX 0 vs=true∧q<N∧q ∉ pr
theorem ady{p:AV}(hp:p.low n=true)(a:v.low 0=true):AV.dX n [p,.aM,.kH,v]=true:=by
 show(AV.low n p&&(true&&(true&&(AV.low n v&&true))))=true;rw[hp,AV.Ng a];rfl
theorem GV{α a:Type}{f g:α->a}:∀{l:List α},l.map f=l.map g->∀{x:α},x∈l->f x=g x
 |[],_,_,h=>by cases h
 |y::l,e,x,h=>by
  rw[lW,lW]at e;obtain⟨e1,e2⟩:=List.cons.inj e;rcases ay.1 h with rfl|h
  .exact e1
  .exact GV e2 h
def TJ:List (Nat×Nat)->Pm
 |[]=>Pm.one
 |(i,s)::l=>if h:i<OLD∧s<OLD then(TJ l).sw ((TJ l).to i) s ((TJ l).lt h.1) h.2 else TJ l
section
variable(W:Fe)(Y:Ge)(X:∀old,Fw old)(Z:∀old,Gw old)
include W Y X Z
theorem Z9{old:Old}{t15:AV}{f g b t:Nat}{ts:List T}{ks:List AV}(hC:iI old f g (b*4)=some ks)(J:ny old ks ts)(K:ts.length=b)(hk:b<=134217728)(L:t15.low 0=true){pb:Nat}{pr:List Nat}(G:pb∈pr):∀(r x:Nat),x+r=b->∀(N:Nat) (m:Mm) (v:AV) (R:rP),N+4*r<=OLD->(∀z∈pr,z<N)->afB m pr N x v->
 (∀w N' C,afB w pr N' b C->(∀z∈pr,w z=m z)->N<=N'->N'<=N+4*r->dA prog E old (vL (.ptr pb 0) t15 C (.aO (some (f,g)) b t) b (↑b:Int)) w N' R)->
 dA prog E old (vL (.ptr pb 0) t15 v (.aO (some (f,g)) b t) b (↑x:Int)) m N R
 |0,x,hx,N,m,v,R,hO,j,U,B=>by
  obtain rfl:x=b:=by omega
  exact B m N v U (λ_ _=>rfl) (ah _) (by omega)
 |r+1,x,hx,N,m,v,R,hO,j,U,B=>by
  have lj:x<b:=by omega
  obtain⟨u,hu⟩:∃u,ts[x]? =some u:=⟨_,aK (by omega)⟩;obtain⟨cu,V,M⟩:=J.at (by rw[K];exact hC) hu;obtain⟨a,S,y,ks1,rfl,f1,f2,f3⟩:=M.one;obtain⟨o,p,s,rfl⟩:=f1.shape;have hV:∀h:AH,loadT (E.wo old) h 28 (OLD+f) (g+x*4)=some (.agg [.str u.rel,.aO o p s,zI u.rule,.aO S u.kids.length y]):=λh=>rH (E:=E.wo old) (by kernel_rfl) (by kernel_rfl) V h;have hw:IntKind.i64.wrap ((↑x:Int)+1)=(↑(x+1):Int):=by rw[dW (by omega) (by omega)];omega
  have hd:decide ((↑x:Int)<(↑b:Int))=true:=aA (by omega);have d:∀θ:Pm,t15.ren θ.to=t15:=λθ=>AV.uF (λi hi=>θ.old i hi) L;have hpb':=j pb G;have fin:∀(w:Mm) (vs:List AV),w (N+2)= .cells vs 25 true false->vs.length=(x+1)*2->AV.dX 0 vs=true->(∀z∈pr,w z=m z)->dA prog E old (vL (.ptr pb 0) t15 (.sl (N+2) 0 (x+1) none) (.aO (some (f,g)) b t) b (↑(x+1):Int)) w (N+3) R:=λw vs h1 H h3 h4=>
   Z9 hC J K hk L G r (x+1) (by omega) (N+3) w _ R (by omega) (λz A=>by have:=j z A;omega) (.inr ⟨N+2,vs,by omega,rfl,h1,H,h3,by omega,λh=>by have:=j _ h;omega⟩) λm2 N2 t2 g1 g2 g3 g4=>B m2 N2 t2 g1 (λz A=>by rw[g2 z A,h4 z A]) (by omega) (by omega)
  rcases U with⟨rfl,rfl⟩|⟨q,vs,hx0,rfl,hq,O,F,hqN,P⟩
  .obtain⟨θ,I⟩:=Pm.mk' (l:=[pb]) (N:=N) (k:=3) [0,1,2,3] (by decide) rfl (by decide) (by simp) (by simp;omega) (by omega)
   obtain⟨t0,t1,t2,t3⟩:θ.to 0=pb∧θ.to 1=N∧θ.to 2=N+1∧θ.to 3=N+2:=by
    have h:[θ.to 0,θ.to 1,θ.to 2,θ.to 3]=[pb,N,N+1,N+2]:=I;simp only[dO,j6]at h;exact h
   have D:=vbn W Y old (X old) (Z old) t15 f g b t 0 lj u.rel o p s u.rule S u.kids.length y hV hd;rw[hw]at D;refine dA.lift (θ:=θ) (N':=N+3) (l:=[(N,.dead),(N+1,.dead),(N+2,.cells [.str u.rel,.aO o p s] 25 true false)]) ⟨λe c=>(by cases c),λe c=>(by cases c),λe c n=>?_,λi h1 H=>?_,by omega,rfl,by omega,rfl,rfl⟩ D ⟨by kernel_rfl,by kernel_rfl,by kernel_rfl⟩ ⟨by kernel_rfl,by kernel_rfl,by kernel_rfl⟩ (f':=vL (.ptr pb 0) t15 (.sl (N+2) 0 1 none) (.aO (some (f,g)) b t) b 1) ?_ ?_ (fin _ [.str u.rel,.aO o p s] ?_ rfl rfl λz A=>?_)
   .simp only[ay,aB,bn]at c
    rcases c with rfl|rfl|rfl
    .exact n.elim
    .exact n.elim
    .exact⟨3,_,rfl,t3,rfl⟩
   .have h1:1<=i:=h1
    have H:i<4:=H;rcases(by omega:i=1∨i=2∨i=3)with rfl|rfl|rfl
    .rw[t1];omega
    .rw[t2];omega
    .rw[t3];omega
   .show _=(vL (.ptr 0 0) t15 .aM (.aO (some (f,g)) b t) b 0).ren θ.to
    rw[DF,d θ];show _=vL (.ptr (θ.to 0) 0) _ _ _ _ _;rw[t0];rfl
   .show(vL (.ptr 0 0) t15 (.sl 3 0 1 none) (.aO (some (f,g)) b t) b 1).ren θ.to=_
    rw[DF,d θ];show vL (.ptr (θ.to 0) 0) _ (.sl (θ.to 3) 0 1 none) _ _ _=_;rw[t0,t3];rfl
   .simp only[dH];rw[au (by omega),au (by omega),aH trivial]
   .have:=j z A
    simp only[dH];rw[au (by omega),au (by omega),au (by omega)]
  .have hqp':q≠pb:=λh=>P (h▸G)
   obtain⟨θ,I⟩:=Pm.mk' (l:=[pb,q]) (N:=N) (k:=3) [0,1,2,3,4] (by decide) rfl (by decide) (by simp;omega) (by simp;omega) (by omega);obtain⟨t0,t1,t2,t3,t4⟩:θ.to 0=pb∧θ.to 1=q∧θ.to 2=N∧θ.to 3=N+1∧θ.to 4=N+2:=by
    have h:[θ.to 0,θ.to 1,θ.to 2,θ.to 3,θ.to 4]=[pb,q,N,N+1,N+2]:=I;simp only[dO,j6]at h;exact h
   have hA:=BN (E:=E.wo old) (ts:=33) (tx:=33) (e:=25) (sz:=2) (h:=⟨zO (zN (zL (.cells [.str u.rel,.aO o p s] 25 false false)) (aV vs) .e) (zL (.cells [.str u.rel,.aO o p s,zI u.rule,.aO S u.kids.length y] 28 false false)),4,0⟩) (by kernel_rfl) (id:=1) (len:=x) (id2:=3) (off2:=0) (cc:=some 1) (vs:=vs) (cs:=[.str u.rel,.aO o p s]) rfl (by omega) (by omega) rfl rfl rfl;have D:=vbs W Y old (X old) (Z old) t15 f g b t x lj u.rel o p s u.rule S u.kids.length y hV vs 4 none _ hA hd;rw[hw]at D;have Q:AV.dX 0 (vs++[.str u.rel,.aO o p s])=true:=qJ F rfl;have etk:vs.take (x*2)=vs:=jk (by omega);refine dA.lift (θ:=θ) (N':=N+3) (l:=[(q,.dead),(N,.dead),(N+1,.dead),(N+2,.cells (vs++[.str u.rel,.aO o p s]) 25 true false)]) ⟨λe c=>?_,λe c=>?_,λe c n=>?_,λi h1 H=>?_,by omega,rfl,by omega,rfl,rfl⟩ D ⟨by kernel_rfl,by kernel_rfl,by kernel_rfl⟩ ⟨by kernel_rfl,by kernel_rfl,by kernel_rfl⟩ (f':=vL (.ptr pb 0) t15 (.sl (N+2) 0 (x+1) none) (.aO (some (f,g)) b t) b (↑(x+1):Int)) ?_ ?_ (fin _ (vs++[.str u.rel,.aO o p s]) ?_ (by rw[fF,O];show x*2+2=_;omega) Q λz A=>?_)
   .have c:e∈[(1,AO.cells vs 25 true false)]:=c
    rcases bR.1 c with rfl;rw[t1,hq,jL θ F]
   .have c:e∈[(1,AO.cells vs 25 true false)]:=c
    rcases bR.1 c with rfl;rw[t1];simp
   .simp only[ay,aB,bn]at c
    rcases c with rfl|rfl|rfl|rfl
    .exact n.elim
    .exact n.elim
    .exact n.elim
    .refine⟨4,.cells (vs.take (x*2)++[.str u.rel,.aO o p s]) 25 true false,rfl,t4,?_⟩
     rw[etk,jL θ Q]
   .have h1:2<=i:=h1
    have H:i<5:=H;rcases(by omega:i=2∨i=3∨i=4)with rfl|rfl|rfl
    .rw[t2];omega
    .rw[t3];omega
    .rw[t4];omega
   .show _=(vL (.ptr 0 0) t15 (.sl 1 0 x none) (.aO (some (f,g)) b t) b (↑x:Int)).ren θ.to
    rw[DF,d θ];show _=vL (.ptr (θ.to 0) 0) _ (.sl (θ.to 1) 0 x none) _ _ _;rw[t0,t1];rfl
   .show(vL (.ptr 0 0) t15 (.sl 4 0 (x+1) none) (.aO (some (f,g)) b t) b (↑(x+1):Int)).ren θ.to=_
    rw[DF,d θ];show vL (.ptr (θ.to 0) 0) _ (.sl (θ.to 4) 0 (x+1) none) _ _ _=_;rw[t0,t4];rfl
   .simp only[dH];rw[au (by omega),au (by omega),au (by omega),aH trivial]
   .have:=j z A
    simp only[dH];rw[au (show ¬z=q from λh=>P (h▸A)),au (by omega),au (by omega),au (by omega)]
theorem Va(old:Old)(r:θ.to 7=N)(A:θ.to 8=N+1)(U:N+2<=OLD){t:T}(K:wI old v t)(L:∀old' b,tq old' (.ptr (OLD+b) 0) t->dU prog E old' 18 [.ptr (OLD+b) 0] Q)(M:∀o w,Q o w->w.low 0=true)
 (B:∀f old' b w C,Old.le old old'->tq old' (.ptr (OLD+b) 0) t->Q old' w->(∀k,k≠N->k≠N+1->C k=m k)->C N=smB.ren θ.to->dA prog E old' ((gX prog (E.wo f) [.n 1] (vA (.ptr 7 0) (.ptr (OLD+b) 0)) ⟨.e,8,0⟩ w).ren θ.to) C (N+2) R):
 CallM prog E old 10 [smP.ren θ.to,.aM,.kH,v] m N R:=by
 obtain⟨cs,rfl,h⟩:=K;obtain⟨a,s,u,ks,rfl,O,V,f3⟩:=h.one;obtain⟨x,y,z,rfl⟩:=O.shape;refine CallM.of (Z old) (by kernel_rfl) ?_;have c:∀b,θ.to (OLD+b)=OLD+b:=λb=>θ.old _ (dZ _ _);have D:=va1 W Y old (X old) (Z old) t.rel (.aO x y z) t.rule s t.kids.length u;refine dA.lift (θ:=θ) (N':=N+2) (l:=[(N,smB.ren θ.to),(N+1,.cells [.str t.rel,.aO x y z,zI t.rule,.aO s t.kids.length u] 28 false false)]) ⟨λe d=>(by cases d),λe d=>(by cases d),λe d P=>?_,λi h1 G=>?_,by omega,rfl,by omega,rfl,rfl⟩ D ⟨by kernel_rfl,by kernel_rfl,by kernel_rfl⟩ ⟨by kernel_rfl,by kernel_rfl,by kernel_rfl⟩ (f':=vA (.ptr N 0) (.ptr (N+1) 0)) (by kernel_rfl) ?_ ?_
 .simp only[ay,aB,bn]at d
  rcases d with rfl|rfl
  .exact⟨7,_,rfl,r,rfl⟩
  .exact⟨8,_,rfl,A,rfl⟩
 .have h1:7<=i:=h1
  have G:i<9:=G;rcases(by omega:i=7∨i=8)with rfl|rfl
  .rw[r];omega
  .rw[A];omega
 .show(vA (.ptr 7 0) (.ptr 8 0)).ren θ.to=_
  rw[Vb];show vA (.ptr (θ.to 7) 0) (.ptr (θ.to 8) 0)=_;rw[r,A]
 .refine dA.Zk (k:=7) (id:=N+1) (off:=0) (vs:=[.str t.rel,.aO x y z,zI t.rule,.aO s t.kids.length u]) (by simp only[dH];rw[au (by omega),aH trivial]) (nU h.adz) rfl ?_
  intro old' b g F;have hp:tq old' (.ptr (OLD+b) 0) t:=⟨b,0,_,rfl,know F,h.mono g⟩;show dA prog E old' (vA (.ptr N 0) (.ptr (OLD+b) 0)) _ _ _;refine dA.PE (θ:=θ) (h:=⟨.e,8,0⟩) (R1:=λo w H I=>Q o w∧H=dH (dH m [(N,smB.ren θ.to),(N+1,.cells [.str t.rel,.aO x y z,zI t.rule,.aO s t.kids.length u] 28 false false)]) [(N+1,.dead)]∧I=N+2) (X old') (Z old') (va2 W Y old' (X old') (Z old') b) (λe d=>(by cases d)) (by omega) rfl rfl ⟨by kernel_rfl,by kernel_rfl,by kernel_rfl⟩ (λv=>⟨rfl,rfl,rfl⟩) ?_ ?_ ?_
  .show _=(vA (.ptr 7 0) (.ptr (OLD+b) 0)).ren θ.to
   rw[Vb];show _=vA (.ptr (θ.to 7) 0) (.ptr (θ.to (OLD+b)) 0);rw[r,c]
  .show CallM prog E old' 18 [.ptr (θ.to (OLD+b)) 0] _ _ _
   rw[c];exact CallM.Rt (L old' b hp) (lC b) λo w _ q=>⟨q,rfl,rfl⟩
  .rintro j w H I p ⟨q,rfl,rfl⟩
   have S:w.un θ=w:=AV.uF (λi hi=>θ.old' hi) (M _ _ q);rw[S];refine B old' j b w _ (Old.le_trans g p) (hp.mono p) q (λk k1 J=>?_) ?_
   .simp only[dH];rw[au J,au k1,au J]
   .simp only[dH];rw[au (by omega),aH trivial]
theorem agL(old:Old)(d:θ.to 7=N)(f:θ.to 8=N+1)(g:N+2<=OLD){t:T}(i:wI old v t)(j:65536<=t.kids.length)(hs2:t.kids.length<=268435456):
 CallM prog E old 10 [smP.ren θ.to,.aM,.kH,v] m N (λ_ w c _=>w=zI 2∧∀k,k<N->c k=m k):=by
 refine Va W Y X Z old d f g i (Q:=λ_ w=>w= .bV [.aM,.bool false]) (λo b hp=>Xp W Y X Z o hp j hs2) (λo w h=>by rw[h];rfl) ?_
 rintro a old' b w c l hp rfl h1 h2
 exact dA.Jw (θ:=θ) (va3 W Y old' (X old') (Z old') a b) (λe n=>(by cases n)) (by omega) rfl rfl ⟨by kernel_rfl,by kernel_rfl,by kernel_rfl⟩ rfl ⟨rfl,λk p=>h1 _ (by omega) (by omega)⟩
omit W Y X Z in
theorem Vq{e:Nat×AO}(a:e∈ents sm8.tr):e=(7,smB)∨((e.1,e.2)∈ents smT∧e.1<7):=by
 have h:=NY a;have hp:=gW (f:=λi=>Nat.blt i 8) (t:=sm8.tr) (by kernel_rfl) h;have hi:e.1<8:=aF hp;obtain⟨i,o⟩:=e;simp only at h hi ⊢;have b:i<7->sm8.tr.get i=smT.get i:=λhi=>by
  rcases(by omega:i=0∨i=1∨i=2∨i=3∨i=4∨i=5∨i=6)with rfl|rfl|rfl|rfl|rfl|rfl|rfl<;>kernel_rfl
 by_cases c:i=7
 .subst c
  have:sm8.tr.get 7=some smB:=by kernel_rfl
  rw[this]at h;cases h;exact .inl rfl
 .exact .inr ⟨CV (by rw[← b (by omega)];exact h),by omega⟩
theorem agK(old:Old)(hS:∀e∈ents smT,m (θ.to e.1)=e.2.ren θ.to)(P:∀i,i<7->θ.to i<N)(u:θ.to 7=N)(h8:θ.to 8=N+1)(hn:0<n)(hn2:n<=65535)(hO:N+2+4*n<=OLD)(hv:wI old v (dB n)):
 CallM prog E old 10 [smP.ren θ.to,.aM,.kH,v] m N (λ_ w m' _=>w=zI 152∧∀k,k<N->m' k=m k):=by
 have R:=qo n;refine Va W Y X Z old u h8 (by omega) hv (Q:=Z4 (Db (dB n).size [dB n])) (λo b hp=>c18 W Y X Z o hp (by omega)) (λo w h=>by obtain⟨b,c,ps,rfl,_⟩:=h;rfl) ?_
 rintro C old' b w F hle hp ⟨q,c,ps,rfl,hC,hP⟩ k1 k2
 have t:(Db (dB n).size [dB n])[0]? =some (dB n):=by rw[R];rfl
 obtain⟨p,S,g⟩:=hP.get t;have G:=g;obtain⟨f,l,ct,rfl,_,_⟩:=G;obtain⟨a,ka,x,ks,r1,r2,r3,lF,lR,lK⟩:=g.reads;have r:(dB n).kids.length=n:=by rw[qp,bH,gN]
 rcases r3 with⟨h0,_⟩|⟨y,A,rfl,H⟩
 .rw[h0]at r;have:0=n:=r;omega
 rw[r]at H lK;have T:0<(Db (dB n).size [dB n]).length:=by
  cases hx:Db (dB n).size [dB n]with
  |nil=>rw[hx]at t;cases t
  |cons _ _=>exact Nat.succ_pos _
 have s:∀b,θ.to (OLD+b)=OLD+b:=λb=>θ.old _ (dZ _ _);have hlt:∀i,i<8->θ.to i<N+2:=λi hi=>by
  by_cases h:i=7
  .rw[h,u];omega
  .have:=P i (by omega);omega
 have hb:∀{B:Mm},(∀i,i<8->B (θ.to i)=F (θ.to i))->∀e∈ents sm8.tr,B (θ.to e.1)=e.2.ren θ.to:=λ{B} h2 e U=>by
  rcases Vq U with rfl|⟨U,hi⟩
  .rw[h2 7 (by omega)]
   show F (θ.to 7)=_;rw[u];exact k2
  .rw[h2 e.1 (by omega)]
   have:=P e.1 hi;rw[k1 _ (by omega) (by omega)];exact hS e U
 have D:=va4 W Y old' (X old') (Z old') C b q (Db (dB n).size [dB n]).length c f l T (λh=>gB (by kernel_rfl) (iY (j:=0) hC S)) (ZJ W Y old' (X old') (Z old') g) y A n x lK (aA (by omega));refine dA.abA (θ:=θ) (f':=vL (.ptr N 0) (.ptr (OLD+f) l) .aM (.aO (some (y,A)) n x) n (↑(0:Nat):Int)) D (hb λ_ _=>rfl) (by omega) rfl rfl ⟨by kernel_rfl,by kernel_rfl,by kernel_rfl⟩ ⟨by kernel_rfl,by kernel_rfl,by kernel_rfl⟩ rfl ?_ ?_
 .show(vL (.ptr 7 0) (.ptr (OLD+f) l) .aM (.aO (some (y,A)) n x) n (↑(0:Nat):Int)).ren θ.to=_
  rw[DF];show vL (.ptr (θ.to 7) 0) (.ptr (θ.to (OLD+f)) l) .aM _ _ _=_;rw[u,s];rfl
 refine Z9 W Y X Z H r2 r (by omega) (t15:= .ptr (OLD+f) l) (oI f) (pb:=N) (pr:=List.range (N+1)) (cZ.2 (by omega)) n 0 (by omega) (N+2) F .aM _ (by omega) (λz hz=>?_) (.inl ⟨rfl,rfl⟩) ?_
 .have:=cZ.1 hz
  omega
 intro B N2 t18 V hm2 hN1 hN2;rcases V with⟨h0,_⟩|⟨O,vs,_,rfl,hq,hlen,I,hqN,hqp⟩
 .omega
 have hpr:∀i,i<8->θ.to i∈List.range (N+1):=λi hi=>cZ.2 (by
  by_cases h:i=7
  .rw[h,u];omega
  .have:=P i (by omega);omega)
 refine dA.af5 (k:=18) (id:=O) (off:=0) (n:=n) (cap:=none) hq (nU I) rfl ?_;intro d fb fc hl2 hfc hkn;obtain⟨a2,ka2,kc2,ks2,s1,s2,s3,lF2,lR2,lK2⟩:=(g.mono hl2).reads;have s1':∃J K ac,a2= .aO (some (J,K)) 1 ac∧iI d J K (1*3)=some (fD [su 1]):=by
  rcases s1 with h|⟨_,h0,_⟩
  .exact h
  .exact aP h0 (by show ¬1=0;omega)
 obtain⟨J,K,ac,rfl,hcv⟩:=s1';have L:∀h:AH,loadT (E.wo d) h 94 (OLD+J) K=some U0:=λh=>rH (E:=E.wo d) (by kernel_rfl) (by kernel_rfl) hcv h;have M:∀k,k<N+1->dH B [(O,.dead)] k=F k:=λk hk=>by
  have hne:k≠O:=λe=>hqp (e▸cZ.2 hk);simp only[dH];rw[au hne];exact hm2 _ (cZ.2 hk)
 have hm3:∀i,i<8->dH B [(O,.dead)] (θ.to i)=F (θ.to i):=λi hi=>M _ (cZ.1 (hpr i hi));have D2:=vbd W Y d (X d) (Z d) f l y A n x fb fc J K ac lF2 lR2 L (aD (by omega));refine dA.Jw (θ:=θ) D2 (hb hm3) (by omega) rfl rfl ⟨by kernel_rfl,by kernel_rfl,by kernel_rfl⟩ ?_ ⟨rfl,λk hk=>by rw[M k (by omega),k1 _ (by omega) (by omega)]⟩
 .show vL (.ptr N 0) (.ptr (OLD+f) l) (.aO (some (fb,0)) n fc) (.aO (some (y,A)) n x) n (↑n:Int)=(vL (.ptr 7 0) (.ptr (OLD+f) l) (.aO (some (fb,0)) n fc) (.aO (some (y,A)) n x) n (↑n:Int)).ren θ.to
  rw[DF];show _=vL (.ptr (θ.to 7) 0) (.ptr (θ.to (OLD+f)) l) _ _ _ _;rw[u,s];rfl
theorem agD(old:Old)(b:smP.ren θ.to=vP)(c:θ.to 7=H.nx)(d:θ.to 8=H.nx+1)(hp:posB (λi=>Nat.blt i H.nx) H.tr=true)(f:fH H.nx H.tr=true)(g:(ents H.tr).all (λe=>isCells e.2)=true)(a:H.df=0)(top:Nat.ble (H.nx+2) OLD=true)(j:vP.low H.nx=true){t:T}(k:wI old v t)(l:v.low 0=true)(n:65536<=t.kids.length)(hs2:t.kids.length<=268435456):DC old 10 [vP,.aM,.kH,v] H (zI 2) H:=by
 have p:=aF top;have C:=agL W Y X Z old (θ:=θ) (m:=Hl H) (N:=H.nx) c d p k n hs2;rw[b]at C;exact DoesC.ofM hp f g a (aW (by omega)) (ady j l) rfl (C.mono λo w r N' _ h=>⟨h.1,λi q e=>(h.2 i (aF (gW hp e))).trans (Af e)⟩)
theorem agC(old:Old)(d:smP.ren θ.to=vP)(f:θ.to 7=H.nx)(g:θ.to 8=H.nx+1)(j:(List.range 7).all (λi=>Nat.blt (θ.to i) H.nx)=true)(k:(ents smT).map (λe=>H.tr.get (θ.to e.1))=(ents smT).map (λe=>some (e.2.ren θ.to)))(hp:posB (λi=>Nat.blt i H.nx) H.tr=true)(l:fH H.nx H.tr=true)(p:(ents H.tr).all (λe=>isCells e.2)=true)(a:H.df=0)(top:Nat.ble (H.nx+300000) OLD=true)(r:vP.low H.nx=true)(s:wI old v (dB n))(t:v.low 0=true)(u:0<n)(b:n<=65535):DC old 10 [vP,.aM,.kH,v] H (zI 152) H:=by
 have y:=aF top;have c:∀e∈ents smT,Hl H (θ.to e.1)=e.2.ren θ.to:=λe x=>Af (GV k x);have C:=agK W Y X Z old (θ:=θ) (m:=Hl H) (N:=H.nx) (n:=n) c (λi hi=>aF (d9.1 j i (cZ.2 hi))) f g u b (by omega) s;rw[d]at C;exact DoesC.ofM hp l p a (aW (by omega)) (ady r t) rfl (C.mono λo w z N' _ h=>⟨h.1,λi q e=>(h.2 i (aF (gW hp e))).trans (Af e)⟩)
end
end
section
variable(Y:Fe)(Z:Ge)
include Y Z
theorem ha1(old:Old)(F:Fw old)(FF:Gw old):AtCall prog (E.wo old) [.n 2] ((XJ:AF)) (⟨.e,5030,0⟩) 5 [zI 65535] ⟨.e,5030,0⟩:=
 ⟨[],by kernel_rfl,trivial⟩
end
section
variable(Y:Fe)(Z:Ge)
include Y Z
theorem hs1(old:Old)(F:Fw old)(FF:Gw old)(a:Old)(b c:Option (Nat×Nat))(d f g h:Nat):DS old (gX prog (E.wo a) [.n 2] XJ ⟨.e,5030,0⟩ (o7 b d f c g h)) ⟨.e,5030,0⟩ XI (Ol (dh b d f c g h)):=
 jK F FF [0,1,2] (Qn 4) (by kernel_rfl)
end
section
variable(Y:Fe)(Z:Ge)
include Y Z
theorem ha2(old:Old)(F:Fw old)(FF:Gw old)(a b:Option (Nat×Nat))(c d e f:Nat):AtCall prog (E.wo old) [.n 1] ((XI:AF)) ((Ol (dh a c d b e f))) 5 [zI 65536] (Ol (dh a c d b e f)):=
 ⟨[],by kernel_rfl,trivial⟩
end
section
variable(Y:Fe)(Z:Ge)
include Y Z
theorem hs2(old:Old)(F:Fw old)(FF:Gw old)(a:Old)(b c:Option (Nat×Nat))(d e f g:Nat)(pb h:Option (Nat×Nat))(i j ln lc:Nat):DS old (gX prog (E.wo a) [.n 1] XI (Ol (dh b d e c f g)) (o7 pb i j h ln lc)) (Ol (dh b d e c f g)) XH (mG pb i j h ln lc b d e c f g):=
 jK F FF [0,1,2,3] (Qn 4) (by kernel_rfl)
end
section
variable(Y:Fe)(Z:Ge)
include Y Z
theorem ha3(old:Old)(F:Fw old)(FF:Gw old)(a b:Option (Nat×Nat))(c d e f:Nat)(pb g:Option (Nat×Nat))(h i ln lc:Nat):AtCall prog (E.wo old) [.n 2] ((XH:AF)) ((mG pb h i g ln lc a c d b e f)) 6 [o7 a c d b e f] (mG pb h i g ln lc a c d b e f):=
 ⟨[],by kernel_rfl,trivial⟩
end
section
variable(Y:Fe)(Z:Ge)
include Y Z
theorem hs3(old:Old)(F:Fw old)(FF:Gw old)(a:Old)(b c:Option (Nat×Nat))(d e f g:Nat)(pb h:Option (Nat×Nat))(i j ln lc:Nat)(k ld:Nat):DS old (gX prog (E.wo a) [.n 2] XH (mG pb i j h ln lc b d e c f g) (.aO (some (k,0)) 4 ld)) (mG pb i j h ln lc b d e c f g) (XG (.aO (some (k,0)) 4 ld)) (mG pb i j h ln lc b d e c f g):=
 jK F FF [0,1,2,3,4] (Qn 3) (by kernel_rfl)
end
section
variable(Y:Fe)(Z:Ge)
include Y Z
theorem ha4(old:Old)(F:Fw old)(FF:Gw old)(a b:Option (Nat×Nat))(c d e f:Nat)(pb g:Option (Nat×Nat))(h i ln lc:Nat)(j ld:Nat)(l:DC old 7 [o7 a c d b e f] eH (zI 65536) eH)(m:DC old 8 [o7 a c d b e f] eH (zI 1) eH):AtCall prog (E.wo old) [.n 2,.k (zI 65536) (mG pb h i g ln lc a c d b e f),.n 3,.k (zI 1) (mG pb h i g ln lc a c d b e f),.n 4] (((XG (.aO (some (j,0)) 4 ld)):AF)) ((mG pb h i g ln lc a c d b e f)) 9 [o7 a c d b e f] (mG pb h i g ln lc a c d b e f):=
 ⟨[DC old 7 [o7 a c d b e f] (mG pb h i g ln lc a c d b e f) (zI 65536) (mG pb h i g ln lc a c d b e f),DC old 8 [o7 a c d b e f] (mG pb h i g ln lc a c d b e f) (zI 1) (mG pb h i g ln lc a c d b e f)],by kernel_rfl,⟨DoesC.ov l rfl rfl rfl (by kernel_rfl),DoesC.ov m rfl rfl rfl (by kernel_rfl)⟩⟩
end
section
variable(Y:Fe)(Z:Ge)
include Y Z
theorem hs4(old:Old)(F:Fw old)(FF:Gw old)(l:Old)(e f:Option (Nat×Nat))(g h i j:Nat)(pb a:Option (Nat×Nat))(b d ln lc:Nat)(q ld:Nat)(r:Option (Nat×Nat))(s:Nat)(u7:DC old 7 [o7 pb b d a ln lc] eH (zI 65537) eH)(u8:DC old 8 [o7 pb b d a ln lc] eH (zI 0) eH)(u9:DC old 9 [o7 pb b d a ln lc] eH (.aO none 0 0) eH)(u6:DC old 6 [o7 pb b d a ln lc] eH .aM eH)(m:DC old 10 [XZ,.aM,.kH,o7 pb b d a ln lc] (Di (dh pb b d a ln lc) (dh e g h f i j)) (zI 2) (Di (dh pb b d a ln lc) (dh e g h f i j)))(o:DC old 10 [XY,.aM,.kH,o7 e g h f i j] (Dh (dh pb b d a ln lc) (dh e g h f i j)) (zI 152) (Dh (dh pb b d a ln lc) (dh e g h f i j))):DS old (gX prog (E.wo l) [.n 2,.k (zI 65536) (mG pb b d a ln lc e g h f i j),.n 3,.k (zI 1) (mG pb b d a ln lc e g h f i j),.n 4] (XG (.aO (some (q,0)) 4 ld)) (mG pb b d a ln lc e g h f i j) (.aO r 3 s)) (mG pb b d a ln lc e g h f i j) (XF (.aO (some (q,0)) 4 ld)) (Dh (dh pb b d a ln lc) (dh e g h f i j)):=
 jK F FF [0,1,2,3,4,5,6,7,8] (Qk 13 (DoesC.ov u7 rfl rfl rfl (by kernel_rfl):DC old 7 [o7 pb b d a ln lc] (mG pb b d a ln lc e g h f i j) (zI 65537) (mG pb b d a ln lc e g h f i j)) (Qk 3 (DoesC.ov u8 rfl rfl rfl (by kernel_rfl):DC old 8 [o7 pb b d a ln lc] (mG pb b d a ln lc e g h f i j) (zI 0) (mG pb b d a ln lc e g h f i j)) (Qk 4 (DoesC.ov u9 rfl rfl rfl (by kernel_rfl):DC old 9 [o7 pb b d a ln lc] (mG pb b d a ln lc e g h f i j) (.aO none 0 0) (mG pb b d a ln lc e g h f i j)) (Qk 5 (DoesC.ov u6 rfl rfl rfl (by kernel_rfl):DC old 6 [o7 pb b d a ln lc] (mG pb b d a ln lc e g h f i j) .aM (mG pb b d a ln lc e g h f i j)) (Qd 6 [.k XZ (Di (dh pb b d a ln lc) (dh e g h f i j)),.c,.k (zI 2) (Di (dh pb b d a ln lc) (dh e g h f i j)),.c] (Qp (DoesC.of_run F FF (n:=3000) (p:=(XZ,(Di (dh pb b d a ln lc) (dh e g h f i j)))) (by kernel_rfl):DC old 11 [] (mG pb b d a ln lc e g h f i j) XZ (Di (dh pb b d a ln lc) (dh e g h f i j))) (Qp m (Qs (o7 pb b d a ln lc) (Qs (o7 pb b d a ln lc) (Qd 1 [.k XY (Dh (dh pb b d a ln lc) (dh e g h f i j)),.c,.k (zI 152) (Dh (dh pb b d a ln lc) (dh e g h f i j)),.c] (Qp (DoesC.of_run F FF (n:=3000) (p:=(XY,(Dh (dh pb b d a ln lc) (dh e g h f i j)))) (by kernel_rfl):DC old 11 [] (Di (dh pb b d a ln lc) (dh e g h f i j)) XY (Dh (dh pb b d a ln lc) (dh e g h f i j))) (Qp o (Qs (o7 e g h f i j) (Qs (o7 e g h f i j) (Qn 1))))))))))))))) (by kernel_rfl)
end
section
variable(Y:Fe)(Z:Ge)
include Y Z
theorem ha5(old:Old)(F:Fw old)(FF:Gw old)(a b:Option (Nat×Nat))(c d e f:Nat)(g ld:Nat):AtCall prog (E.wo old) [.n 2] (((XF (.aO (some (g,0)) 4 ld)):AF)) ((Oj (dh a c d b e f))) 12 [.aO (some (g,0)) 4 ld,zI 3,zI 65536] (Oj (dh a c d b e f)):=
 ⟨[],by kernel_rfl,trivial⟩
end
section
variable(Y:Fe)(Z:Ge)
include Y Z
theorem hs5(old:Old)(F:Fw old)(FF:Gw old)(a:Old)(b c:Option (Nat×Nat))(d f g h:Nat)(i ld:Nat)(j k:Option (Nat×Nat))(l m mn o:Nat)(p:DC old 12 [.aO (some (i,0)) 4 ld,zI 3,zI 65535] eH (.bV [wG,zI 151]) eH):DS old (gX prog (E.wo a) [.n 2] (XF (.aO (some (i,0)) 4 ld)) (Oj (dh b d f c g h)) (.bV [o7 j l m k mn o,zI 0])) (Oj (dh b d f c g h)) (XE (.aO (some (i,0)) 4 ld)) ⟨zO (zO .e (zO .e (zO .e (zO .e (zO .e (zO (zO .e (zO .e (zO .e (zO (zO (zL pI) .e) .e)))) .e)))))) (zO (zO .e (zO .e (zO .e (zO .e (zO (zO .e (zO .e (zO .e (zO (zO (zL (dh j l m k mn o)) .e) .e)))) .e))))) (zO .e (zO (zO (zO .e (zO (zO .e (zO .e (zO .e (zO (zO (zL (dh b d f c g h)) .e) .e)))) .e)) .e) .e))),5054,0⟩:=
 jK F FF [0,1,2,4,5,6,7,8,9,10,12] (Qk 10 (DoesC.ov p rfl rfl rfl (by kernel_rfl):DC old 12 [.aO (some (i,0)) 4 ld,zI 3,zI 65535] (aaI (dh j l m k mn o) (dh b d f c g h)) (.bV [wG,zI 151]) (aaI (dh j l m k mn o) (dh b d f c g h))) (Qn 8)) (by kernel_rfl)
end
section
variable(Y:Fe)(Z:Ge)
include Y Z
theorem ha6(old:Old)(F:Fw old)(FF:Gw old)(a b:Option (Nat×Nat))(c d e f:Nat)(l ld:Nat)(g h:Option (Nat×Nat))(i j mn k:Nat):AtCall prog (E.wo old) [.n 1] (((XE (.aO (some (l,0)) 4 ld)):AF)) ((Ip (dh g i j h mn k) (dh a c d b e f))) 13 [zI 64] (Ip (dh g i j h mn k) (dh a c d b e f)):=
 ⟨[],by kernel_rfl,trivial⟩
end
section
variable(Y:Fe)(Z:Ge)
include Y Z
theorem hs6(old:Old)(F:Fw old)(FF:Gw old)(a:Old)(b c:Option (Nat×Nat))(d f g h:Nat)(s ld:Nat)(i j:Option (Nat×Nat))(k l mn m:Nat)(o:Option (Nat×Nat))(p q:Nat)(r:DC old 12 [.aO o p q,zI 63,zI 65536] eH (.bV [wG,zI 151]) eH):DS old (gX prog (E.wo a) [.n 1] (XE (.aO (some (s,0)) 4 ld)) (Ip (dh i k l j mn m) (dh b d f c g h)) (.aO o p q)) (Ip (dh i k l j mn m) (dh b d f c g h)) (SB (.aO (some (s,0)) 4 ld)) ⟨zO .e (zO (zO .e (zO .e (zO .e (zO .e (zO (zO .e (zO .e (zO .e (zO (zO (zL (dh i k l j mn m)) .e) .e)))) .e))))) (zO .e (zO (zO (zO .e (zO (zO .e (zO .e (zO .e (zO (zO (zL (dh b d f c g h)) .e) .e)))) .e)) .e) (zO .e (zO .e (zO (zO .e (zO .e (zO .e (zO (zO (zL pI) .e) .e)))) .e)))))),5055,0⟩:=
 jK F FF [0,1,2,4,5,6,7,8,9,10,12,14] (Qk 0 (DoesC.ov r rfl rfl rfl (by kernel_rfl):DC old 12 [.aO o p q,zI 63,zI 65536] (Ip (dh i k l j mn m) (dh b d f c g h)) (.bV [wG,zI 151]) (Ip (dh i k l j mn m) (dh b d f c g h))) (Qn 8)) (by kernel_rfl)
end
section
variable(Y:Fe)(Z:Ge)
include Y Z
theorem ha7(old:Old)(F:Fw old)(FF:Gw old)(a b:Option (Nat×Nat))(c d e f:Nat)(l ld:Nat)(g h:Option (Nat×Nat))(i j mn k:Nat):AtCall prog (E.wo old) [.n 1] (((SB (.aO (some (l,0)) 4 ld)):AF)) ((Dg (dh g i j h mn k) (dh a c d b e f))) 13 [zI 64] (Dg (dh g i j h mn k) (dh a c d b e f)):=
 ⟨[],by kernel_rfl,trivial⟩
end
section
variable(Y:Fe)(Z:Ge)
include Y Z
theorem ha8(old:Old)(F:Fw old)(FF:Gw old)(a:Old)(b c:Option (Nat×Nat))(d e f g:Nat)(q ld:Nat)(h i:Option (Nat×Nat))(j k mn l:Nat)(m:Option (Nat×Nat))(o p:Nat):AtCall prog (E.wo old) [] ((gX prog (E.wo a) [.n 1] ((SB (.aO (some (q,0)) 4 ld)):AF) ((Dg (dh h j k i mn l) (dh b d e c f g))) (.aO m o p))) ((Dg (dh h j k i mn l) (dh b d e c f g))) 12 [.aO m o p,zI 15,zI 65535] (Dg (dh h j k i mn l) (dh b d e c f g)):=
 ⟨[],by kernel_rfl,trivial⟩
end
section
variable(Y:Fe)(Z:Ge)
include Y Z
theorem hs8(old:Old)(F:Fw old)(FF:Gw old)(w x:Old)(h i:Option (Nat×Nat))(j m o p:Nat)(y ld:Nat)(q r:Option (Nat×Nat))(s t mn u:Nat)(B:Option (Nat×Nat))(C D:Nat)(rw:List UInt8)(a:Int)(c d:Option (Nat×Nat))(e f g b:Nat)(z:DC old 12 [.aO (some (y,0)) 4 ld,zI 3,zI 65537] eH (.bV [wG,zI 1]) eH)(A:DC old 14 [o7 q s t r mn u,o7 h j m i o p] eH (.bool true) eH)(G:DC old 7 [qX rw c e f a d g b] eH (zI 65535) eH)(v:List AV)(H:eF (E.wo old) (aaH (mg rw c e f a d g b) (dh q s t r mn u) (dh h j m i o p)) 30 (zI 65537) (zI 65537)=some (.val (.sl 5056 0 65537 (some 65537)) (AZ (mg rw c e f a d g b) (.cells v 65 false false) (dh q s t r mn u) (dh h j m i o p))))(m12:DC old 12 [.sl 5056 0 65537 (some 65537),zI 0,zI 1] (AZ (mg rw c e f a d g b) (.cells v 65 false false) (dh q s t r mn u) (dh h j m i o p)) (.bV [wG,zI 2]) (AZ (mg rw c e f a d g b) (.cells v 65 false false) (dh q s t r mn u) (dh h j m i o p))):DS old ((gX prog (E.wo x) [] (gX prog (E.wo w) [.n 1] ((SB (.aO (some (y,0)) 4 ld)):AF) ((Dg (dh q s t r mn u) (dh h j m i o p))) (.aO B C D)) ((Dg (dh q s t r mn u) (dh h j m i o p))) (.bV [qX rw c e f a d g b,zI 0]))) ((Dg (dh q s t r mn u) (dh h j m i o p))) (afq (.aO B C D) (.aO (some (y,0)) 4 ld) (qX rw c e f a d g b) (o7 q s t r mn u) (.bV [qX rw c e f a d g b,zI 0]) (.aO (some (y,0)) 4 ld) (qX rw c e f a d g b) (o7 h j m i o p) (.bV [qX rw c e f a d g b,zI 0])) (Io (mg rw c e f a d g b) (.cells v 65 false false) (dh q s t r mn u) (dh h j m i o p)):=
 KM F FF (obs:=[some true=some true,(none:Option AV)=none,eF (E.wo old) (aaH (mg rw c e f a d g b) (dh q s t r mn u) (dh h j m i o p)) 30 (zI 65537) (zI 65537)=some (.val (.sl 5056 0 65537 (some 65537)) (AZ (mg rw c e f a d g b) (.cells v 65 false false) (dh q s t r mn u) (dh h j m i o p))),DC old 12 [.sl 5056 0 65537 (some 65537),zI 0,zI 1] (AZ (mg rw c e f a d g b) (.cells v 65 false false) (dh q s t r mn u) (dh h j m i o p)) (.bV [wG,zI 2]) (AZ (mg rw c e f a d g b) (.cells v 65 false false) (dh q s t r mn u) (dh h j m i o p)),DC old 12 [.aO (some (y,0)) 4 ld,zI 3,zI 65537] (Xz (mg rw c e f a d g b) (.cells v 65 false false) (dh q s t r mn u) (dh h j m i o p)) (.bV [wG,zI 1]) (Xz (mg rw c e f a d g b) (.cells v 65 false false) (dh q s t r mn u) (dh h j m i o p)),DC old 14 [o7 q s t r mn u,o7 h j m i o p] (Io (mg rw c e f a d g b) (.cells v 65 false false) (dh q s t r mn u) (dh h j m i o p)) (.bool true) (Io (mg rw c e f a d g b) (.cells v 65 false false) (dh q s t r mn u) (dh h j m i o p)),DC old 7 [qX rw c e f a d g b] (Io (mg rw c e f a d g b) (.cells v 65 false false) (dh q s t r mn u) (dh h j m i o p)) (zI 65535) (Io (mg rw c e f a d g b) (.cells v 65 false false) (dh q s t r mn u) (dh h j m i o p))]) [.n 9,.l (.sl 5056 0 65537 (some 65537)) (AZ (mg rw c e f a d g b) (.cells v 65 false false) (dh q s t r mn u) (dh h j m i o p)),.k (.bV [wG,zI 2]) (AZ (mg rw c e f a d g b) (.cells v 65 false false) (dh q s t r mn u) (dh h j m i o p)),.n 10,.k (.bV [wG,zI 1]) (Xz (mg rw c e f a d g b) (.cells v 65 false false) (dh q s t r mn u) (dh h j m i o p)),.n 31,.k (.bool true) (Io (mg rw c e f a d g b) (.cells v 65 false false) (dh q s t r mn u) (dh h j m i o p)),.n 15,.k (zI 65535) (Io (mg rw c e f a d g b) (.cells v 65 false false) (dh q s t r mn u) (dh h j m i o p)),.n 13] (by kernel_rfl) ⟨rfl,rfl,H,m12,DoesC.ov z rfl rfl rfl (by kernel_rfl),DoesC.ov A rfl rfl rfl (by kernel_rfl),DoesC.ov G rfl rfl rfl (by kernel_rfl)⟩
end
section
variable(Y:Fe)(Z:Ge)
include Y Z
section
variable(X:Old)(F:Fw X)(R:Gw X)(W:Int)(U T:Nat)(V:Option Nat)(S:AH)
include X F R W U T V S
theorem isn:DR X (ent (E.wo X) 25 [.aM,zI 0,.sl 0 0 1 (some 1)]) ⟨zL (pJ W),2,0⟩ (.sl 2 0 1 none) ⟨zN .e (pJ W) (zL (.cells [zI W] 3 true false)),3,0⟩:=
 prt F R (Qn 46) (by kernel_rfl)
theorem iss(n:Nat)(a:Option Nat)(c:List AV)(d:Bool)(b:iN (E.wo X) 55 (.sl 1 0 n a) (some (zI (↑n:Int))) none none=some .emp)(e:jv (E.wo X) (ji (.cells c 3 d false) (pJ W)) .append [.sl 1 0 n a,.sl 0 0 1 (some 1)] [55,55]=some (.val (.sl U 0 T V) S))(f:((↑n:Int)==(↑n:Int))=true):DR X (ent (E.wo X) 25 [.sl 1 0 n a,zI (↑n:Int),.sl 0 0 1 (some 1)]) (ji (.cells c 3 d false) (pJ W)) (.sl U 0 T V) S:=
 prt F R (Qv 8 b (Qb 26 f (Ql 6 e (Qn 3)))) (by kernel_rfl)
end
end
section
variable{N:Nat}{m:Mm}{σ:List Nat}
def nums(σ:List Nat):List AV:=σ.map λ(i:Nat)=>zI i
theorem Tt{E:Env}{t e:TypeId}{z:Nat}(b:E.d t=some (.slice e))(c:(E.tt.get e).map (·.size)=some z){id n:Nat}(h0:0<n):iN E t (.sl id 0 n none) (some (zI n)) none none=some .emp:=by
 obtain⟨a,f,rfl⟩:=aN.1 c;unfold iN;rw[b];show(match E.tt.get e,(none:Option AV)with
  |some a,none=>vY id 0 a.size n (some (zI n)) none
  |some a,some v=>match kW 0 n v with
   |some m=>pX id 0 a.size n m (some (zI n)) none true
   |none=>none
  |_,_=>none)=_
 rw[f];show vY id 0 a.size n (some (zI n)) none=_;unfold vY;have g:BK (some (zI n)) n 0=some n:=by
  show cond (decide (((0:Nat):Int)<=(↑n:Int)∧(↑n:Int)<=n)) (some (↑n:Int).toNat) none=_;rw[aA ⟨by omega,by omega⟩,bN];rfl
 show(match BK (some (zI n)) n 0 with
  |none=>(none:Option AV)
  |some l=>cond (Nat.beq l 0) (some (AV.sl id 0 n none)) (cond (Nat.blt l n) (some (AV.sl id (0+l*a.size) (n - l) none)) (some AV.emp)))=_
 rw[g];show cond (Nat.beq n 0) _ (cond (Nat.blt n n) _ (some AV.emp))=_;rw[show Nat.beq n 0=false by cases n with |zero=>exact aP h0 (lS _)|succ n=>rfl,show Nat.blt n n=false by
  cases h:Nat.blt n n with
  |false=>rfl
  |true=>rw[cO]at h;exact aP h (lS _)]
 rfl
def UQ(old:Old)(σ:List Nat)(k:Nat):Prop:=∀(m:Mm) (N a v:Nat) (num:Int),m a= .cells (nums σ) 3 true false->m v= .cells [zI num] 3 false false->a≠v->a<N->v<N->N+8<=OLD->
 CallM prog E old 25 [.sl a 0 σ.length none,zI k,.sl v 0 1 (some 1)] m N (λ_ w b N'=>∃q,w= .sl q 0 (σ.length+1) none∧(q=a∨(N<=q∧q<N'))∧b q= .cells (nums (σ.take k)++zI num::nums (σ.drop k)) 3 true false∧N<=N'∧N'<=N+8∧∀j,j<N->j≠a->j≠v->b j=m j)
theorem GQ(σ:List Nat):∀a∈nums σ,AV.low 0 a=true:=λa b=>by
 obtain⟨i,_,rfl⟩:=bP.1 b;rfl
theorem MZ(σ:List Nat):(nums σ).length=σ.length:=bH _
section
variable(W:Fe)(Y:Ge)(X:∀old,Fw old)(Z:∀old,Gw old)
include W Y X Z
theorem Y6(old:Old)(h0:0<σ.length)(u:σ.length<=134217728):UQ old σ σ.length:=by
 intro m N b v num d o p q r w;refine CallM.of (Z old) (by kernel_rfl) ?_;obtain⟨θ,f⟩:=Pm.mk' (l:=[v,b]) (N:=N) (k:=1) [0,1,2] (by decide) rfl (by decide) (by simp;omega) (by simp;omega) (by omega);obtain⟨t0,t1,t2⟩:θ.to 0=v∧θ.to 1=b∧θ.to 2=N:=by
  have h:[θ.to 0,θ.to 1,θ.to 2]=[v,b,N]:=f;simp only[dO,j6]at h;exact h
 have s:=rM (E:=E.wo old) (ts:=55) (tx:=55) (e:=3) (sz:=1) (h:=(ji (.cells (nums σ) 3 true false) (.cells [zI num] 3 false false))) (by kernel_rfl) (id:=1) (len:=σ.length) (id2:=0) (off2:=0) (cc:=some 1) (vs:=nums σ) (cs:=[zI num]) rfl (by rw[MZ,bW]) (by omega) rfl rfl rfl;have D:=iss W Y old (X old) (Z old) num 2 (σ.length+1) none _ σ.length none (nums σ) true (Tt (e:=3) (z:=1) (by kernel_rfl) (by kernel_rfl) h0) s (by simp);have n:=kU (GQ σ);refine dA.Cw (θ:=θ) (N':=N+1) (l:=[(v,.cells [zI num] 3 false false),(b,.dead),(N,.cells (nums σ++[zI num]) 3 true false)]) ⟨λe a=>?_,λe a=>?_,λe a g=>?_,λi h1 c=>?_,by omega,rfl,by omega,rfl,rfl⟩ D ⟨by kernel_rfl,by kernel_rfl,by kernel_rfl⟩ ?_ ⟨N,?_,.inr ⟨ah _,by omega⟩,?_,by omega,by omega,λj h1 c t=>?_⟩
 .have a:e∈[(0,AO.cells [zI num] 3 false false),(1,.cells (nums σ) 3 true false)]:=a
  simp only[ay,aB,bn]at a;rcases a with rfl|rfl
  .rw[t0,o];rfl
  .rw[t1,d,jL θ n]
 .have a:e∈[(0,AO.cells [zI num] 3 false false),(1,.cells (nums σ) 3 true false)]:=a
  simp only[ay,aB,bn]at a;rcases a with rfl|rfl
  .rw[t0];simp
  .rw[t1];simp
 .simp only[ay,aB,bn]at a
  rcases a with rfl|rfl|rfl
  .exact⟨0,_,rfl,t0,rfl⟩
  .exact g.elim
  .exact⟨2,_,rfl,t2,jL θ (qJ n rfl) _ _ _⟩
 .have h1:2<=i:=h1
  have c:i<3:=c;obtain rfl:i=2:=by omega
  rw[t2];omega
 .rw[show(Ev.ent (E.wo old) 25 [.sl 1 0 σ.length none,zI σ.length,.sl 0 0 1 (some 1)]).ren θ.to=Ev.ent (E.wo old) 25 [.sl (θ.to 1) 0 σ.length none,zI σ.length,.sl (θ.to 0) 0 1 (some 1)]from by kernel_rfl,t0,t1]
 .show AV.sl (θ.to 2) 0 (σ.length+1) none=_
  rw[t2]
 .simp only[dH]
  rw[au (by omega),au (by omega),aH trivial,List.take_length,List.drop_length];rfl
 .simp only[dH]
  rw[au t,au c,au (by omega)]
theorem agG(old:Old){v:Nat}{num:Int}(c:m v= .cells [zI num] 3 false false)(g:v<N)(o:N+8<=OLD):
 CallM prog E old 25 [.aM,zI 0,.sl v 0 1 (some 1)] m N (λ_ w d N'=>w= .sl N 0 1 none∧N'=N+1∧d N= .cells [zI num] 3 true false∧∀j,j<N->d j=m j):=by
 refine CallM.of (Z old) (by kernel_rfl) ?_;obtain⟨θ,b⟩:=Pm.mk' (l:=[v]) (N:=N) (k:=1) [0,2] (by decide) rfl (by decide) (by simp) (by simp;omega) (by omega);obtain⟨t0,t2⟩:θ.to 0=v∧θ.to 2=N:=by
  have h:[θ.to 0,θ.to 2]=[v,N]:=b;simp only[dO,j6]at h;exact h
 have D:=isn W Y old (X old) (Z old) num 0 0 none eH;refine dA.Cw (θ:=θ) (N':=N+1) (l:=[(v,.cells [zI num] 3 false false),(N,.cells [zI num] 3 true false)]) ⟨λe a=>?_,λe a=>?_,λe a n=>?_,λi h1 f=>?_,by omega,rfl,by omega,rfl,rfl⟩ D ⟨by kernel_rfl,by kernel_rfl,by kernel_rfl⟩ ?_ ⟨?_,rfl,?_,λj h1=>?_⟩
 .have a:e∈[(0,AO.cells [zI num] 3 false false)]:=a
  simp only[ay,aB,bn]at a;subst a;rw[t0,c];rfl
 .have a:e∈[(0,AO.cells [zI num] 3 false false)]:=a
  simp only[ay,aB,bn]at a;subst a;rw[t0];simp
 .simp only[ay,aB,bn]at a
  rcases a with rfl|rfl
  .exact⟨0,_,rfl,t0,rfl⟩
  .exact⟨2,_,rfl,t2,rfl⟩
 .have h1:2<=i:=h1
  have f:i<3:=f;obtain rfl:i=2:=by omega
  rw[t2];omega
 .rw[show(Ev.ent (E.wo old) 25 [.aM,zI 0,.sl 0 0 1 (some 1)]).ren θ.to=Ev.ent (E.wo old) 25 [.aM,zI 0,.sl (θ.to 0) 0 1 (some 1)]from by kernel_rfl,t0]
 .show AV.sl (θ.to 2) 0 1 none=_
  rw[t2]
 .simp only[dH];rw[au (by omega),aH trivial]
 .simp only[dH]
  by_cases k1:j=v
  .rw[aH k1,k1,c]
  .rw[au k1,au (by omega)]
end
end
section
variable{L:List LN}{N b i n:Nat}{a a':AV}{cap:Option Nat}{cs l l':List AV}{m:Mm}{y:LN}{β:Nat->Option Nat}{σ:List Nat}
def Y5:AV->Bool
 | .str _| .int _ _| .aO _ _ _| .bool _=>true
 |_=>false
theorem Yp(h:Y5 a=true)(t:Told β a a'):a'=a:=by
 cases t<;>first|rfl|(cases h)
theorem Mh(h:∀a∈l,Y5 a=true)(t:Ba β l l'):l'=l:=by
 refine List.ext_getElem? λi=>?_;cases e:l[i]? with
 |none=>
  have:=kY.1 e;rw[t.1]at this;exact kY.2 this
 |some a=>
  obtain⟨c,h1,b⟩:=t.2 i a e;rw[h1,Yp (h a (bE e)) b]
theorem Aw.pl{old:Old}(h:Aw old cs L):∀a∈cs,Y5 a=true:=by
 induction h with
 |nil=>intro a d;cases d
 |cons a b _ e=>
  obtain⟨f,g,i,rfl⟩:=a.shape;obtain⟨j,k,rfl,_⟩:=K5 b;intro v c;simp only[ay]at c;rcases c with rfl|rfl|rfl|rfl|c
  .rfl
  .rfl
  .rfl
  .rfl
  .exact e v c
theorem YS(σ:List Nat):∀a∈nums σ,Y5 a=true:=λa b=>by
 obtain⟨i,_,rfl⟩:=bP.1 b;rfl
theorem aad{b c:AV}(h:Ba β [a,b,c] l'):∃d b' e,l'=[d,b',e]∧Told β a d∧Told β b b'∧Told β c e:=by
 obtain⟨h1,f⟩:=h;obtain⟨d,g,t0⟩:=f 0 a rfl;obtain⟨b',e1,t1⟩:=f 1 b rfl;obtain⟨e,e2,t2⟩:=f 2 c rfl
 match l',h1,g,e1,e2 with
 |[x,y,z],_,g,e1,e2=>cases g;cases e1;cases e2;exact⟨_,_,_,rfl,t0,t1,t2⟩
theorem acN(h:Ba β [a] l'):∃b,l'=[b]∧Told β a b:=by
 obtain⟨h1,d⟩:=h;obtain⟨b,c,t0⟩:=d 0 a rfl
 match l',h1,c with
 |[x],_,c=>cases c;exact⟨_,rfl,t0⟩
theorem Mg{c:List AV}(h:Told β (.agg c) a'):a'= .agg c:=by cases h;rfl
theorem Mf{f:FuncId}{o:Nat}(hi:i<OLD)(c:β i=some b)(h:Told β (.fn f [] [.ptr i o]) a'):a'= .fn f [] [.ptr (OLD+b) o]:=by
 cases h with
 |low h=>
  exfalso;have h:(AV.dX 0 []&&((Nat.blt i 0||Nat.ble OLD i)&&true))=true:=h;rw[show Nat.blt i 0=false by cases a:Nat.blt i 0 with |false=>rfl|true=>rw[cO]at a;omega]at h;rw[show Nat.ble OLD i=false by cases a:Nat.ble OLD i with |false=>rfl|true=>have:=aF a;omega]at h;cases h
 |clo h=>rw[c]at h;cases h;rfl
theorem QV{o:Nat}(hi:i<OLD)(d:β i=some b)(h:Told β (.sl i o n cap) a'):∃c,a'= .aO (some (b,o)) n c∧n<=c:=by
 cases h with
 |low h=>
  exfalso;have h:(Nat.blt i 0||Nat.ble OLD i)=true:=h;rw[show Nat.blt i 0=false by cases a:Nat.blt i 0 with |false=>rfl|true=>rw[cO]at a;omega]at h;rw[show Nat.ble OLD i=false by cases a:Nat.ble OLD i with |false=>rfl|true=>have:=aF a;omega]at h;cases h
 |sl h e=>rw[d]at h;cases h;exact⟨_,rfl,e⟩
theorem Vh(h:Told β .aM a'):a'= .aO none 0 0:=by
 cases h with
 |low _ a=>exact aP rfl a
 |nil=>rfl
structure yh(L:List LN)(σ:List Nat)(K:List LN):Prop where
 len:σ.length=K.length
 Wi:σ.length=L.length
 get:∀(i j:Nat),σ[i]? =some j->j<L.length∧L[j]? =K[i]?
 srt:ZY mU K
 all:∀x∈L,x∈K
def SQ(K:List LN)(y:LN)(v:AV):Prop:=∃(k:Nat) (a:Bool),rQ K y k a∧v= .bV [zI k,.bool a]
section
variable(W:Fe)(Y:Ge)(X:∀old,Fw old)(Z:∀old,Gw old)
include W Y X Z
theorem aby(old:Old){ob:Nat}{c:List AV}(g:m ob= .cells [.aM] 30 false false)(d:ob<OLD)(q:yM old c y):
 CallM prog E old 22 [.aM,.agg c,.fn 23 [] [.ptr ob 0]] m N (λ_ v s N'=>SQ [] y v∧v.low 0=true∧s=m∧N'=N):=by
 refine CallM.borrow (ids:=[ob]) (λi hi=>?_) (λa e=>?_) (λold' z n o t u=>?_)
 .simp only[ay,aB,bn]at hi
  subst hi;exact⟨_,_,_,_,g,λa e=>by simp only[ay,aB,bn]at e;subst e;exact .low rfl⟩
 .simp only[ay,aB,bn]at e
  rcases e with rfl|rfl|rfl
  .exact .low rfl
  .exact .low q.low
  .exact .clo (by simp)
 .obtain⟨A,b',B,rfl,t1,t2,t3⟩:=aad t
  obtain⟨b,p,_⟩:=u ob (by simp);rw[Vh t1,Mg t2,Mf d p t3];obtain⟨k,f,h1,w⟩:=c22 W Y old' (X old') (Z old') (v:= .aO none 0 0) (eb:=b) (L:=[]) (K:=[]) (σ:=[]) (.inr ⟨rfl,rfl,rfl⟩) (λh=>aP rfl h) (λl x=>by cases x) (by decide) rfl (λi j h=>by cases h) List.Pairwise.nil (by decide) (q.mono o);exact⟨λv=>v= .bV [zI (k:Nat),.bool f],dU.ofD w (by decide) rfl (qh.low rfl rfl),λv r=>⟨by rw[r];rfl,k,f,h1,r⟩⟩
theorem abx(old:Old){ob d e:Nat}{c:List AV}{K:List LN}(f:m ob= .cells [.sl d 0 L.length none] 30 false false)(g:m d= .cells cs 65 true false)(h:m e= .cells (nums σ) 3 true false)(t:Aw old cs L)(j:yh L σ K)(u:∀l∈L,l.args.length<=268435456∧l.kids.length<=268435456)(B:L.length<=268435456)(w:∀x∈[ob,d,e],x<OLD)(C:yM old c y):
 CallM prog E old 22 [.sl e 0 σ.length none,.agg c,.fn 23 [] [.ptr ob 0]] m N (λ_ v J N'=>SQ K y v∧v.low 0=true∧J=m∧N'=N):=by
 refine CallM.borrow (ids:=[ob,d,e]) (λi hi=>?_) (λa b=>?_) (λold' β z n M A=>?_)
 .simp only[ay,aB,bn]at hi
  rcases hi with rfl|rfl|rfl
  .exact⟨_,_,_,_,f,λa b=>by simp only[ay,aB,bn]at b;subst b;exact .sl (by simp)⟩
  .exact⟨_,_,_,_,g,λa b=> .low (nU t.low a b)⟩
  .exact⟨_,_,_,_,h,λa b=> .low (GQ σ a b)⟩
 .simp only[ay,aB,bn]at b
  rcases b with rfl|rfl|rfl
  .exact .sl (by simp)
  .exact .low C.low
  .exact .clo (by simp)
 .obtain⟨a',b',c',rfl,t1,t2,t3⟩:=aad M
  obtain⟨O,o,k1⟩:=A ob (by simp);obtain⟨P,p,Q⟩:=A d (by simp);obtain⟨D,q,R⟩:=A e (by simp);obtain⟨l1,w1,S⟩:=k1 _ _ _ _ f;obtain⟨l2,w2,F⟩:=Q _ _ _ _ g;obtain⟨l3,T,G⟩:=R _ _ _ _ h;rw[Mh t.pl w2]at F;rw[Mh (YS σ) T]at G;obtain⟨a1,rfl,U⟩:=acN w1;obtain⟨V,rfl,_⟩:=QV (w d (by simp)) p U;obtain⟨sc,rfl,_⟩:=QV (w e (by simp)) q t1;rw[Mg t2,Mf (w ob (by simp)) o t3];have H:=know F;rw[t.len]at H;have r:=know G;rw[MZ]at r;obtain⟨k,s,h1,h2⟩:=c22 W Y old' (X old') (Z old') (v:= .aO (some (D,0)) σ.length sc) (eb:=O) (L:=L) (K:=K) (σ:=σ) (.inl ⟨D,0,sc,rfl,by rw[bW];exact r⟩) (λ_=>⟨P,0,V,cs,S 0 _ rfl,t.mono n,H⟩) u B j.len j.get j.srt (by rw[← j.len,j.Wi];exact B) (C.mono n);exact⟨λv=>v= .bV [zI (k:Nat),.bool s],dU.ofD h2 (by decide) rfl (qh.low rfl rfl),λv I=>⟨by rw[I];rfl,k,s,h1,I⟩⟩
end
end
section
variable{N:Nat}{R:rP}{m:Mm}
theorem yM.shape{old:Old}{c:List AV}{x:LN}(H:yM old c x):∃b d e k1 f g,c=[.str x.rel,.aO b d e,zI x.rule,.aO k1 f g]:=by
 obtain⟨a,k,rfl,h1,h⟩:=H;obtain⟨i,j,l,rfl⟩:=h1.shape;obtain⟨m,n,rfl,_⟩:=K5 h;exact⟨_,_,_,_,_,_,rfl⟩
section
variable(W:Fe)(Y:Ge)(X:∀old,Fw old)(Z:∀old,Gw old)
include W Y X Z
theorem Zm{old:Old}{ob y:Nat}{st:AV}{c:List AV}{x:LN}(t:m ob= .cells [.aM] 30 false false)(F:m y= .cells c 65 false false)(B:yM old c x)(hne:ob≠y)(hobN:ob<N)(hyN:y<N)(hO:N+13<=OLD)
 (B':∀old' G H z,Old.le old old'->N<=G->G<N+13->N<=H->H<N+13->G≠H->z ob= .cells [.sl G 0 1 none] 30 false false->z G= .cells c 65 true false->z H= .cells (nums [0]) 3 true false->(∀k,k<N->k≠ob->z k=m k)->dA prog E old' (uP (.ptr ob 0) (.sl H 0 1 none) st 0) z (N+13) R):
 dA prog E old (za (.ptr ob 0) .aM st (.ptr y 0)) m N R:=by
 obtain⟨θ,Q⟩:=Pm.of [0,1,2,3,4,5] [ob,y,N+12,N,N+10,N+11] rfl (by decide) (by simp;omega) (by simp;decide) (by simp;omega);obtain⟨t0,t1,t2,t3,t4,t5⟩:θ.to 0=ob∧θ.to 1=y∧θ.to 2=N+12∧θ.to 3=N∧θ.to 4=N+10∧θ.to 5=N+11:=by
  have h:[θ.to 0,θ.to 1,θ.to 2,θ.to 3,θ.to 4,θ.to 5]=[ob,y,N+12,N,N+10,N+11]:=Q;simp only[dO,j6]at h;exact h
 have hlnl:=B.low;have I:=B;obtain⟨d,f,n,k1,o,p,rfl⟩:=B.shape;have eY:(AO.cells [.str x.rel,.aO d f n,zI x.rule,.aO k1 o p] 65 false false).ren θ.to= .cells [.str x.rel,.aO d f n,zI x.rule,.aO k1 o p] 65 false false:=rfl;have u:∀{M:Mm},M ob= .cells [.aM] 30 false false->M y= .cells [.str x.rel,.aO d f n,zI x.rule,.aO k1 o p] 65 false false->∀e∈ents (zN (zL (.cells [.str x.rel,.aO d f n,zI x.rule,.aO k1 o p] 65 false false)) OI .e),M (θ.to e.1)=e.2.ren θ.to∧(θ.to e.1=ob∨θ.to e.1=y):=λ{M} h1 s e a=>by
  have a:e∈[(0,AO.cells [.aM] 30 false false),(1,.cells [.str x.rel,.aO d f n,zI x.rule,.aO k1 o p] 65 false false)]:=a;simp only[ay,aB,bn]at a;rcases a with rfl|rfl
  .exact⟨by rw[t0,h1];rfl,.inl t0⟩
  .exact⟨by rw[t1,s];rfl,.inr t1⟩
 have S:dH m [(ob,.cells [.aM] 30 false false),(y,.cells [.str x.rel,.aO d f n,zI x.rule,.aO k1 o p] 65 false false)]=m:=funext λk=>by
  simp only[dH];by_cases h1:k=ob
  .rw[aH h1,h1,t]
  .by_cases s:k=y
   .rw[au h1,aH s,s,F]
   .rw[au h1,au s]
 refine dA.yY (X old) (Z old) (θ:=θ) (N':=N) (l:=[(ob,.cells [.aM] 30 false false),(y,.cells [.str x.rel,.aO d f n,zI x.rule,.aO k1 o p] 65 false false)]) ⟨λe a=>(u t F e a).1,λe a=>?_,λe a C=>?_,λi h1 s=>?_,by omega,rfl,by omega,rfl,rfl⟩ (agl W Y old (X old) (Z old) (st.un θ) x.rel d f n x.rule k1 o p) ⟨rfl,rfl,rfl⟩ (λv=>⟨by kernel_rfl,by kernel_rfl,by kernel_rfl⟩) ?_ (R1:=λ_ v z N'=>SQ [] x v∧v.low 0=true∧z=m∧N'=N) ?_ ?_
 .rcases(u t F e a).2 with h|h<;>rw[h]<;>simp
 .simp only[ay,aB,bn]at a
  rcases a with rfl|rfl
  .exact⟨0,_,rfl,t0,rfl⟩
  .exact⟨1,_,rfl,t1,rfl⟩
 .have h1:3<=i:=h1
  have s:i<3:=s;omega
 .show _=za (.ptr (θ.to 0) 0) .aM ((st.un θ).ren θ.to) (.ptr (θ.to 1) 0)
  rw[t0,t1,AV.jo]
 .rw[S]
  have e:AV.jC θ.to [.aM,.agg [.str x.rel,.aO d f n,zI x.rule,.aO k1 o p],.fn 23 [] [zP 0 0]]=[.aM,.agg [.str x.rel,.aO d f n,zI x.rule,.aO k1 o p],.fn 23 [] [.ptr ob 0]]:=by
   show[AV.aM,.agg [.str x.rel,.aO d f n,zI x.rule,.aO k1 o p],.fn 23 [] [.ptr (θ.to 0) 0]]=_;rw[t0]
  rw[e];exact aby W Y X Z old t (by omega) I
 .rintro b v m1 q J ⟨⟨k,T,hf,rfl⟩,_,rfl,rfl⟩
  obtain rfl:k=0:=Nat.le_zero.1 hf.le;cases T with
  |true=>obtain⟨_,h,_⟩:=hf.eq rfl;cases h
  |false=>
  refine dA.yY (X b) (Z b) (θ:=θ) (N':=q+1) (l:=[(ob,.cells [.aM] 30 false false),(y,.cells [.str x.rel,.aO d f n,zI x.rule,.aO k1 o p] 65 false false),(q,.cells [zI 0] 3 false false)]) ⟨λe a=>(u t F e a).1,λe a=>?_,λe a C=>?_,λi h1 s=>?_,by omega,rfl,by omega,rfl,rfl⟩ (agi W Y b (X b) (Z b) old 0 (st.un θ) x.rel d f n x.rule k1 o p) ⟨by kernel_rfl,by kernel_rfl,by kernel_rfl⟩ (λv=>⟨by kernel_rfl,by kernel_rfl,by kernel_rfl⟩) rfl
   (R1:=λ_ w z N'=>w= .sl (q+1) 0 1 none∧N'=q+1+1∧z (q+1)= .cells [zI 0] 3 true false∧∀j,j<q+1->z j=dH m1 [(ob,.cells [.aM] 30 false false),(y,.cells [.str x.rel,.aO d f n,zI x.rule,.aO k1 o p] 65 false false),(q,.cells [zI 0] 3 false false)] j) ?_ ?_
  .rcases(u t F e a).2 with h|h<;>rw[h]<;>simp
  .simp only[ay,aB,bn]at a
   rcases a with rfl|rfl|rfl
   .exact⟨0,_,rfl,t0,rfl⟩
   .exact⟨1,_,rfl,t1,rfl⟩
   .exact⟨3,_,rfl,t3,rfl⟩
  .have h1:3<=i:=h1
   have s:i<4:=s;obtain rfl:i=3:=by omega
   rw[t3];omega
  .have e:AV.jC θ.to [.aM,zI 0,.sl 3 0 1 (some 1)]=[.aM,zI 0,.sl q 0 1 (some 1)]:=by
    show[AV.aM,zI 0,.sl (θ.to 3) 0 1 (some 1)]=_;rw[t3]
   rw[e];exact agG W Y X Z b (by simp only[dH];rw[au (by omega),au (by omega),aH trivial]) (by omega) (by omega)
  .rintro r w m2 N2 K ⟨rfl,rfl,g1,U⟩
   have A:m2 ob= .cells [.aM] 30 false false:=by rw[U ob (by omega)];simp only[dH];rw[aH trivial]
   have L:m2 y= .cells [.str x.rel,.aO d f n,zI x.rule,.aO k1 o p] 65 false false:=by rw[U y (by omega)];simp only[dH];rw[au (by omega),aH trivial]
   let V:AH:=⟨zN (zL (.cells [.str x.rel,.aO d f n,zI x.rule,.aO k1 o p] 65 false false)) OI (zO (zL (.cells [.str x.rel,.aO d f n,zI x.rule,.aO k1 o p] 65 false false)) .e),5,0⟩;have hA:jv (E.wo r) V .append [.aM,.sl 4 0 1 (some 1)] [30,30]=some (.val (.sl 5 0 1 none) (V.new (.cells [.str x.rel,.aO d f n,zI x.rule,.aO k1 o p] 65 true false))):=by kernel_rfl
   have D:=agf W Y r (X r) (Z r) old b 0 (θ.inv (q+1)) 1 none (st.un θ) x.rel d f n x.rule k1 o p 1 5 none _ _ hA (gD (h:=V.new (.cells [.str x.rel,.aO d f n,zI x.rule,.aO k1 o p] 65 true false)) (id:=0) (off:=0) (l:=[.aM]) (vs:=[.sl 5 0 1 none]) (e:=30) (g:=false) rfl (by decide) rfl);refine dA.lift (θ:=θ) (N':=q+13) (l:=[(ob,.cells [.sl (q+11) 0 1 none] 30 false false),(y,(.cells [.str x.rel,.aO d f n,zI x.rule,.aO k1 o p] 65 false false)),(q+10,.dead),(q+11,.cells [.str x.rel,.aO d f n,zI x.rule,.aO k1 o p] 65 true false)])
    ⟨λe a=>(u A L e a).1,λe a=>?_,λe a C=>?_,λi h1 s=>?_,by omega,rfl,hO,rfl,rfl⟩ D ⟨by kernel_rfl,by kernel_rfl,by kernel_rfl⟩ ⟨rfl,rfl,rfl⟩ rfl rfl ?_
   .rcases(u A L e a).2 with h|h<;>rw[h]<;>simp
   .simp only[ay,aB,bn]at a
    rcases a with rfl|rfl|rfl|rfl
    .refine⟨0,_,rfl,t0,?_⟩
     show AO.cells [.sl (θ.to 5) 0 1 none] 30 false false=_;rw[t5]
    .exact⟨1,_,rfl,t1,rfl⟩
    .exact C.elim
    .exact⟨5,_,rfl,t5,rfl⟩
   .have h1:4<=i:=h1
    have s:i<6:=s;rcases(by omega:i=4∨i=5)with rfl|rfl
    .rw[t4];omega
    .rw[t5];omega
   .have e:(uP (.ptr 0 0) (.sl (θ.inv (q+1)) 0 1 none) (st.un θ) 0).ren θ.to=uP (.ptr ob 0) (.sl (q+1) 0 1 none) st 0:=by
     show uP (.ptr (θ.to 0) 0) (.sl (θ.to (θ.inv (q+1))) 0 1 none) ((st.un θ).ren θ.to) 0=_;rw[t0,θ.ri,AV.jo]
    show dA _ _ _ ((uP (.ptr 0 0) (.sl (θ.inv (q+1)) 0 1 none) (st.un θ) 0).ren θ.to) _ _ _;rw[e];refine B' r (q+11) (q+1) _ (Old.le_trans J K) (by omega) (by omega) (by omega) (by omega) (by omega) ?_ ?_ ?_ (λk hk1 hk2=>?_)
    .simp only[dH];rw[aH trivial]
    .simp only[dH];rw[au (by omega),au (by omega),au (by omega),aH trivial]
    .simp only[dH];rw[au (by omega),au (by omega),au (by omega),au (by omega),g1];rfl
    .have O:=U k (by omega)
     simp only[dH]at O ⊢;rw[au hk2]at O ⊢;by_cases P:k=y
     .rw[aH P,P,F]
     .rw[au P,au (by omega)]at O
      rw[au P,au (by omega),au (by omega),O]
end
end
section
variable{L:List LN}{N:Nat}{R:rP}{cs:List AV}{m:Mm}{σ:List Nat}
section
variable(W:Fe)(Y:Ge)(X:∀old,Fw old)(Z:∀old,Gw old)
include W Y X Z
theorem Zl{old:Old}{ob d f y:Nat}{st:AV}{c:List AV}{x:LN}{K:List LN}(u:m ob= .cells [.sl d 0 L.length none] 30 false false)(A:m d= .cells cs 65 true false)(S:m f= .cells (nums σ) 3 true false)(hL:Aw old cs L)(hS:yh L σ K)(hLl:∀l∈L,l.args.length<=268435456∧l.kids.length<=268435456)(hn:L.length<=134217000)
 (M:m y= .cells c 65 false false)(Q:yM old c x)(hd:[ob,y,d,f].Nodup)(hN:∀z∈[ob,y,d,f],z<N)(hO:N+13<=OLD)(hI:∀k old',Old.le old old'->rQ K x k false->UQ old' σ k)
 (B1:∀old' (k:Nat),Old.le old old'->rQ K x k true->dA prog E old' (uP (.ptr ob 0) (.sl f 0 σ.length none) st k) m N R)
 (B':∀old' (k:Nat) oq' sq' J,Old.le old old'->rQ K x k false->N<=oq'->oq'<N+13->(sq'=f∨N<=sq')->sq'<N+13->oq'≠sq'->J ob= .cells [.sl oq' 0 (L.length+1) none] 30 false false->J oq'= .cells (cs++c) 65 true false->J sq'= .cells (nums (σ.take k++L.length::σ.drop k)) 3 true false->(∀k,k<N->k≠ob->k≠d->k≠f->J k=m k)->dA prog E old' (uP (.ptr ob 0) (.sl sq' 0 (σ.length+1) none) st k) J (N+13) R):
 dA prog E old (za (.ptr ob 0) (.sl f 0 σ.length none) st (.ptr y 0)) m N R:=by
 have hobN:=hN ob (by simp);have hyN:=hN y (by simp);have hoqN:=hN d (by simp);have hsqN:=hN f (by simp);have T:=hd;simp only[fJ,ay,aB,bn,not_or]at T;obtain⟨⟨d1,d2,d3⟩,⟨d4,d5⟩,d6,_⟩:=T;have U:=hL.low;obtain⟨θ,hθ⟩:=Pm.of [0,1,2,3,4,5] [ob,y,d,N,N+10,N+11] rfl (by decide) (by simp;omega) (by simp;decide) (by simp;omega);obtain⟨t0,t1,t2,t3,t4,t5⟩:θ.to 0=ob∧θ.to 1=y∧θ.to 2=d∧θ.to 3=N∧θ.to 4=N+10∧θ.to 5=N+11:=by
  have h:[θ.to 0,θ.to 1,θ.to 2,θ.to 3,θ.to 4,θ.to 5]=[ob,y,d,N,N+10,N+11]:=hθ;simp only[dO,j6]at h;exact h
 have V:=Q.low;have hln0:=Q;obtain⟨n,o,p,k1,r,s,rfl⟩:=Q.shape;have eB:(AO.cells [.sl 2 0 L.length none] 30 false false).ren θ.to= .cells [.sl d 0 L.length none] 30 false false:=by
  show AO.cells [.sl (θ.to 2) 0 L.length none] 30 false false=_;rw[t2]
 have eC:(AO.cells cs 65 true false).ren θ.to= .cells cs 65 true false:=jL θ U _ _ _;have B:∀{mm:Mm},mm ob= .cells [.sl d 0 L.length none] 30 false false->mm y= .cells [.str x.rel,.aO n o p,zI x.rule,.aO k1 r s] 65 false false->mm d= .cells cs 65 true false->∀e∈ents (zN (zL (.cells [.str x.rel,.aO n o p,zI x.rule,.aO k1 r s] 65 false false)) (.cells [.sl 2 0 L.length none] 30 false false) (zL (.cells cs 65 true false))),mm (θ.to e.1)=e.2.ren θ.to∧(θ.to e.1=ob∨θ.to e.1=y∨θ.to e.1=d):=λ{mm} h1 t I e b=>by
  have b:e∈[(0,AO.cells [.sl 2 0 L.length none] 30 false false),(1,.cells [.str x.rel,.aO n o p,zI x.rule,.aO k1 r s] 65 false false),(2,.cells cs 65 true false)]:=b;simp only[ay,aB,bn]at b;rcases b with rfl|rfl|rfl
  .exact⟨by rw[t0,h1,eB],.inl t0⟩
  .exact⟨by rw[t1,t];rfl,.inr (.inl t1)⟩
  .exact⟨by rw[t2,I,eC],.inr (.inr t2)⟩
 have hm1:dH m [(ob,.cells [.sl d 0 L.length none] 30 false false),(y,.cells [.str x.rel,.aO n o p,zI x.rule,.aO k1 r s] 65 false false),(d,.cells cs 65 true false)]=m:=funext λk=>by
  simp only[dH];by_cases h1:k=ob
  .rw[aH h1,h1,u]
  .by_cases t:k=y
   .rw[au h1,aH t,t,M]
   .by_cases I:k=d
    .rw[au h1,au t,aH I,I,A]
    .rw[au h1,au t,au I]
 refine dA.yY (X old) (Z old) (θ:=θ) (N':=N) (l:=[(ob,.cells [.sl d 0 L.length none] 30 false false),(y,.cells [.str x.rel,.aO n o p,zI x.rule,.aO k1 r s] 65 false false),(d,.cells cs 65 true false)]) ⟨λe b=>(B u M A e b).1,λe b=>?_,λe b G=>?_,λi h1 t=>?_,by omega,rfl,by omega,rfl,rfl⟩ (agk W Y old (X old) (Z old) (st.un θ) x.rel n o p x.rule k1 r s L.length (θ.inv f) σ.length none none cs true) ⟨rfl,rfl,rfl⟩ (λv=>⟨by kernel_rfl,by kernel_rfl,by kernel_rfl⟩) ?_ (R1:=λ_ v J N'=>SQ K x v∧v.low 0=true∧J=m∧N'=N) ?_ ?_
 .rcases(B u M A e b).2 with h|h|h<;>rw[h]<;>simp
 .simp only[ay,aB,bn]at b
  rcases b with rfl|rfl|rfl
  .exact⟨0,_,rfl,t0,eB⟩
  .exact⟨1,_,rfl,t1,rfl⟩
  .exact⟨2,_,rfl,t2,eC⟩
 .have h1:3<=i:=h1
  have t:i<3:=t;omega
 .show _=za (.ptr (θ.to 0) 0) (.sl (θ.to (θ.inv f)) 0 σ.length none) ((st.un θ).ren θ.to) (.ptr (θ.to 1) 0)
  rw[t0,t1,θ.ri,AV.jo]
 .rw[hm1]
  have e:AV.jC θ.to [.sl (θ.inv f) 0 σ.length none,.agg [.str x.rel,.aO n o p,zI x.rule,.aO k1 r s],.fn 23 [] [zP 0 0]]=[.sl f 0 σ.length none,.agg [.str x.rel,.aO n o p,zI x.rule,.aO k1 r s],.fn 23 [] [.ptr ob 0]]:=by
   show[AV.sl (θ.to (θ.inv f)) 0 σ.length none,.agg [.str x.rel,.aO n o p,zI x.rule,.aO k1 r s],.fn 23 [] [.ptr (θ.to 0) 0]]=_;rw[t0,θ.ri]
  rw[e];exact abx W Y X Z old u A S hL hS hLl (by omega) (λz hz=>by simp only[ay,aB,bn]at hz;rcases hz with rfl|rfl|rfl<;>omega) hln0
 .rintro a v m1 C H ⟨⟨k,was,hf,rfl⟩,_,rfl,rfl⟩
  cases was with
  |true=>
   have D:=agj W Y a (X a) (Z a) old k (st.un θ) x.rel n o p x.rule k1 r s L.length (θ.inv f) σ.length none none cs true;refine dA.lift (θ:=θ) (N':=C) (l:=[(ob,.cells [.sl d 0 L.length none] 30 false false),(y,.cells [.str x.rel,.aO n o p,zI x.rule,.aO k1 r s] 65 false false),(d,.cells cs 65 true false)]) ⟨λe b=>(B u M A e b).1,λe b=>?_,λe b G=>?_,λi h1 t=>?_,by omega,rfl,by omega,rfl,rfl⟩ D ⟨by kernel_rfl,by kernel_rfl,by kernel_rfl⟩ ⟨rfl,rfl,rfl⟩ rfl rfl ?_
   .rcases(B u M A e b).2 with h|h|h<;>rw[h]<;>simp
   .simp only[ay,aB,bn]at b
    rcases b with rfl|rfl|rfl
    .exact⟨0,_,rfl,t0,eB⟩
    .exact⟨1,_,rfl,t1,rfl⟩
    .exact⟨2,_,rfl,t2,eC⟩
   .have h1:3<=i:=h1
    have t:i<3:=t;omega
   .have e:(uP (.ptr 0 0) (.sl (θ.inv f) 0 σ.length none) (st.un θ) k).ren θ.to=uP (.ptr ob 0) (.sl f 0 σ.length none) st k:=by
     show uP (.ptr (θ.to 0) 0) (.sl (θ.to (θ.inv f)) 0 σ.length none) ((st.un θ).ren θ.to) k=_;rw[t0,θ.ri,AV.jo]
    show dA _ _ _ ((uP (.ptr 0 0) (.sl (θ.inv f) 0 σ.length none) (st.un θ) k).ren θ.to) _ _ _;rw[e,hm1];exact B1 a k H hf
  |false=>
  refine dA.yY (X a) (Z a) (θ:=θ) (N':=C+1) (l:=[(ob,.cells [.sl d 0 L.length none] 30 false false),(y,.cells [.str x.rel,.aO n o p,zI x.rule,.aO k1 r s] 65 false false),(d,.cells cs 65 true false),(C,.cells [zI L.length] 3 false false)]) ⟨λe b=>(B u M A e b).1,λe b=>?_,λe b G=>?_,λi h1 t=>?_,by omega,rfl,by omega,rfl,rfl⟩ (agh W Y a (X a) (Z a) old k (st.un θ) x.rel n o p x.rule k1 r s L.length (θ.inv f) σ.length none none cs true) ⟨by kernel_rfl,by kernel_rfl,by kernel_rfl⟩ (λv=>⟨by kernel_rfl,by kernel_rfl,by kernel_rfl⟩) rfl
   (R1:=λ_ w J N'=>∃q,w= .sl q 0 (σ.length+1) none∧(q=f∨(C+1<=q∧q<N'))∧J q= .cells (nums (σ.take k)++zI L.length::nums (σ.drop k)) 3 true false∧C+1<=N'∧N'<=C+1+8∧∀j,j<C+1->j≠f->j≠C->J j=dH m1 [(ob,.cells [.sl d 0 L.length none] 30 false false),(y,.cells [.str x.rel,.aO n o p,zI x.rule,.aO k1 r s] 65 false false),(d,.cells cs 65 true false),(C,.cells [zI L.length] 3 false false)] j) ?_ ?_
  .rcases(B u M A e b).2 with h|h|h<;>rw[h]<;>simp
  .simp only[ay,aB,bn]at b
   rcases b with rfl|rfl|rfl|rfl
   .exact⟨0,_,rfl,t0,eB⟩
   .exact⟨1,_,rfl,t1,rfl⟩
   .exact⟨2,_,rfl,t2,eC⟩
   .exact⟨3,_,rfl,t3,rfl⟩
  .have h1:3<=i:=h1
   have t:i<4:=t;obtain rfl:i=3:=by omega
   rw[t3];omega
  .have e:AV.jC θ.to [.sl (θ.inv f) 0 σ.length none,zI k,.sl 3 0 1 (some 1)]=[.sl f 0 σ.length none,zI k,.sl C 0 1 (some 1)]:=by
    show[AV.sl (θ.to (θ.inv f)) 0 σ.length none,zI k,.sl (θ.to 3) 0 1 (some 1)]=_;rw[t3,θ.ri]
   rw[e];exact hI k a H hf _ (C+1) f C L.length (by simp only[dH];rw[au (by omega),au (by omega),au (by omega),au (by omega)];exact S) (by simp only[dH];rw[au (by omega),au (by omega),au (by omega),aH trivial]) (by omega) (by omega) (by omega) (by omega)
  .rintro F w m2 N2 hle2 ⟨q,rfl,g0,g1,g3,g4,g2⟩
   have O:m2 ob= .cells [.sl d 0 L.length none] 30 false false:=by rw[g2 ob (by omega) (by omega) (by omega)];simp only[dH];rw[aH trivial]
   have hy2:m2 y= .cells [.str x.rel,.aO n o p,zI x.rule,.aO k1 r s] 65 false false:=by rw[g2 y (by omega) (by omega) (by omega)];simp only[dH];rw[au (by omega),aH trivial]
   have P:m2 d= .cells cs 65 true false:=by rw[g2 d (by omega) (by omega) (by omega)];simp only[dH];rw[au (by omega),au (by omega),aH trivial]
   let HA:AH:=⟨zN (zL (.cells [.str x.rel,.aO n o p,zI x.rule,.aO k1 r s] 65 false false)) (.cells [.sl 2 0 L.length none] 30 false false) (zN (zL (.cells [.str x.rel,.aO n o p,zI x.rule,.aO k1 r s] 65 false false)) (.cells cs 65 true false) .e),5,0⟩;have hA:=rM (E:=E.wo F) (ts:=30) (tx:=30) (e:=65) (sz:=4) (h:=HA) (by kernel_rfl) (id:=2) (len:=L.length) (id2:=4) (off2:=0) (cc:=some 1) (vs:=cs) (cs:=[.str x.rel,.aO n o p,zI x.rule,.aO k1 r s]) rfl hL.len (by omega) rfl rfl rfl;have D:=agd W Y F (X F) (Z F) old a k (θ.inv q) (σ.length+1) none (st.un θ) x.rel n o p x.rule k1 r s L.length (θ.inv f) σ.length none none cs true (L.length+1) 5 none _ _ hA (gD (h:=(HA.put 2 .dead).new (.cells (cs++[.str x.rel,.aO n o p,zI x.rule,.aO k1 r s]) 65 true false)) (id:=0) (off:=0) (l:=[.sl 2 0 L.length none]) (vs:=[.sl 5 0 (L.length+1) none]) (e:=30) (g:=false) rfl (by simp) rfl);refine dA.lift (θ:=θ) (N':=C+13) (l:=[(ob,.cells [.sl (C+11) 0 (L.length+1) none] 30 false false),(y,.cells [.str x.rel,.aO n o p,zI x.rule,.aO k1 r s] 65 false false),(d,.dead),(C+10,.dead),(C+11,.cells (cs++[.str x.rel,.aO n o p,zI x.rule,.aO k1 r s]) 65 true false)])
    ⟨λe b=>(B O hy2 P e b).1,λe b=>?_,λe b G=>?_,λi h1 t=>?_,by omega,rfl,hO,rfl,rfl⟩ D ⟨by kernel_rfl,by kernel_rfl,by kernel_rfl⟩ ⟨rfl,rfl,rfl⟩ rfl rfl ?_
   .rcases(B O hy2 P e b).2 with h|h|h<;>rw[h]<;>simp
   .simp only[ay,aB,bn]at b
    rcases b with rfl|rfl|rfl|rfl|rfl
    .refine⟨0,_,rfl,t0,?_⟩
     show AO.cells [.sl (θ.to 5) 0 (L.length+1) none] 30 false false=_;rw[t5]
    .exact⟨1,_,rfl,t1,rfl⟩
    .exact G.elim
    .exact G.elim
    .exact⟨5,_,rfl,t5,jL θ (qJ U V) _ _ _⟩
   .have h1:4<=i:=h1
    have t:i<6:=t;rcases(by omega:i=4∨i=5)with rfl|rfl
    .rw[t4];omega
    .rw[t5];omega
   .have e:(uP (.ptr 0 0) (.sl (θ.inv q) 0 (σ.length+1) none) (st.un θ) k).ren θ.to=uP (.ptr ob 0) (.sl q 0 (σ.length+1) none) st k:=by
     show uP (.ptr (θ.to 0) 0) (.sl (θ.to (θ.inv q)) 0 (σ.length+1) none) ((st.un θ).ren θ.to) k=_;rw[t0,θ.ri,AV.jo]
    show dA _ _ _ ((uP (.ptr 0 0) (.sl (θ.inv q) 0 (σ.length+1) none) (st.un θ) k).ren θ.to) _ _ _;rw[e];have hnm:nums (σ.take k)++zI L.length::nums (σ.drop k)=nums (σ.take k++L.length::σ.drop k):=by unfold nums;rw[jY,lW]
    refine B' F k (C+11) q _ (Old.le_trans H hle2) hf (by omega) (by omega) (by omega) (by omega) (by omega) ?_ ?_ ?_ (λj hk1 hk2 hk3 hk4=>?_)
    .simp only[dH];rw[aH trivial]
    .simp only[dH];rw[au (by omega),au (by omega),au (by omega),au (by omega),aH trivial]
    .simp only[dH];rw[au (by omega),au (by omega),au (by omega),au (by omega),au (by omega),g1,hnm]
    .have I:=g2 j (by omega) hk4 (by omega)
     simp only[dH]at I ⊢;rw[au hk2]at I ⊢;by_cases h4:j=y
     .rw[aH h4,h4,M]
     .rw[au h4,au hk3,au (by omega)]at I
      rw[au h4,au hk3,au (by omega),au (by omega),I]
end
end
section
variable{N x:Nat}{R:rP}{S:List AV}{cp:Option Nat}{m:Mm}{σ:List Nat}
section
variable(W:Fe)(Y:Ge)(X:∀old,Fw old)(Z:∀old,Gw old)
include W Y X Z
theorem fup{old:Old}{s c w k:Nat}{B p M:AV}{g:Bool}{num:Nat}{ids:List Int}
 (O:m s= .cells S 56 g false)(hx:m x= .cells [p,M] 58 false false)(o:m c= .cells (nums σ) 3 true false)(hT:S[w]? =some (.ptr x 0))(Q:UO m M ids)(v:σ[k]? =some num)(hw:w<=268435456)(hids:ids.length<=134217000)
 (hd:[s,x,c].Nodup)(T:∀z∈[s,x,c],z<N)(U:∀q,PG M q->q<N∧q≠s∧q≠x∧q≠c)(hO:N+3<=OLD)
 (B':∀H q P,H= .sl q 0 (ids.length+1) none->N<=q->q<N+3->P x= .cells [p,H] 58 false false->P q= .cells ((ids++[(num:Int)]).map zI) 3 true false->(∀j,j<N->j≠x->¬PG M j->P j=m j)->dA prog E old (IJ B (.sl c 0 σ.length none) (.sl s 0 (w+1) cp)) P (N+3) R):
 dA prog E old (uP B (.sl c 0 σ.length none) (.sl s 0 (w+1) cp) k) m N R:=by
 have hsN:=T s (by simp);have hxN:=T x (by simp);have hsqN:=T c (by simp);have I:=hd;simp only[fJ,ay,aB,bn,not_or]at I;obtain⟨⟨d1,d2⟩,d3,_⟩:=I;have hi:IntKind.i64.wrap ((↑(w+1):Int) - 1)=(↑w:Int):=by rw[dW (by omega) (by omega)];omega
 have lx:k<σ.length:=(aJ.1 v).1;have r:=kU (GQ σ);have y:∀h:AH,h.obj 2= .cells (nums σ) 3 true false->loadT (E.wo old) h 3 2 (k*1)=some (zI num):=λh J=>lD (by kernel_rfl) rfl J (by rw[bW];unfold nums;rw[eu,v];rfl);have go:∀(θ:Pm),θ.to 0=s->θ.to 1=x->θ.to 2=c->θ.to 4=N->θ.to 5=N+1->∀(l:List (Nat×AO)) (h0 A:AH),DS old (uP (B.un θ) (.sl 2 0 σ.length none) (.sl 0 0 (w+1) cp) k) h0 (IJ (B.un θ) (.sl 2 0 σ.length none) (.sl 0 0 (w+1) cp)) A->Lift θ m l N (N+3) h0 A->dA prog E old (IJ B (.sl c 0 σ.length none) (.sl s 0 (w+1) cp)) (dH m l) (N+3) R->dA prog E old (uP B (.sl c 0 σ.length none) (.sl s 0 (w+1) cp) k) m N R:=λθ t0 t1 t2 t4 t5 l h0 A D L BB=>by
  refine dA.lift (θ:=θ) L D ⟨rfl,rfl,rfl⟩ ⟨rfl,rfl,rfl⟩ ?_ ?_ BB
  .show _=uP ((B.un θ).ren θ.to) (.sl (θ.to 2) 0 σ.length none) (.sl (θ.to 0) 0 (w+1) cp) k
   rw[t0,t2,AV.jo]
  .show IJ ((B.un θ).ren θ.to) (.sl (θ.to 2) 0 σ.length none) (.sl (θ.to 0) 0 (w+1) cp)=_
   rw[t0,t2,AV.jo]
 have t:∀(θ:Pm) (a:AV),(AO.cells [p.un θ,a] 58 false false).ren θ.to= .cells [p,a.ren θ.to] 58 false false:=λθ a=>by
  show AO.cells [(p.un θ).ren θ.to,a.ren θ.to] 58 false false=_;rw[AV.jo]
 rcases Q with⟨rfl,rfl⟩|⟨q,rfl,hq,hq0⟩
 .obtain⟨θ,C⟩:=Pm.of [0,1,2,3,4,5] [s,x,c,N+2,N,N+1] rfl (by decide) (by simp;omega) (by simp;decide) (by simp;omega)
  obtain⟨t0,t1,t2,t3,t4,t5⟩:θ.to 0=s∧θ.to 1=x∧θ.to 2=c∧θ.to 3=N+2∧θ.to 4=N∧θ.to 5=N+1:=by
   have h:[θ.to 0,θ.to 1,θ.to 2,θ.to 3,θ.to 4,θ.to 5]=[s,x,c,N+2,N,N+1]:=C;simp only[dO,j6]at h;exact h
  have V:(AV.ptr x 0).un θ= .ptr 1 0:=by show AV.ptr (θ.inv x) _=_;rw[← t1,θ.li]
  have f:∀h:AH,h.obj 0= .cells (fQ θ S) 56 g false->loadT (E.wo old) h 56 0 (w*1)=some (.ptr 1 0):=λh J=>lD (by kernel_rfl) rfl J (by rw[bW,tK hT,V]);let G:AH:=⟨zN (zL (.cells [p.un θ,.aM] 58 false false)) (.cells (fQ θ S) 56 g false) (zN (zL (pJ num)) (.cells (nums σ) 3 true false) .e),5,0⟩;have hA:jv (E.wo old) G .append [.aM,.sl 4 0 1 (some 1)] [55,55]=some (.val (.sl 5 0 1 none) (G.new (.cells [zI num] 3 true false))):=by kernel_rfl
  have D:=agc W Y old (X old) (Z old) (B.un θ) (p.un θ) (fQ θ S) (nums σ) g true cp none w σ.length hw hi f k k rfl lx num y 1 5 none _ _ hA (gD (h:=G.new (.cells [zI num] 3 true false)) (id:=1) (off:=1) (l:=[p.un θ,.aM]) (vs:=[.sl 5 0 1 none]) (e:=58) (g:=false) rfl (by simp) rfl) (aA (by omega));have d:∀e∈ents (zN (zL (.cells [p.un θ,.aM] 58 false false)) (.cells (fQ θ S) 56 g false) (zL (.cells (nums σ) 3 true false))),m (θ.to e.1)=e.2.ren θ.to∧(θ.to e.1=s∨θ.to e.1=x∨θ.to e.1=c):=λe b=>by
   have b:e∈[(0,AO.cells (fQ θ S) 56 g false),(1,.cells [p.un θ,.aM] 58 false false),(2,.cells (nums σ) 3 true false)]:=b;simp only[ay,aB,bn]at b;rcases b with rfl|rfl|rfl
   .exact⟨by rw[t0,O,iT],.inl t0⟩
   .exact⟨by rw[t1,hx,t];rfl,.inr (.inl t1)⟩
   .exact⟨by rw[t2,o,jL θ r],.inr (.inr t2)⟩
  refine go θ t0 t1 t2 t4 t5 [(s,.cells S 56 g false),(x,.cells [p,.sl (N+1) 0 1 none] 58 false false),(c,.cells (nums σ) 3 true false),(N,.dead),(N+1,.cells [zI num] 3 true false)] _ _ D ⟨λe b=>(d e b).1,λe b=>?_,λe b u=>?_,λi h1 n=>?_,by omega,rfl,hO,rfl,rfl⟩ ?_
  .rcases(d e b).2 with h|h|h<;>rw[h]<;>simp
  .simp only[ay,aB,bn]at b
   rcases b with rfl|rfl|rfl|rfl|rfl
   .exact⟨0,_,rfl,t0,iT _ _ _ _ _⟩
   .refine⟨1,_,rfl,t1,?_⟩
    show(AO.cells [p.un θ,.sl 5 0 1 none] 58 false false).ren θ.to=_;rw[t];show AO.cells [p,.sl (θ.to 5) 0 1 none] 58 false false=_;rw[t5]
   .exact⟨2,_,rfl,t2,jL θ r _ _ _⟩
   .exact u.elim
   .exact⟨5,_,rfl,t5,rfl⟩
  .have h1:4<=i:=h1
   have n:i<6:=n;rcases(by omega:i=4∨i=5)with rfl|rfl
   .rw[t4];omega
   .rw[t5];omega
  .refine B' _ (N+1) _ rfl (by omega) (by omega) ?_ ?_ (λj h1 n h3=>?_)
   .simp only[dH];rw[au (by omega),aH trivial];rfl
   .simp only[dH];rw[au (by omega),au (by omega),au (by omega),au (by omega),aH trivial];rfl
   .simp only[dH]
    by_cases k1:j=s
    .rw[aH k1,k1,O]
    .by_cases F:j=c
     .rw[au k1,au n,aH F,F,o]
     .rw[au k1,au n,au F,au (by omega),au (by omega)]
 .obtain⟨hqN,hqs,hqx,hqq⟩:=U q ⟨_,_,_,rfl⟩
  obtain⟨θ,C⟩:=Pm.of [0,1,2,3,4,5] [s,x,c,q,N,N+1] rfl (by decide) (by simp;omega) (by simp;decide) (by simp;omega);obtain⟨t0,t1,t2,t3,t4,t5⟩:θ.to 0=s∧θ.to 1=x∧θ.to 2=c∧θ.to 3=q∧θ.to 4=N∧θ.to 5=N+1:=by
   have h:[θ.to 0,θ.to 1,θ.to 2,θ.to 3,θ.to 4,θ.to 5]=[s,x,c,q,N,N+1]:=C;simp only[dO,j6]at h;exact h
  have K:=kU (Ny ids);have V:(AV.ptr x 0).un θ= .ptr 1 0:=by show AV.ptr (θ.inv x) _=_;rw[← t1,θ.li]
  have f:∀h:AH,h.obj 0= .cells (fQ θ S) 56 g false->loadT (E.wo old) h 56 0 (w*1)=some (.ptr 1 0):=λh J=>lD (by kernel_rfl) rfl J (by rw[bW,tK hT,V]);let G:AH:=(yC (.cells (ids.map zI) 3 true false) (.cells [p.un θ,.sl 3 0 ids.length none] 58 false false) (.cells (fQ θ S) 56 g false) (pJ num) (.cells (nums σ) 3 true false));have hA:=rM (E:=E.wo old) (ts:=55) (tx:=55) (e:=3) (sz:=1) (h:=G) (by kernel_rfl) (id:=3) (len:=ids.length) (id2:=4) (off2:=0) (cc:=some 1) (vs:=ids.map zI) (cs:=[zI num]) rfl (by rw[bH,bW]) (by omega) rfl rfl rfl;have D:=agb W Y old (X old) (Z old) (B.un θ) (p.un θ) (fQ θ S) (nums σ) g true cp none w σ.length hw hi f k k rfl lx num y (ids.map zI) true ids.length none (ids.length+1) 5 none _ _ hA (gD (h:=(G.put 3 .dead).new (.cells (ids.map zI++[zI num]) 3 true false)) (id:=1) (off:=1) (l:=[p.un θ,.sl 3 0 ids.length none]) (vs:=[.sl 5 0 (ids.length+1) none]) (e:=58) (g:=false) rfl (by simp) rfl) (aA (by omega));have d:∀e∈ents (zN (zN (zL (.cells (ids.map zI) 3 true false)) (.cells [p.un θ,.sl 3 0 ids.length none] 58 false false) .e) (.cells (fQ θ S) 56 g false) (zL (.cells (nums σ) 3 true false))),m (θ.to e.1)=e.2.ren θ.to∧(θ.to e.1=s∨θ.to e.1=x∨θ.to e.1=c∨θ.to e.1=q):=λe b=>by
   have b:e∈[(0,AO.cells (fQ θ S) 56 g false),(1,.cells [p.un θ,.sl 3 0 ids.length none] 58 false false),(3,.cells (ids.map zI) 3 true false),(2,.cells (nums σ) 3 true false)]:=b;simp only[ay,aB,bn]at b;rcases b with rfl|rfl|rfl|rfl
   .exact⟨by rw[t0,O,iT],.inl t0⟩
   .refine⟨?_,.inr (.inl t1)⟩
    rw[t1,hx,t];show _=AO.cells [p,.sl (θ.to 3) 0 ids.length none] 58 false false;rw[t3]
   .exact⟨by rw[t3,hq,jL θ K],.inr (.inr (.inr t3))⟩
   .exact⟨by rw[t2,o,jL θ r],.inr (.inr (.inl t2))⟩
  refine go θ t0 t1 t2 t4 t5 [(s,.cells S 56 g false),(x,.cells [p,.sl (N+1) 0 (ids.length+1) none] 58 false false),(c,.cells (nums σ) 3 true false),(q,.dead),(N,.dead),(N+1,.cells (ids.map zI++[zI num]) 3 true false)] _ _ D ⟨λe b=>(d e b).1,λe b=>?_,λe b u=>?_,λi h1 n=>?_,by omega,rfl,hO,rfl,rfl⟩ ?_
  .rcases(d e b).2 with h|h|h|h<;>rw[h]<;>simp
  .simp only[ay,aB,bn]at b
   rcases b with rfl|rfl|rfl|rfl|rfl|rfl
   .exact⟨0,_,rfl,t0,iT _ _ _ _ _⟩
   .refine⟨1,_,rfl,t1,?_⟩
    show(AO.cells [p.un θ,.sl 5 0 (ids.length+1) none] 58 false false).ren θ.to=_;rw[t];show AO.cells [p,.sl (θ.to 5) 0 (ids.length+1) none] 58 false false=_;rw[t5]
   .exact⟨2,_,rfl,t2,jL θ r _ _ _⟩
   .exact u.elim
   .exact u.elim
   .exact⟨5,_,rfl,t5,jL θ (qJ K rfl) _ _ _⟩
  .have h1:4<=i:=h1
   have n:i<6:=n;rcases(by omega:i=4∨i=5)with rfl|rfl
   .rw[t4];omega
   .rw[t5];omega
  .refine B' _ (N+1) _ rfl (by omega) (by omega) ?_ ?_ (λj h1 n h3=>?_)
   .simp only[dH];rw[au (by omega),aH trivial]
   .simp only[dH];rw[au (by omega),au (by omega),au (by omega),au (by omega),au (by omega),aH trivial,jY];rfl
   .have h4:¬j=q:=λe=>h3 ⟨_,_,_,by rw[e]⟩
    simp only[dH];by_cases k1:j=s
    .rw[aH k1,k1,O]
    .by_cases F:j=c
     .rw[au k1,au n,aH F,F,o]
     .rw[au k1,au n,au F,au h4,au (by omega),au (by omega)]
end
end
end Go.Ev
