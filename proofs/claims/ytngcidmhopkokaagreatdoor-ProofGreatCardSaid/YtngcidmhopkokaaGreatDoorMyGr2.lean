/- A part of the proof that ProofGreat returns true. -/
import Derived.Test.YtngcidmhopkokaaGreatDoorMyGr1
import Derived.Test.YtngcidmhopkokaaGreatDoorMyEv4
import Derived.Test.YtngcidmhopkokaaGreatDoorMyStates
import Derived.Test.YtngcidmhopkokaaGreatDoorMyEv5
set_option linter.all false
namespace Go.Ev
open Go.Proofs Go.Proofs.Tryz
set_option maxRecDepth 100000
section
theorem NA{E:Env}{t e:TypeId}{z:Nat}(a:E.d t=some (.slice e))(f:(E.tt.get e).map (·.size)=some z)(hp:E.peek=true){b o n c:Nat}(lx:0<n):aR E t (l9 E (.aO (some (b,o)) n c)) (zI 0)=some (.ptr (OLD+b) (o+0)):=by
 have:=gL a f hp (b:=b) (o:=o) (c:=c) (i:=0) (x:=0) rfl lx;rwa[jJ]at this
variable(Y:Fe)(Z:Ge)
include Y Z
section
variable(X:Old)(F:Fw X)(J:Gw X)(B y:AV)(S:List AV)(g:Bool)(R:Option Nat)(w:Nat)(D:w<=268435456)(K:IntKind.i64.wrap ((↑(w+1):Int) - 1)=(↑w:Int))(W:∀h:AH,h.obj 0= .cells S 56 g false->loadT (E.wo X) h 56 0 (w*1)=some (.ptr 1 0))(U V:Nat)(H:Option (Nat×Nat))(M G:Nat)(A:∀h:AH,loadT (E.wo X) h 26 (OLD+U) (V+3)=some (.aO H M G))(T:List UInt8)(N:Option (Nat×Nat))(O L:Nat)(P:Int)(z:∀h:AH,loadT (E.wo X) h 25 (OLD+U) V=some (mK T N O L))(C:∀h:AH,loadT (E.wo X) h 3 (OLD+U) (V+2)=some (zI P))(Q:iN (E.wo X) 59 (.sl 0 0 (w+1) R) none (some (zI (IntKind.i64.wrap ((↑(w+1):Int) - 1)))) none=some (.sl 0 0 w R))
include X F J B y S g R w D K W U V H M G A T N O L P z C Q
theorem Jb(b:List AV)(d:Bool)(a:Option Nat)(i:M<=0)(f:DC X 21 [mK T N O L] (Dm U V S g) (.agg [.str T,.sl 2 0 O a]) (bG (XV U V) (.cells S 56 g false) (.cells b 94 d false))):DR X (ent (E.wo X) 20 [.sl 0 0 (w+1) R]) (lZ U V S g) (Ya3 w R) (lZ U V S g):=
 prt F J (Qd 6 [.c,.c,.c,.c,.v (.sl 0 0 w R),.c,.c,.c,.c,.v (zP 0 (w*1)),.v (zP 1 0),.c,.c] (Qq Q (Qq (jf (e:=56) (by kernel_rfl) (by kernel_rfl) K (cB w):aR (E.wo X) 59 (l9 (E.wo X) (.sl 0 0 (w+1) R)) (zI (IntKind.i64.wrap ((↑(w+1):Int) - 1)))=some (zP 0 (w*1))) (Qq (W (lZ U V S g) rfl) (Qp (W (lZ U V S g) rfl) (Qs (zI (↑(w+1):Int)) (Qs (zI (↑(w+1):Int)) (Qn 1)))))))) (by kernel_rfl)
theorem Ja(b:M<=0)(a:DC X 21 [mK T N O L] (Dm U V S g) (U3 T) (Dm U V S g)):DR X (ent (E.wo X) 20 [.sl 0 0 (w+1) R]) (lZ U V S g) (Ya3 w R) (lZ U V S g):=
 prt F J (Qd 6 [.c,.c,.c,.c,.v (.sl 0 0 w R),.c,.c,.c,.c,.v (zP 0 (w*1)),.v (zP 1 0),.c,.c] (Qq Q (Qq (jf (e:=56) (by kernel_rfl) (by kernel_rfl) K (cB w):aR (E.wo X) 59 (l9 (E.wo X) (.sl 0 0 (w+1) R)) (zI (IntKind.i64.wrap ((↑(w+1):Int) - 1)))=some (zP 0 (w*1))) (Qq (W (lZ U V S g) rfl) (Qp (W (lZ U V S g) rfl) (Qs (zI (↑(w+1):Int)) (Qs (zI (↑(w+1):Int)) (Qn 1)))))))) (by kernel_rfl)
theorem I9(a j:Nat)(b:Option Nat)(f:List AV)(i:Bool)(d:Option Nat)(l:M<=j)(k:DC X 21 [mK T N O L] (Dk U V a j b S g) (.agg [.str T,.sl 2 0 O d]) (bG (XU U V a j b) (.cells S 56 g false) (.cells f 94 i false))):DR X (ent (E.wo X) 20 [.sl 0 0 (w+1) R]) (lY U V a j b S g) (Ya3 w R) (lY U V a j b S g):=
 prt F J (Qd 6 [.c,.c,.c,.c,.v (.sl 0 0 w R),.c,.c,.c,.c,.v (zP 0 (w*1)),.v (zP 1 0),.c,.c] (Qq Q (Qq (jf (e:=56) (by kernel_rfl) (by kernel_rfl) K (cB w):aR (E.wo X) 59 (l9 (E.wo X) (.sl 0 0 (w+1) R)) (zI (IntKind.i64.wrap ((↑(w+1):Int) - 1)))=some (zP 0 (w*1))) (Qq (W (lY U V a j b S g) rfl) (Qp (W (lY U V a j b S g) rfl) (Qs (zI (↑(w+1):Int)) (Qs (zI (↑(w+1):Int)) (Qn 1)))))))) (by kernel_rfl)
theorem I8(a j:Nat)(b:Option Nat)(f:M<=j)(d:DC X 21 [mK T N O L] (Dk U V a j b S g) (U3 T) (Dk U V a j b S g)):DR X (ent (E.wo X) 20 [.sl 0 0 (w+1) R]) (lY U V a j b S g) (Ya3 w R) (lY U V a j b S g):=
 prt F J (Qd 6 [.c,.c,.c,.c,.v (.sl 0 0 w R),.c,.c,.c,.c,.v (zP 0 (w*1)),.v (zP 1 0),.c,.c] (Qq Q (Qq (jf (e:=56) (by kernel_rfl) (by kernel_rfl) K (cB w):aR (E.wo X) 59 (l9 (E.wo X) (.sl 0 0 (w+1) R)) (zI (IntKind.i64.wrap ((↑(w+1):Int) - 1)))=some (zP 0 (w*1))) (Qq (W (lY U V a j b S g) rfl) (Qp (W (lY U V a j b S g) rfl) (Qs (zI (↑(w+1):Int)) (Qs (zI (↑(w+1):Int)) (Qn 1)))))))) (by kernel_rfl)
end
section
variable(X:Old)(F:Fw X)(O:Gw X)(B J:AV)(S:List AV)(g:Bool)(Q:Option Nat)(w:Nat)(M:w<=268435456)(L:IntKind.i64.wrap ((↑(w+1):Int) - 1)=(↑w:Int))(R:∀h:AH,h.obj 0= .cells S 56 g false->loadT (E.wo X) h 56 0 (w*1)=some (.ptr 1 0))(V W:Nat)(T U P N:Nat)(K:∀h:AH,loadT (E.wo X) h 26 (OLD+V) (W+3)=some (.aO (some (T,U)) P N))
include X F O B J S g Q w M L R V W T U P N K
theorem Lh(c:0<P)(sn:Nat)(cp2:Option Nat)(a:AH)(b:jv (E.wo X) (iK Qw (XV V W) (.cells S 56 g false) (.cells [.ptr (OLD+T) (U+0*4),.aM] 58 false false)) .append [.sl 0 0 (w+1) Q,.sl 3 0 1 (some 1)] [59,59]=some (.val (.sl sn 0 (w+2) cp2) a)):DR X (ent (E.wo X) 19 [.sl 0 0 (w+1) Q,.sl 3 0 1 (some 1)]) (iK ZV (OL V W) (.cells S 56 g false) (.cells [zP (1152921504606846976+T) (U+0),.aM] 58 false false)) (.sl sn 0 (w+2) cp2) a:=
 prt F O (Ql 8 b (Qn 3)) (by kernel_rfl)
theorem Lg(a j:Nat)(b:Option Nat)(e:j<P)(sn:Nat)(cp2:Option Nat)(c:AH)(d:jv (E.wo X) (iK Qw (XU V W a j b) (.cells S 56 g false) (UJ T U j)) .append [.sl 0 0 (w+1) Q,.sl 3 0 1 (some 1)] [59,59]=some (.val (.sl sn 0 (w+2) cp2) c)):DR X (ent (E.wo X) 19 [.sl 0 0 (w+1) Q,.sl 3 0 1 (some 1)]) (iK ZV (OJ V W a j b) (.cells S 56 g false) (.cells [zP (1152921504606846976+T) (U+j*4),.aM] 58 false false)) (.sl sn 0 (w+2) cp2) c:=
 prt F O (Ql 8 d (Qn 3)) (by kernel_rfl)
end
theorem fq1(old:Old)(F:Fw old)(FF:Gw old)(a:Old)(b q m c:Nat):DS old (gX prog (E.wo a) [.n 1] (SI (.ptr (OLD+b) 0)) ⟨.e,0,0⟩ (ZW q m c)) ⟨.e,0,0⟩ (zy (.sl 2 0 1 (some 1)) (zP 0 0) .aM) (bG (.cells [zP (1152921504606846976+b) 0,.aM] 58 false false) OI (.cells [zP 1 0] 56 false false)):=
 jK F FF [2,5,6,7] (Qn 31) (by kernel_rfl)
section
variable(X:Old)(F:Fw X)(M:Gw X)(B N:AV)(S:List AV)(g:Bool)(Q:Option Nat)(w:Nat)(J:w<=268435456)(K:IntKind.i64.wrap ((↑(w+1):Int) - 1)=(↑w:Int))(W:∀h:AH,h.obj 0= .cells S 56 g false->loadT (E.wo X) h 56 0 (w*1)=some (.ptr 1 0))(U V:Nat)(R T P L:Nat)(O:∀h:AH,loadT (E.wo X) h 26 (OLD+U) (V+3)=some (.aO (some (R,T)) P L))
include X F M B N S g Q w J K W U V R T P L O
theorem agn(b:0<P)(sn:Nat)(cp2:Option Nat)(a:AH)(c:jv (E.wo X) (iK Qw (XV U V) (.cells S 56 g false) (.cells [.ptr (OLD+R) (T+0*4),.aM] 58 false false)) .append [.sl 0 0 (w+1) Q,.sl 3 0 1 (some 1)] [59,59]=some (.val (.sl sn 0 (w+2) cp2) a))(d:(decide ((↑(w+1):Int)>0))=true)(o2:(decide (0<(↑P:Int)))=true):DS X (zy (.sl 0 0 (w+1) Q) B N) (Dm U V S g) (zy (.sl sn 0 (w+2) cp2) B N) a:=
 jK F M [2,5,6,7] (Qb 5 d (Qv 10 (jf (e:=56) (by kernel_rfl) (by kernel_rfl) K (cB w):aR (E.wo X) 59 (l9 (E.wo X) (.sl 0 0 (w+1) Q)) (zI (IntKind.i64.wrap ((↑(w+1):Int) - 1)))=some (zP 0 (w*1))) (Qv 0 (W (lZ U V S g) rfl) (Qv 21 (O (lZ U V S g)) (Qb 1 o2 (Qv 11 (O (lZ U V S g)) (Qv 1 (NA (e:=28) (z:=4) (by kernel_rfl) (by kernel_rfl) rfl b:aR (E.wo X) 26 (l9 (E.wo X) (.aO (some (R,T)) P L)) (zI 0)=some (zP (1152921504606846976+R) (T+0))) (Qk 3 (DoesC.ent M (by kernel_rfl) (Lh Y Z X F M B N S g Q w J K W U V R T P L O b sn cp2 a c ):DC X 19 [.sl 0 0 (w+1) Q,.sl 3 0 1 (some 1)] (iK ZV (OL U V) (.cells S 56 g false) (.cells [zP (1152921504606846976+R) (T+0),.aM] 58 false false)) (.sl sn 0 (w+2) cp2) a) (Qn 4))))))))) (by kernel_rfl)
theorem agm(a j:Nat)(b:Option Nat)(d:j<P)(sn:Nat)(cp2:Option Nat)(c:AH)(f:jv (E.wo X) (iK Qw (XU U V a j b) (.cells S 56 g false) (UJ R T j)) .append [.sl 0 0 (w+1) Q,.sl 3 0 1 (some 1)] [59,59]=some (.val (.sl sn 0 (w+2) cp2) c))(i:(decide ((↑(w+1):Int)>0))=true)(o2:(decide ((↑j:Int)<(↑P:Int)))=true):DS X (zy (.sl 0 0 (w+1) Q) B N) (Dk U V a j b S g) (zy (.sl sn 0 (w+2) cp2) B N) c:=
 jK F M [2,5,6,7] (Qb 5 i (Qv 10 (jf (e:=56) (by kernel_rfl) (by kernel_rfl) K (cB w):aR (E.wo X) 59 (l9 (E.wo X) (.sl 0 0 (w+1) Q)) (zI (IntKind.i64.wrap ((↑(w+1):Int) - 1)))=some (zP 0 (w*1))) (Qv 0 (W (lY U V a j b S g) rfl) (Qv 21 (O (lY U V a j b S g)) (Qb 1 o2 (Qv 11 (O (lY U V a j b S g)) (Qv 1 (gL (e:=28) (by kernel_rfl) (by kernel_rfl) rfl (by rfl) d:aR (E.wo X) 26 (l9 (E.wo X) (.aO (some (R,T)) P L)) (zI (↑j:Int))=some (zP (1152921504606846976+R) (T+j*4))) (Qk 3 (DoesC.ent M (by kernel_rfl) (Lg Y Z X F M B N S g Q w J K W U V R T P L O a j b d sn cp2 c f ):DC X 19 [.sl 0 0 (w+1) Q,.sl 3 0 1 (some 1)] (iK ZV (OJ U V a j b) (.cells S 56 g false) (.cells [zP (1152921504606846976+R) (T+j*4),.aM] 58 false false)) (.sl sn 0 (w+2) cp2) c) (Qn 4))))))))) (by kernel_rfl)
end
section
variable(V:Old)(F:Fw V)(H:Gw V)(B J:AV)(S:List AV)(g:Bool)(Q:Option Nat)(w:Nat)(y:w<=268435456)(D:IntKind.i64.wrap ((↑(w+1):Int) - 1)=(↑w:Int))(R:∀h:AH,h.obj 0= .cells S 56 g false->loadT (E.wo V) h 56 0 (w*1)=some (.ptr 1 0))(W X:Nat)(A:Option (Nat×Nat))(M z:Nat)(C:∀h:AH,loadT (E.wo V) h 26 (OLD+W) (X+3)=some (.aO A M z))(U:List UInt8)(N:Option (Nat×Nat))(P L:Nat)(T:Int)(K:∀h:AH,loadT (E.wo V) h 25 (OLD+W) X=some (mK U N P L))(O:∀h:AH,loadT (E.wo V) h 3 (OLD+W) (X+2)=some (zI T))(G:iN (E.wo V) 59 (.sl 0 0 (w+1) Q) none (some (zI (IntKind.i64.wrap ((↑(w+1):Int) - 1)))) none=some (.sl 0 0 w Q))
include V F H B J S g Q w y D R W X A M z C U N P L T K O G
theorem aeb(b:List AV)(d:Bool)(a:Option Nat)(i:M<=0)(f:DC V 21 [mK U N P L] (Dm W X S g) (.agg [.str U,.sl 2 0 P a]) (bG (XV W X) (.cells S 56 g false) (.cells b 94 d false)))(j:(decide ((↑(w+1):Int)>0))=true)(o2:(decide (0<(↑M:Int)))=false):DS V (zy (.sl 0 0 (w+1) Q) B J) (Dm W X S g) (zx (.sl 0 0 w Q) B (zP 3 0) J) (iK (.cells [.str U,.sl 2 0 P a,zI T,.aM] 65 false false) (OL W X) (.cells S 56 g false) (.cells b 94 d false)):=
 jK F H [2,5,6,7,10] (Qb 5 j (Qv 10 (jf (e:=56) (by kernel_rfl) (by kernel_rfl) D (cB w):aR (E.wo V) 59 (l9 (E.wo V) (.sl 0 0 (w+1) Q)) (zI (IntKind.i64.wrap ((↑(w+1):Int) - 1)))=some (zP 0 (w*1))) (Qv 0 (R (lZ W X S g) rfl) (Qv 21 (C (lZ W X S g)) (Qb 1 o2 (Qk 6 (DoesC.ent H (by kernel_rfl) (Jb Y Z V F H B J S g Q w y D R W X A M z C U N P L T K O G b d a i f ):DC V 20 [.sl 0 0 (w+1) Q] (lZ W X S g) (Ya3 w Q) (lZ W X S g)) (Qd 6 [.c,.c,.c,.c,.c,.c,.v (mK U N P L),.k (.agg [.str U,.sl 2 0 P a]) (bG (OL W X) (.cells S 56 g false) (.cells b 94 d false)),.c,.c,.c,.c,.c,.c,.v (zI T),.c,.c,.c,.c,.c,.c,.c] (Qq (K (lZ W X S g)) (Qp f (Qq (O (bG (OL W X) (.cells S 56 g false) (.cells b 94 d false))) (Qs .aM (Qs .aM (Qp (O (lZ W X S g)) (Qp (O (bG (OL W X) (.cells S 56 g false) (.cells b 94 d false))) (Qs (zP (1152921504606846976+W) X) (Qs (zP (1152921504606846976+W) X) (Qp (K (lZ W X S g)) (Qs (zP (1152921504606846976+W) X) Qe)))))))))))))))))) (by kernel_rfl)
theorem aea(b:M<=0)(a:DC V 21 [mK U N P L] (Dm W X S g) (U3 U) (Dm W X S g))(d:(decide ((↑(w+1):Int)>0))=true)(o2:(decide (0<(↑M:Int)))=false):DS V (zy (.sl 0 0 (w+1) Q) B J) (Dm W X S g) (zx (.sl 0 0 w Q) B (zP 2 0) J) (bG (OL W X) (.cells S 56 g false) (.cells [.str U,.aM,zI T,.aM] 65 false false)):=
 jK F H [2,5,6,7,10] (Qb 5 d (Qv 10 (jf (e:=56) (by kernel_rfl) (by kernel_rfl) D (cB w):aR (E.wo V) 59 (l9 (E.wo V) (.sl 0 0 (w+1) Q)) (zI (IntKind.i64.wrap ((↑(w+1):Int) - 1)))=some (zP 0 (w*1))) (Qv 0 (R (lZ W X S g) rfl) (Qv 21 (C (lZ W X S g)) (Qb 1 o2 (Qk 6 (DoesC.ent H (by kernel_rfl) (Ja Y Z V F H B J S g Q w y D R W X A M z C U N P L T K O G b a ):DC V 20 [.sl 0 0 (w+1) Q] (lZ W X S g) (Ya3 w Q) (lZ W X S g)) (Qd 6 [.c,.c,.c,.c,.c,.c,.v (mK U N P L),.k (U3 U) (lZ W X S g),.c,.c,.c,.c,.c,.c,.v (zI T),.c,.c,.c,.c,.c,.c,.c] (Qq (K (lZ W X S g)) (Qp a (Qq (O (lZ W X S g)) (Qs .aM (Qs .aM (Qp (O (lZ W X S g)) (Qp (O (lZ W X S g)) (Qs (zP (1152921504606846976+W) X) (Qs (zP (1152921504606846976+W) X) (Qp (K (lZ W X S g)) (Qs (zP (1152921504606846976+W) X) Qe)))))))))))))))))) (by kernel_rfl)
theorem ad9(a j:Nat)(b:Option Nat)(f:List AV)(i:Bool)(d:Option Nat)(m:M<=j)(l:DC V 21 [mK U N P L] (Dk W X a j b S g) (.agg [.str U,.sl 2 0 P d]) (bG (XU W X a j b) (.cells S 56 g false) (.cells f 94 i false)))(n:(decide ((↑(w+1):Int)>0))=true)(o2:(decide ((↑j:Int)<(↑M:Int)))=false):DS V (zy (.sl 0 0 (w+1) Q) B J) (Dk W X a j b S g) (zx (.sl 0 0 w Q) B (zP 3 0) J) (iK (.cells [.str U,.sl 2 0 P d,zI T,.sl a 0 j b] 65 false false) (OJ W X a j b) (.cells S 56 g false) (.cells f 94 i false)):=
 jK F H [2,5,6,7,10] (Qb 5 n (Qv 10 (jf (e:=56) (by kernel_rfl) (by kernel_rfl) D (cB w):aR (E.wo V) 59 (l9 (E.wo V) (.sl 0 0 (w+1) Q)) (zI (IntKind.i64.wrap ((↑(w+1):Int) - 1)))=some (zP 0 (w*1))) (Qv 0 (R (lY W X a j b S g) rfl) (Qv 21 (C (lY W X a j b S g)) (Qb 1 o2 (Qk 6 (DoesC.ent H (by kernel_rfl) (I9 Y Z V F H B J S g Q w y D R W X A M z C U N P L T K O G a j b f i d m l ):DC V 20 [.sl 0 0 (w+1) Q] (lY W X a j b S g) (Ya3 w Q) (lY W X a j b S g)) (Qd 6 [.c,.c,.c,.c,.c,.c,.v (mK U N P L),.k (.agg [.str U,.sl 2 0 P d]) (bG (OJ W X a j b) (.cells S 56 g false) (.cells f 94 i false)),.c,.c,.c,.c,.c,.c,.v (zI T),.c,.c,.c,.c,.c,.c,.c] (Qq (K (lY W X a j b S g)) (Qp l (Qq (O (bG (OJ W X a j b) (.cells S 56 g false) (.cells f 94 i false))) (Qs (.sl a 0 j b) (Qs (.sl a 0 j b) (Qp (O (lY W X a j b S g)) (Qp (O (bG (OJ W X a j b) (.cells S 56 g false) (.cells f 94 i false))) (Qs (zP (1152921504606846976+W) X) (Qs (zP (1152921504606846976+W) X) (Qp (K (lY W X a j b S g)) (Qs (zP (1152921504606846976+W) X) Qe)))))))))))))))))) (by kernel_rfl)
theorem ad8(a j:Nat)(b:Option Nat)(f:M<=j)(d:DC V 21 [mK U N P L] (Dk W X a j b S g) (U3 U) (Dk W X a j b S g))(i:(decide ((↑(w+1):Int)>0))=true)(o2:(decide ((↑j:Int)<(↑M:Int)))=false):DS V (zy (.sl 0 0 (w+1) Q) B J) (Dk W X a j b S g) (zx (.sl 0 0 w Q) B (zP 2 0) J) (bG (OJ W X a j b) (.cells S 56 g false) (.cells [.str U,.aM,zI T,.sl a 0 j b] 65 false false)):=
 jK F H [2,5,6,7,10] (Qb 5 i (Qv 10 (jf (e:=56) (by kernel_rfl) (by kernel_rfl) D (cB w):aR (E.wo V) 59 (l9 (E.wo V) (.sl 0 0 (w+1) Q)) (zI (IntKind.i64.wrap ((↑(w+1):Int) - 1)))=some (zP 0 (w*1))) (Qv 0 (R (lY W X a j b S g) rfl) (Qv 21 (C (lY W X a j b S g)) (Qb 1 o2 (Qk 6 (DoesC.ent H (by kernel_rfl) (I8 Y Z V F H B J S g Q w y D R W X A M z C U N P L T K O G a j b f d ):DC V 20 [.sl 0 0 (w+1) Q] (lY W X a j b S g) (Ya3 w Q) (lY W X a j b S g)) (Qd 6 [.c,.c,.c,.c,.c,.c,.v (mK U N P L),.k (U3 U) (lY W X a j b S g),.c,.c,.c,.c,.c,.c,.v (zI T),.c,.c,.c,.c,.c,.c,.c] (Qq (K (lY W X a j b S g)) (Qp d (Qq (O (lY W X a j b S g)) (Qs (.sl a 0 j b) (Qs (.sl a 0 j b) (Qp (O (lY W X a j b S g)) (Qp (O (lY W X a j b S g)) (Qs (zP (1152921504606846976+W) X) (Qs (zP (1152921504606846976+W) X) (Qp (K (lY W X a j b S g)) (Qs (zP (1152921504606846976+W) X) Qe)))))))))))))))))) (by kernel_rfl)
end
theorem agl(old:Old)(F:Fw old)(FF:Gw old)(st:AV)(rel:List UInt8)(pa:Option (Nat×Nat))(na ca:Nat)(rule:Int)(pk:Option (Nat×Nat))(kn kc:Nat):AtCall prog (E.wo old) [.n 5] (zx st (.ptr 0 0) (.ptr 1 0) (.aM)) (JZ (dR rel pa na ca rule pk kn kc)) 22 [.aM,qX rel pa na ca rule pk kn kc,.fn 23 [] [zP 0 0]] (JZ (dR rel pa na ca rule pk kn kc)):=
 ⟨[],by kernel_rfl,trivial⟩
theorem agi(old:Old)(F:Fw old)(FF:Gw old)(a:Old)(at0:Int)(st:AV)(rel:List UInt8)(pa:Option (Nat×Nat))(na ca:Nat)(rule:Int)(pk:Option (Nat×Nat))(kn kc:Nat):AtCall prog (E.wo old) [.n 20] (gX prog (E.wo a) [.n 5] (zx st (.ptr 0 0) (.ptr 1 0) (.aM)) (JZ (dR rel pa na ca rule pk kn kc)) (.bV [zI at0,.bool false])) (JZ (dR rel pa na ca rule pk kn kc)) 25 [.aM,zI at0,.sl 3 0 1 (some 1)] ⟨zN (zN (zL UH) (dR rel pa na ca rule pk kn kc) .e) OI .e,4,0⟩:=
 ⟨[],by kernel_rfl,trivial⟩
theorem agf(old:Old)(F:Fw old)(FF:Gw old)(b c:Old)(at0:Int)(d:Nat)(f:Nat)(a:Option Nat)(st:AV)(rel:List UInt8)(pa:Option (Nat×Nat))(na ca:Nat)(rule:Int)(pk:Option (Nat×Nat))(kn kc:Nat)(j k:Nat)(i:Option Nat)(l m:AH)(o:jv (E.wo old) ⟨zN (zL (dR rel pa na ca rule pk kn kc)) OI (zO (zL (dR rel pa na ca rule pk kn kc)) .e),5,0⟩ .append [.aM,.sl 4 0 1 (some 1)] [30,30]=some (.val (.sl k 0 j i) l))(q:dD l 0 0 [.sl k 0 j i]=some m):DS old (gX prog (E.wo c) [.n 20] (gX prog (E.wo b) [.n 5] (zx st (.ptr 0 0) (.ptr 1 0) (.aM)) (JZ (dR rel pa na ca rule pk kn kc)) (.bV [zI at0,.bool false])) (JZ (dR rel pa na ca rule pk kn kc)) (.sl d 0 f a)) ⟨zN (zL (dR rel pa na ca rule pk kn kc)) OI .e,4,0⟩ (Kc st (zI at0) (zP 0 0) (.sl d 0 f a)) ⟨zN (zN .e (dR rel pa na ca rule pk kn kc) (zL (.cells [.str rel,.aO pa na ca,zI rule,.aO pk kn kc] 65 true false))) (.cells [.sl 5 0 1 none] 30 false false) (zO (zL (dR rel pa na ca rule pk kn kc)) .e),6,0⟩:=
 jK F FF [2,5,6,7,11] (Qn 9) (by kernel_rfl)
theorem agk(old:Old)(F:Fw old)(FF:Gw old)(st:AV)(rel:List UInt8)(pa:Option (Nat×Nat))(na ca:Nat)(rule:Int)(pk:Option (Nat×Nat))(kn kc:Nat)(on b sn:Nat)(a scp:Option Nat)(c:List AV)(d:Bool):AtCall prog (E.wo old) [.n 5] (zx st (.ptr 0 0) (.ptr 1 0) (.sl b 0 sn scp)) (bG (dR rel pa na ca rule pk kn kc) (LG on a) (.cells c 65 d false)) 22 [.sl b 0 sn scp,qX rel pa na ca rule pk kn kc,.fn 23 [] [zP 0 0]] (bG (dR rel pa na ca rule pk kn kc) (.cells [.sl 2 0 on a] 30 false false) (.cells c 65 d false)):=
 ⟨[],by kernel_rfl,trivial⟩
theorem agj(old:Old)(F:Fw old)(FF:Gw old)(b:Old)(at0:Int)(st:AV)(rel:List UInt8)(pa:Option (Nat×Nat))(na ca:Nat)(rule:Int)(pk:Option (Nat×Nat))(kn kc:Nat)(on e sn:Nat)(a scp:Option Nat)(c:List AV)(d:Bool):DS old (gX prog (E.wo b) [.n 5] (zx st (.ptr 0 0) (.ptr 1 0) (.sl e 0 sn scp)) (bG (dR rel pa na ca rule pk kn kc) (LG on a) (.cells c 65 d false)) (.bV [zI at0,.bool true])) (bG (dR rel pa na ca rule pk kn kc) (LG on a) (.cells c 65 d false)) (Kc st (zI at0) (zP 0 0) (.sl e 0 sn scp)) (bG (dR rel pa na ca rule pk kn kc) (.cells [.sl 2 0 on a] 30 false false) (.cells c 65 d false)):=
 jK F FF [2,5,6,7,11] (Qn 14) (by kernel_rfl)
theorem agh(old:Old)(F:Fw old)(FF:Gw old)(b:Old)(at0:Int)(st:AV)(rel:List UInt8)(pa:Option (Nat×Nat))(na ca:Nat)(rule:Int)(pk:Option (Nat×Nat))(kn kc:Nat)(on e sn:Nat)(a scp:Option Nat)(c:List AV)(d:Bool):AtCall prog (E.wo old) [.n 20] (gX prog (E.wo b) [.n 5] (zx st (.ptr 0 0) (.ptr 1 0) (.sl e 0 sn scp)) (bG (dR rel pa na ca rule pk kn kc) (LG on a) (.cells c 65 d false)) (.bV [zI at0,.bool false])) (bG (dR rel pa na ca rule pk kn kc) (LG on a) (.cells c 65 d false)) 25 [.sl e 0 sn scp,zI at0,.sl 3 0 1 (some 1)] (iK (.cells [zI (↑on:Int)] 3 false false) (dR rel pa na ca rule pk kn kc) (.cells [.sl 2 0 on a] 30 false false) (.cells c 65 d false)):=
 ⟨[],by kernel_rfl,trivial⟩
theorem agd(old:Old)(F:Fw old)(FF:Gw old)(d f:Old)(at0:Int)(i:Nat)(j:Nat)(b:Option Nat)(st:AV)(rel:List UInt8)(pa:Option (Nat×Nat))(na ca:Nat)(rule:Int)(pk:Option (Nat×Nat))(kn kc:Nat)(on s sn:Nat)(a scp:Option Nat)(k:List AV)(l:Bool)(m o:Nat)(c:Option Nat)(q r:AH)(t:jv (E.wo old) ⟨zN (zL (dR rel pa na ca rule pk kn kc)) (LG on a) (zN (zL (dR rel pa na ca rule pk kn kc)) (.cells k 65 l false) .e),5,0⟩ .append [.sl 2 0 on a,.sl 4 0 1 (some 1)] [30,30]=some (.val (.sl o 0 m c) q))(u:dD q 0 0 [.sl o 0 m c]=some r):DS old (gX prog (E.wo f) [.n 20] (gX prog (E.wo d) [.n 5] (zx st (.ptr 0 0) (.ptr 1 0) (.sl s 0 sn scp)) (bG (dR rel pa na ca rule pk kn kc) (LG on a) (.cells k 65 l false)) (.bV [zI at0,.bool false])) (bG (dR rel pa na ca rule pk kn kc) (LG on a) (.cells k 65 l false)) (.sl i 0 j b)) ⟨zN (zL (dR rel pa na ca rule pk kn kc)) (LG on a) (zL (.cells k 65 l false)),4,0⟩ (Kc st (zI at0) (zP 0 0) (.sl i 0 j b)) r:=
 jK F FF [2,5,6,7,11] (Ql 6 t (Ql 0 (F3 (by kernel_rfl) rfl rfl u:fU (E.wo old) q 30 (zP 0 0) (.sl o 0 m c)=some (.val (.bV []) r)) (Qn 1))) (by kernel_rfl)
section
variable(X:Old)(F:Fw X)(J:Gw X)(B p:AV)(S R:List AV)(g T:Bool)(O U:Option Nat)(w N:Nat)(H:w<=268435456)(K:IntKind.i64.wrap ((↑(w+1):Int) - 1)=(↑w:Int))(Q:∀h:AH,h.obj 0= .cells S 56 g false->loadT (E.wo X) h 56 0 (w*1)=some (.ptr 1 0))(P:Int)(x:Nat)(L:P=(↑x:Int))(M:x<N)(W:Int)(V:∀h:AH,h.obj 2= .cells R 3 T false->loadT (E.wo X) h 3 2 (x*1)=some (zI W))
include X F J B p S R g T O U w N H K Q P x L M W V
theorem agc(b d:Nat)(a:Option Nat)(f i:AH)(k:jv (E.wo X) ⟨zN (zL (XT p)) (.cells S 56 g false) (zN (zL (pJ W)) (.cells R 3 T false) .e),5,0⟩ .append [.aM,.sl 4 0 1 (some 1)] [55,55]=some (.val (.sl d 0 b a) f))(l:dD f 1 1 [.sl d 0 b a]=some i)(j:(decide ((↑(w+1):Int)>0))=true):DS X (Kc (.sl 0 0 (w+1) O) (zI P) B (.sl 2 0 N U)) ⟨zN (zL (XT p)) (.cells S 56 g false) (zL (.cells R 3 T false)),4,0⟩ (zy (.sl 0 0 (w+1) O) B (.sl 2 0 N U)) ⟨zN (zN .e (.cells [p,.sl 5 0 1 none] 58 false false) (zL (.cells [zI W] 3 true false))) (.cells S 56 g false) (zN (zL (pJ W)) (.cells R 3 T false) .e),6,0⟩:=
 jK F J [2,5,6,7] (Qb 4 j (Qv 8 (jf (e:=56) (by kernel_rfl) (by kernel_rfl) K (cB w):aR (E.wo X) 59 (l9 (E.wo X) (.sl 0 0 (w+1) O)) (zI (IntKind.i64.wrap ((↑(w+1):Int) - 1)))=some (zP 0 (w*1))) (Qv 0 (Q ⟨zN (zL (XT p)) (.cells S 56 g false) (zL (.cells R 3 T false)),4,0⟩ rfl) (Qd 2 [.c,.c,.c,.c,.c,.c,.c,.v (zP 2 (x*1)),.v (zI W),.c,.c,.c,.c,.c] (Qq (Yi X 2 U L M) (Qq (V ⟨zN (zL (XT p)) (.cells S 56 g false) (zL (.cells R 3 T false)),4,0⟩ rfl) (Qp (V ⟨zN (zL (XT p)) (.cells S 56 g false) (zL (.cells R 3 T false)),4,0⟩ rfl) (Qs .aM (Qn 2))))))))) (by kernel_rfl)
theorem agb(d:List AV)(f:Bool)(j:Nat)(b:Option Nat)(i k:Nat)(a:Option Nat)(m n:AH)(o:jv (E.wo X) (yC (.cells d 3 f false) (.cells [p,.sl 3 0 j b] 58 false false) (.cells S 56 g false) (pJ W) (.cells R 3 T false)) .append [.sl 3 0 j b,.sl 4 0 1 (some 1)] [55,55]=some (.val (.sl k 0 i a) m))(q:dD m 1 1 [.sl k 0 i a]=some n)(r:(decide ((↑(w+1):Int)>0))=true):DS X (Kc (.sl 0 0 (w+1) O) (zI P) B (.sl 2 0 N U)) (iK (.cells d 3 f false) (.cells [p,.sl 3 0 j b] 58 false false) (.cells S 56 g false) (.cells R 3 T false)) (zy (.sl 0 0 (w+1) O) B (.sl 2 0 N U)) n:=
 jK F J [2,5,6,7] (Qb 4 r (Qv 8 (jf (e:=56) (by kernel_rfl) (by kernel_rfl) K (cB w):aR (E.wo X) 59 (l9 (E.wo X) (.sl 0 0 (w+1) O)) (zI (IntKind.i64.wrap ((↑(w+1):Int) - 1)))=some (zP 0 (w*1))) (Qv 0 (Q (iK (.cells d 3 f false) (.cells [p,.sl 3 0 j b] 58 false false) (.cells S 56 g false) (.cells R 3 T false)) rfl) (Qd 2 [.c,.c,.c,.c,.c,.c,.c,.v (zP 2 (x*1)),.v (zI W),.c,.l (.sl k 0 i a) m,.c,.c,.l (.bV []) n] (Qq (Yi X 2 U L M) (Qq (V (iK (.cells d 3 f false) (.cells [p,.sl 3 0 j b] 58 false false) (.cells S 56 g false) (.cells R 3 T false)) rfl) (Qz (Qp o (Qz (Qp (F3 (by kernel_rfl) rfl rfl q:fU (E.wo X) m 55 (zP 1 1) (.sl k 0 i a)=some (.val (.bV []) n)) (Qp (V (iK (.cells d 3 f false) (.cells [p,.sl 3 0 j b] 58 false false) (.cells S 56 g false) (.cells R 3 T false)) rfl) (Qs (.sl 3 0 j b) (Qn 2))))))))))))) (by kernel_rfl)
end
theorem fq9(old:Old)(F:Fw old)(FF:Gw old)(at0:Int)(b sn:Nat)(scp cp:Option Nat)(ob on a:Nat)(c:Nat):DR old (Kc (.sl c 0 0 cp) (zI at0) (.ptr 0 0) (.sl b 0 sn scp)) (aC (.cells [.aO (some (ob,0)) on a] 30 false false)) (.aO (some (ob,0)) on a) (aC (.cells [.aO (some (ob,0)) on a] 30 false false)):=
 prt F FF (Qn 25) (by kernel_rfl)
end
section
variable(Y:Fe)(Z:Ge)
include Y Z
theorem lv0(old:Old)(F:Fw old)(FF:Gw old)(b:Nat):AtCall prog (E.wo old) [.n 1] (SH (.ptr (OLD+b) 0)) ⟨.e,0,0⟩ 18 [zP (1152921504606846976+b) 0] ⟨.e,0,0⟩:=
 ⟨[],by kernel_rfl,trivial⟩
theorem no2(old:Old)(F:Fw old)(FF:Gw old)(b:Nat):AtCall prog (E.wo old) [.n 1] (SG (.ptr (OLD+b) 0)) ⟨.e,0,0⟩ 18 [zP (1152921504606846976+b) 0] ⟨.e,0,0⟩:=
 ⟨[],by kernel_rfl,trivial⟩
theorem he2(old:Old)(F:Fw old)(FF:Gw old)(b:Nat):AtCall prog (E.wo old) [.n 1] (OH (.ptr (OLD+b) 0)) ⟨.e,0,0⟩ 18 [zP (1152921504606846976+b) 0] ⟨.e,0,0⟩:=
 ⟨[],by kernel_rfl,trivial⟩
theorem fo2(old:Old)(F:Fw old)(FF:Gw old)(b:Nat):AtCall prog (E.wo old) [.n 1] (SI (.ptr (OLD+b) 0)) ⟨.e,0,0⟩ 18 [zP (1152921504606846976+b) 0] ⟨.e,0,0⟩:=
 ⟨[],by kernel_rfl,trivial⟩
section
variable(W:Old)(F:Fw W)(V:Gw W)(X:Old)
include W F V X
theorem no3(b q m c:Nat):DR W (gX prog (E.wo X) [.n 1] (SG (.ptr (OLD+b) 0)) ⟨.e,0,0⟩ (ZW q m c)) ⟨.e,0,0⟩ (zI (↑m:Int)) ⟨.e,0,0⟩:=
 prt F V (Qn 21) (by kernel_rfl)
theorem no4(b:Nat):DR W (gX prog (E.wo X) [.n 1] (SG (.ptr (OLD+b) 0)) ⟨.e,0,0⟩ Ya7) ⟨.e,0,0⟩ (zI 65537) ⟨.e,0,0⟩:=
 prt F V (Qn 18) (by kernel_rfl)
theorem lv1(b q m c:Nat):DS W (gX prog (E.wo X) [.n 1] (SH (.ptr (OLD+b) 0)) ⟨.e,0,0⟩ (ZW q m c)) ⟨.e,0,0⟩ (vU .aM (zI (↑m:Int)) (.aO (some (q,0)) m c) (zI 0)) ⟨.e,0,0⟩:=
 jK F V [2,5,12,13,14] (Qn 19) (by kernel_rfl)
theorem lv2(b:Nat):DS W (gX prog (E.wo X) [.n 1] (SH (.ptr (OLD+b) 0)) ⟨.e,0,0⟩ Ya7) ⟨.e,0,0⟩ (vU .aM (zI 0) .aM (zI 0)) ⟨.e,0,0⟩:=
 jK F V [2,5,12,13,14] (Qn 19) (by kernel_rfl)
theorem he4(b:Nat):DR W (gX prog (E.wo X) [.n 1] (OH (.ptr (OLD+b) 0)) ⟨.e,0,0⟩ Ya7) ⟨.e,0,0⟩ (zI 0) (lX ZU XR (AO.loop LoopState.exhausted none 8 67 (((((Tr.e.n (some (AV.int IntKind.i64 0)) Tr.e).n none Tr.e).n (some AV.aM) ((Tr.e.n (some AV.aM) Tr.e).n (some (AV.bV [AV.aM,AV.bool false])) Tr.e)).n (some (AV.ptr (1152921504606846976+b) 0)) (((Tr.e.n (some AV.aM) Tr.e).n none Tr.e).n (some (AV.ptr 1 0)) (Tr.e.n (some (AV.bool false)) Tr.e))).n none ((((Tr.e.n (some (AV.sl 0 0 0 (some 0))) Tr.e).n none Tr.e).n (some (AV.bool false)) ((Tr.e.n (some (AV.fn 56 [] [AV.ptr 3 0])) Tr.e).n (some AV.aM) Tr.e)).n (some (AV.int IntKind.i64 0)) (((Tr.e.n (some (AV.int IntKind.i64 0)) Tr.e).n (some (AV.bV [AV.aM,AV.bool false])) Tr.e).n (some (AV.ptr 2 0)) (Tr.e.n (some AV.aM) Tr.e)))) [21,22] (dY f8 [1,1,1,1,0,1,0,0]) (dY f8 [1,1,1,1,0,1,0,1]) 4) XQ (AO.rz true) UH):=
 prt F V (Qk 25 (DoesC.of_run F V (n:=3000) (p:=((.fn 56 [] [zP 3 0]),(iK ZU XR XQ UH))) (by kernel_rfl):DC W 26 [.aM] (bG XR XQ UH) (.fn 56 [] [zP 3 0]) (iK ZU XR XQ UH)) (Qk 2 (DoesC.of_run F V (n:=3000) (p:=((.bV []),(XD b))) (by kernel_rfl):DC W 56 [.yield 5,zP 3 0] (XD b) (.bV []) (XD b)) (Qn 16))) (by kernel_rfl)
theorem fo3(b:Nat):DR W (gX prog (E.wo X) [.n 1] (SI (.ptr (OLD+b) 0)) ⟨.e,0,0⟩ Ya7) ⟨.e,0,0⟩ .aM ⟨.e,0,0⟩:=
 prt F V (Qn 17) (by kernel_rfl)
end
end
section
variable(Y:Fe)(Z:Ge)
include Y Z
section
variable(W:Old)(F:Fw W)(S:Gw W)(V:List UInt8)(a:AV)(X:Int)(k:Option (Nat×Nat))(U T:Nat)
include W F S V a X k U T
theorem no1:DS W (ent (E.wo W) 7 [.agg [.str V,a,zI X,.aO k U T]]) ⟨.e,0,0⟩ (SG (zP 0 0)) (aC (.cells [.str V,a,zI X,.aO k U T] 28 false false)):=
 jK F S [1,2] (Qn 6) (by kernel_rfl)
theorem he1:DS W (ent (E.wo W) 8 [.agg [.str V,a,zI X,.aO k U T]]) ⟨.e,0,0⟩ (OH (zP 0 0)) (aC (.cells [.str V,a,zI X,.aO k U T] 28 false false)):=
 jK F S [1,2] (Qn 6) (by kernel_rfl)
theorem le1:DS W (ent (E.wo W) 9 [.agg [.str V,a,zI X,.aO k U T]]) ⟨.e,0,0⟩ (SH (zP 0 0)) (aC (.cells [.str V,a,zI X,.aO k U T] 28 false false)):=
 jK F S [1,2] (Qn 6) (by kernel_rfl)
theorem fo1:DS W (ent (E.wo W) 6 [.agg [.str V,a,zI X,.aO k U T]]) ⟨.e,0,0⟩ (SI (zP 0 0)) (aC (.cells [.str V,a,zI X,.aO k U T] 28 false false)):=
 jK F S [1,2] (Qn 7) (by kernel_rfl)
end
section
variable(X:Old)(F:Fw X)(T:Gw X)(b o:Nat)(W:Int)(k:Option (Nat×Nat))(V R:Nat)(U:∀h:AH,loadT (E.wo X) h 3 (OLD+b) (o+2)=some (zI W))(S:∀h:AH,loadT (E.wo X) h 26 (OLD+b) (o+3)=some (.aO k V R))
include X F T b o W k V R U S
theorem abD(c:(W==0)=false):DR X (ent (E.wo X) 27 [.ptr (OLD+b) o]) ⟨.e,0,0⟩ (.bool false) ⟨.e,0,0⟩:=
 prt F T (Qv 9 (U ⟨.e,0,0⟩) (Qb 0 c (Qn 11))) (by kernel_rfl)
theorem abC(c:(W==0)=true)(o2:((↑V:Int)==0)=true):DR X (ent (E.wo X) 27 [.ptr (OLD+b) o]) ⟨.e,0,0⟩ (.bool true) ⟨.e,0,0⟩:=
 prt F T (Qv 9 (U ⟨.e,0,0⟩) (Qb 0 c (Qv 4 (S ⟨.e,0,0⟩) (Qb 1 o2 (Qn 4))))) (by kernel_rfl)
theorem abB(c:(W==0)=true)(o2:((↑V:Int)==0)=false):DR X (ent (E.wo X) 27 [.ptr (OLD+b) o]) ⟨.e,0,0⟩ (.bool false) ⟨.e,0,0⟩:=
 prt F T (Qv 9 (U ⟨.e,0,0⟩) (Qb 0 c (Qv 4 (S ⟨.e,0,0⟩) (Qb 1 o2 (Qn 4))))) (by kernel_rfl)
end
section
variable(W:Old)(F:Fw W)(V:Gw W)(X:List UInt8)
include W F V X
theorem cp1(b o n c:Nat)(vs:List AV)(g:Bool)(d:Option Nat)(f:DC W 41 [.aO (some (b,o)) n c] (ji Qu (.cells [.str X,.aO (some (b,o)) n c] 25 false false)) (.sl 2 0 n d) (bG Qu (.cells [.str X,.aO (some (b,o)) n c] 25 false false) (.cells vs 94 g false))):DR W (ent (E.wo W) 21 [.agg [.str X,.aO (some (b,o)) n c]]) ⟨.e,0,0⟩ (.agg [.str X,.sl 2 0 n d]) (bG (.cells [.str X,.sl 2 0 n d] 25 false false) (.cells [.str X,.aO (some (b,o)) n c] 25 false false) (.cells vs 94 g false)):=
 prt F V (Qd 6 [.c,.c,.c,.c,.k (.sl 2 0 n d) (bG Qu (.cells [.str X,.aO (some (b,o)) n c] 25 false false) (.cells vs 94 g false)),.c,.c] (Qp f (Qs (.aO (some (b,o)) n c) (Qs (.str X) (Qs (.str X) (Qn 1)))))) (by kernel_rfl)
theorem cp2:DR W (ent (E.wo W) 21 [.agg [.str X,.aO none 0 0]]) ⟨.e,0,0⟩ (U3 X) (ji (.cells [.str X,.aM] 25 false false) (XP X)):=
 prt F V (Qd 6 [.c,.c,.c,.c,.k .aM (ji Qu (XP X)),.c,.c] (Qp (DoesC.of_run F V (n:=3000) (p:=(.aM,(ji Qu (XP X)))) (by kernel_rfl):DC W 41 [.aO none 0 0] (ji Qu (XP X)) .aM (ji Qu (XP X))) (Qs (.aO none 0 0) (Qs (.str X) (Qs (.str X) (Qn 1)))))) (by kernel_rfl)
end
end
section
variable(Y:Fe)(Z:Ge)
include Y Z
section
variable(X:Old)(F:Fw X)(W:Gw X)
include X F W
theorem clv(b o n c:Nat)(cells:List AV)(h0:0<n)(a:n<=268435456)(d:iI X b o (n*3)=some cells):DR X (ent (E.wo X) 41 [.aO (some (b,o)) n c]) ⟨.e,0,0⟩ (.sl 1 0 n none) (ji (.cells cells 94 true false) UG):=
 prt F W (Ql 16 (Ij (e:=94) (sz:=3) (by kernel_rfl) rfl h0 a d (by kernel_rfl):jv (E.wo X) (aC UG) .append [.sl 0 0 0 (some 0),.aO (some (b,o)) n c] [23,23]=some (.val (.sl 1 0 n none) (ji (.cells cells 94 true false) UG))) (Qn 3)) (by kernel_rfl)
theorem clz(b o c:Nat):DR X (ent (E.wo X) 41 [.aO (some (b,o)) 0 c]) ⟨.e,0,0⟩ (.sl 0 0 0 (some 0)) (aC UG):=
 prt F W (Ql 16 (Og (e:=94) (sz:=3) (by kernel_rfl) rfl (by kernel_rfl):jv (E.wo X) (aC UG) .append [.sl 0 0 0 (some 0),.aO (some (b,o)) 0 c] [23,23]=some (.val (.sl 0 0 0 (some 0)) (aC UG))) (Qn 3)) (by kernel_rfl)
end
end
section
variable{b:Nat}
theorem Ma(k i:Nat)(h:OLD<=i):O1 k i=i:=by unfold O1;rw[aW h];rfl
section
variable(W:Fe)(Y:Ge)(Z:Old)(F:Fw Z)(X:Gw Z)
include W Y F X
theorem agF{o c:Nat}{l:List PV}(e:iI Z b o (l.length*3)=some (fD l))(f:l.length<=268435456):∃a g,Bc a g l.length∧
 DC Z 41 [.aO (some (b,o)) l.length c] eH (.sl 0 0 l.length a) ⟨zL (.cells (fD l) 94 g false),1,0⟩:=by
 cases l with
 |nil=>exact⟨some 0,false,.inr ⟨rfl,rfl⟩,DoesC.ent X (by kernel_rfl) (clz W Y Z F X b o c)⟩
 |cons x l=>
  refine⟨none,true,.inl ⟨rfl,rfl⟩,?_⟩;have d:=kU (gY (x::l));have hr:AV.jC (yG 1) (fD (x::l))=fD (x::l):=AV.kZ (λi h=>qC h) d;exact DoesC.sel (k:=1) (DoesC.ent X (by kernel_rfl) (clv W Y Z F X b o (l.length+1) c (fD (x::l)) (Nat.succ_pos _) f e)) (by kernel_rfl) (by kernel_rfl) rfl rfl (by show AO.cells _ _ _ _=_;rw[hr]) (by show fH 1 (zL _)=true;exact(by show(AV.dX 1 (fD (x::l))&&true)=true;rw[AV.qK d];rfl)) rfl (by rfl)
theorem c41{o c:Nat}{l:List PV}(f:iI Z b o (l.length*3)=some (fD l))(j:l.length<=268435456):∃a g,Bc a g l.length∧∀{h:AH} {n:Nat},h.nx=n->Nat.blt n OLD=true->h.df=0->posB (λi=>Nat.blt i n) h.tr=true->
 DC Z 41 [.aO (some (b,o)) l.length c] h (.sl n 0 l.length a) (h.new (.cells (fD l) 94 g false)):=by
 obtain⟨a,g,k,C⟩:=agF W Y Z F X (c:=c) f j;refine⟨a,g,k,λ{h n} e m d hp=>?_⟩;subst e;have p:=kU (gY l);refine DoesC.Wz C rfl rfl (by show AO.cells _ _ _ _=_;rw[AV.kZ (λi h=>Ma _ i h) p]) d m (λi o e _=>aF (gW hp e)) ?_;have u0:O1 h.nx 0=h.nx:=by unfold O1;rw[show Nat.ble OLD 0=false from rfl];exact gF _
 show AV.sl (O1 h.nx 0) 0 l.length a=_;rw[u0]
theorem agH(r:List UInt8){o c:Nat}{l:List PV}(e:iI Z b o (l.length*3)=some (fD l))(f:l.length<=268435456):∃a g,Bc a g l.length∧
 DC Z 21 [.agg [.str r,.aO (some (b,o)) l.length c]] eH (.agg [.str r,.sl 0 0 l.length a]) ⟨zL (.cells (fD l) 94 g false),1,0⟩:=by
 obtain⟨a,g,j,C⟩:=c41 W Y Z F X (c:=c) e f;refine⟨a,g,j,?_⟩;have d:=kU (gY l);have hr:AV.jC (yG 2) (fD l)=fD l:=AV.kZ (λi h=>qC h) d;exact DoesC.sel (k:=2) (DoesC.ent X (by kernel_rfl) (cp1 W Y Z F X r b o l.length c (fD l) g a (C rfl rfl rfl (by kernel_rfl)))) (by kernel_rfl) (by kernel_rfl) rfl rfl (by show AO.cells _ _ _ _=_;rw[hr]) (by show(AV.dX 1 (fD l)&&true)=true;rw[AV.qK d];rfl) rfl (by rfl)
theorem c21(r:List UInt8){o c:Nat}{l:List PV}(f:iI Z b o (l.length*3)=some (fD l))(j:l.length<=268435456):∃a g,Bc a g l.length∧∀{h:AH} {n:Nat},h.nx=n->Nat.blt n OLD=true->h.df=0->posB (λi=>Nat.blt i n) h.tr=true->
 DC Z 21 [.agg [.str r,.aO (some (b,o)) l.length c]] h (.agg [.str r,.sl n 0 l.length a]) (h.new (.cells (fD l) 94 g false)):=by
 obtain⟨a,g,k,C⟩:=agH W Y Z F X r (c:=c) f j;refine⟨a,g,k,λ{h n} e m d hp=>?_⟩;subst e;have p:=kU (gY l);refine DoesC.Wz C rfl rfl (by show AO.cells _ _ _ _=_;rw[AV.kZ (λi h=>Ma _ i h) p]) d m (λi o e _=>aF (gW hp e)) ?_;have u0:O1 h.nx 0=h.nx:=by unfold O1;rw[show Nat.ble OLD 0=false from rfl];exact gF _
 show AV.agg [.str r,.sl (O1 h.nx 0) 0 l.length a]=_;rw[u0]
end
end
section
variable(Y:Fe)(Z:Ge)
include Y Z
theorem or0(old:Old)(F:Fw old)(FF:Gw old)(b q:Nat):DS old (ent (E.wo old) 18 [.ptr (OLD+b) q]) ⟨.e,0,0⟩ (Ka (zI 0) (.sl 0 0 1 (some 1))) (aC (.cells [zP (1152921504606846976+b) q] 54 false false)):=
 jK F FF [2,3,4,5] (Qn 18) (by kernel_rfl)
section
variable(X:Old)(F:Fw X)(M:Gw X)(W:List AV)(g:Bool)(m:Nat)(V:Option Nat)(i:Int)(x:Nat)(S:i=(↑x:Int))(T:x<m)(N P:Nat)(R:∀h:AH,h.obj 0= .cells W 54 g false->loadT (E.wo X) h 54 0 (x*1)=some (.ptr (OLD+N) P))(K:Option (Nat×Nat))(U L:Nat)(Q:∀h:AH,loadT (E.wo X) h 26 (OLD+N) (P+3)=some (.aO K U L))(O:(decide (i<(↑m:Int)))=true)
include X F M W g m V i x S T N P R K U L Q O
theorem or1(o2:(decide (IntKind.i64.wrap ((↑m:Int)+(↑U:Int))>65536))=false):DS X (Ka (zI i) (.sl 0 0 m V)) (uR W g) (OG (zI 0) (zI i) (.sl 0 0 m V) (zI (↑U:Int))) (uR W g):=
 jK F M [2,3,4,5,34,35] (Qb 6 O (Qv 12 (y51 X 0 V S T) (Qv 0 (R (uR W g) rfl) (Qv 2 (Q (uR W g)) (Qb 2 o2 (Qv 7 (y51 X 0 V S T) (Qv 0 (R (uR W g) rfl) (Qv 2 (Q (uR W g)) (Qn 5))))))))) (by kernel_rfl)
theorem afO(o2:(decide (IntKind.i64.wrap ((↑m:Int)+(↑U:Int))>65536))=true):DR X (Ka (zI i) (.sl 0 0 m V)) (uR W g) (.bV [.aM,.bool false]) (uR W g):=
 prt F M (Qb 6 O (Qv 12 (y51 X 0 V S T) (Qv 0 (R (uR W g) rfl) (Qv 2 (Q (uR W g)) (Qb 2 o2 (Qn 8)))))) (by kernel_rfl)
end
theorem afN(old:Old)(F:Fw old)(FF:Gw old)(a m c:Nat)(i:Int)(o1:(decide (i<(↑m:Int)))=false):DR old (Ka (zI i) (.aO (some (a,0)) m c)) ⟨.e,1,0⟩ (.bV [.aO (some (a,0)) m c,.bool true]) ⟨.e,1,0⟩:=
 prt F FF (Qb 6 o1 (Qn 10)) (by kernel_rfl)
end
section
variable(Y:Fe)(Z:Ge)
include Y Z
section
variable(X:Old)(F:Fw X)(U:Gw X)(W:List AV)(g:Bool)(m:Nat)(V:Option Nat)(i:Int)(j:Int)
include X F U W g m V i j
theorem or2(x:Nat)(l:i=(↑x:Int))(lx:x<m)(c d:Nat)(n:∀h:AH,h.obj 0= .cells W 54 g false->loadT (E.wo X) h 54 0 (x*1)=some (.ptr (OLD+c) d))(b ok a f:Nat)(o:∀h:AH,loadT (E.wo X) h 26 (OLD+c) (d+3)=some (.aO (some (b,ok)) a f))(y:Nat)(p:j=(↑y:Int))(ly:y<a)(k:AH)(q:jv (E.wo X) (ji (.cells [.ptr (OLD+b) (ok+y*4)] 54 false false) (.cells W 54 g false)) .append [.sl 0 0 m V,.sl 1 0 1 (some 1)] [51,51]=some (.val (.sl 2 0 (m+1) none) k))(r:(decide (j<(↑a:Int)))=true):DS X (OG (zI j) (zI i) (.sl 0 0 m V) (zI (↑a:Int))) (uR W g) (OG (zI (IntKind.i64.wrap (j+1))) (zI i) (.sl 2 0 (m+1) none) (zI (↑a:Int))) k:=
 jK F U [2,3,4,5,34,35] (Qb 2 r (Qv 15 (y51 X 0 V l lx) (Qv 0 (n (uR W g) rfl) (Qv 2 (o (uR W g)) (Qv 1 (gL (e:=28) (by kernel_rfl) (by kernel_rfl) rfl p ly:aR (E.wo X) 26 (l9 (E.wo X) (.aO (some (b,ok)) a f)) (zI j)=some (zP (1152921504606846976+b) (ok+y*4))) (Ql 1 q (Qn 8))))))) (by kernel_rfl)
theorem adt(a:Nat)(b:(decide (j<(↑a:Int)))=false):DS X (OG (zI j) (zI i) (.sl 0 0 m V) (zI (↑a:Int))) (uR W g) (Ka (zI (IntKind.i64.wrap (i+1))) (.sl 0 0 m V)) (uR W g):=
 jK F U [2,3,4,5] (Qb 2 b (Qn 11)) (by kernel_rfl)
end
end
section
variable{b:Nat}{ps:List AV}{ts:List T}
noncomputable def oF(m:Nat)(a:Option Nat)(i:Int):AF:=(Ka (zI i) (.sl 0 0 m a))
noncomputable def oG(s m:Nat)(a:Option Nat)(i:Int)(b:Nat)(j:Int):AF:=(OG (zI j) (zI i) (.sl s 0 m a) (zI ((↑b:Int))))
inductive Gq(old:Old):List AV->List T->Prop
 |nil:Gq old [] []
 |cons {p:AV} {t:T} {ps:List AV} {ts:List T}:tq old p t->Gq old ps ts->Gq old (p::ps) (t::ts)
theorem Gq.len{old:Old}(h:Gq old ps ts):ps.length=ts.length:=by
 induction h with
 |nil=>rfl
 |cons _ _ a=>simp[a]
theorem Gq.mono{old old':Old}(b:Old.le old old'){ps:List AV}{ts:List T}(h:Gq old ps ts):Gq old' ps ts:=by
 induction h with
 |nil=>exact .nil
 |cons a _ c=>exact .cons (a.mono b) c
theorem Gq.low{old:Old}{ps:List AV}{ts:List T}(h:Gq old ps ts):AV.dX 0 ps=true:=by
 induction h with
 |nil=>rfl
 |cons a _ b=>show(AV.low 0 _&&AV.dX 0 _)=true;rw[a.low,b];rfl
theorem Gq.app{old:Old}{b:List AV}{c:List T}(h:Gq old ps ts)(H:Gq old b c):Gq old (ps++b) (ts++c):=by
 induction h with
 |nil=>exact H
 |cons a _ d=>exact .cons a d
theorem Gq.get{old:Old}{ps:List AV}{ts:List T}(h:Gq old ps ts):∀{i:Nat} {t:T},ts[i]? =some t->∃p,ps[i]? =some p∧tq old p t:=by
 induction h with
 |nil=>intro i t e;cases e
 |cons a _ b=>
  intro i t e;cases i with
  |zero=>cases e;exact⟨_,rfl,a⟩
  |succ i=>exact b (by simpa using e)
def Db:Nat->List T->List T
 |0,_=>[]
 |_+1,[]=>[]
 |n+1,t::l=>t::Db n (l++t.kids)
theorem D6:∀l m:List T,gP (l++m)=gP l+gP m
 |[],m=>by show gP m=0+gP m;omega
 |t::l,m=>by show t.size+gP (l++m)=(t.size+gP l)+gP m;rw[D6 l m];omega
theorem nG(t:T):t.size=gP t.kids+1:=by cases t;rfl
theorem vG:∀l:List T,l.length<=gP l
 |[]=>bT _
 |t::l=>by
  have:=vG l;have:=nG t;show l.length+1<=t.size+gP l;omega
def Z4(ts:List T)(old:Old)(v:AV):Prop:=∃b c ps,v= .bV [.aO (some (b,0)) ts.length c,.bool true]∧iI old b 0 ts.length=some ps∧Gq old ps ts
section
variable(W:Fe)(Y:Ge)(X:∀old,Fw old)(Z:∀old,Gw old)
include W Y X Z
theorem VU{Q:Old->AV->Prop}(old:Old){x:Nat}{t:T}{m ok A:Nat}{ks:List AV}(C:iI old m ok (t.kids.length*4)=some ks)(n:ny old ks t.kids)(w:t.kids.length<=65536):∀(r y:Nat) (ps:List AV) (ts:List T) (l:Option Nat) (g:Bool),y+r=t.kids.length->Gq old ps ts->ts[x]? =some t->Bc l g ts.length->ts.length+r<=65536->
 (∃b o cs,ps[x]? =some (.ptr (OLD+b) o)∧iI old b o 4=some cs∧cs[3]? =some (.aO (some (m,ok)) t.kids.length A))->
 (∀a d g',Gq old a (ts++t.kids.drop y)->Bc d g' (ts++t.kids.drop y).length->bO prog E old (oF (ts++t.kids.drop y).length d (x+1:Nat)) ⟨zL (.cells a 54 g' false),1,0⟩ Q)->
 bO prog E old (oG 0 ts.length l x t.kids.length y) ⟨zL (.cells ps 54 g false),1,0⟩ Q
 |0,y,ps,ts,l,g,h0,q,v,hr,H,_,B=>by
  refine bO.of (adt W Y old (X old) (Z old) ps g ts.length l x y t.kids.length (aD (by omega))) (aT rfl) ?_;have I:t.kids.drop y=[]:=iD (by omega);rw[I,bD]at B;have f:x<ts.length:=(aJ.1 v).1;rw[wrapN (by omega)];exact B ps l g q hr
 |r+1,y,ps,ts,l,g,h0,q,v,hr,H,J,B=>by
  obtain⟨b,o,cs,e1,e2,D⟩:=J;have f:x<ts.length:=(aJ.1 v).1;obtain⟨c,k1,K⟩:=n.at C (j:=y) (t:=t.kids[y]'(by omega)) (aK _);have hp:tq old (.ptr (OLD+m) (ok+y*4)) (t.kids[y]'(by omega)):=⟨m,ok+y*4,c,rfl,k1,K⟩;obtain⟨L,M,N,O,P⟩:=Xx (E:=E.wo old) (ts:=51) (e:=54) (by kernel_rfl) (p:= .ptr (OLD+m) (ok+y*4)) hr q.len (by omega) rfl;have A1:=or2 W Y old (X old) (Z old) ps g ts.length l x y x rfl f b o (λh R=>lD (by kernel_rfl) rfl R (by rw[bW];exact e1)) m ok t.kids.length A (λh=>gB (by kernel_rfl) (iY e2 D)) y rfl (by omega) L M (aA (by omega));rw[wrapN (i:=y) (by omega)]at A1;refine bO.of A1 (by rw[O];exact aT rfl) ?_;have s:=q.app (.cons hp .nil);refine bO.only (f':=oG 0 (ts.length+1) none x t.kids.length (y+1:Nat)) (k:=2) ?_ P rfl (AF.jd rfl) s.low N;have u:(ts++[t.kids[y]'(by omega)]).length=ts.length+1:=by simp
  have z:t.kids.drop y=(t.kids[y]'(by omega))::t.kids.drop (y+1):=bL (by omega);rw[← u];refine VU old C n w r (y+1) _ _ none true (by omega) s (by rw[aU f];exact v) (.inl ⟨rfl,rfl⟩) (by rw[u];omega) ⟨b,o,cs,by rw[aU (by rw[q.len];exact f)];exact e1,e2,D⟩ ?_;intro a d g' F G;have e:ts++[t.kids[y]'(by omega)]++t.kids.drop (y+1)=ts++t.kids.drop y:=by rw[z,fC];rfl
  rw[e]at F G ⊢;exact B a d g' F G
theorem Rn:∀(n x:Nat) (ts:List T) (ps:List AV) (l:Option Nat) (g:Bool) (old:Old),gP (ts.drop x)=n->x<=ts.length->x+n<=65536->Gq old ps ts->Bc l g ts.length->
 bO prog E old (oF ts.length l x) ⟨zL (.cells ps 54 g false),1,0⟩ (Z4 (ts.take x++Db n (ts.drop x)))
 |0,x,ts,ps,l,g,old,r,z,H,m,hr=>by
  have I:=vG (ts.drop x);rw[mJ]at I;have z:x=ts.length:=by omega
  subst z;rw[List.take_length,show Db 0 (ts.drop ts.length)=[]from rfl,bD];refine bO.Zj (k:=4) (id:=0) (h':=⟨.e,1,0⟩) rfl (nU m.low) rfl (λi o e _=>by rw[show(Tr.e:Tr AO).get i=none from Tr.dN i]at e;cases e) rfl rfl ?_;intro old' b c B V C;have A:=afN W Y old' (X old') (Z old') b ts.length c ts.length (aD (by omega));refine bO.does A (aT rfl) rfl (qh.low rfl ⟨b,c,ps,rfl,?_,m.mono B⟩);rw[← m.len];exact know C
 |n+1,x,ts,ps,l,g,old,r,z,H,m,hr=>by
  have j:x<ts.length:=by
   rcases aZ x ts.length with h|h
   .exact h
   .rw[iD h]at r;cases r
  have q:ts.drop x=ts[x]::ts.drop (x+1):=bL j;obtain⟨t,v⟩:∃t,ts[x]? =some t:=⟨_,aK j⟩;have D:ts[x]=t:=aI ((aK j).symm.trans v);rw[D]at q;rw[q]at r;have J:t.size+gP (ts.drop (x+1))=n+1:=r;have K:=nG t;obtain⟨p,e1,b,o,cs,rfl,e2,L⟩:=m.get v;obtain⟨a,M,N,ks,rfl,f1,O,P⟩:=L.one;have Q:=vG t.kids;have F:=vG (ts.drop (x+1));rw[mJ]at F;have A1:=or1 W Y old (X old) (Z old) ps g ts.length l x x rfl j b o (λh R=>lD (by kernel_rfl) rfl R (by rw[bW];exact e1)) M t.kids.length N (λh=>gB (by kernel_rfl) (iY e2 rfl)) (aA (by omega)) (aD (by rw[dW (by omega) (by omega)];omega));refine bO.of A1 (aT rfl) ?_;have fin:∀(d:List AV) (f:Option Nat) (g':Bool),Gq old d (ts++t.kids)->Bc f g' (ts++t.kids).length->bO prog E old (oF (ts++t.kids).length f (x+1:Nat)) ⟨zL (.cells d 54 g' false),1,0⟩ (Z4 (ts.take x++Db (n+1) (ts.drop x))):=λd f g' w y=>by
   have s:(ts++t.kids).drop (x+1)=ts.drop (x+1)++t.kids:=by rw[List.drop_append_of_le_length (by omega)]
   have G:(ts++t.kids).take (x+1)=ts.take x++[t]:=by rw[List.take_append_of_le_length (by omega),List.take_succ,v];rfl
   have:=Rn n (x+1) (ts++t.kids) d f g' old (by rw[s,D6];omega) (by rw[fF];omega) (by omega) w y;rw[s,G,fC]at this;rw[q];exact this
  rcases P with⟨u,rfl⟩|⟨bk,ok,rfl,S⟩
  .
   have U:t.kids.length=0:=by rw[u];rfl
   refine bO.of (adt W Y old (X old) (Z old) ps g ts.length l x 0 t.kids.length (aD (by omega))) (aT rfl) ?_;rw[wrapN (by omega)];rw[u,bD]at fin;exact fin ps l g m hr
  .refine VU W Y X Z old S O (by omega) t.kids.length 0 ps ts l g (by omega) m v hr (by omega) ⟨b,o,_,e1,e2,rfl⟩ ?_
   intro d f g' w y;rw[fP]at w y ⊢;exact fin d f g' w y
theorem c18(old:Old){o:Nat}{t:T}(hp:tq old (.ptr (OLD+b) o) t)(a:t.size<=65536):dU prog E old 18 [.ptr (OLD+b) o] (Z4 (Db t.size [t])):=by
 refine dU.KT (Z old) (by kernel_rfl) (bO.of (or0 W Y old (X old) (Z old) b o) (aT rfl) ?_);have:=Rn W Y X Z t.size 0 [t] [.ptr (OLD+b) o] (some 1) false old (by show t.size+0=t.size;omega) (bT _) (by omega) (.cons hp .nil) (.inr ⟨rfl,rfl⟩);exact this
theorem Xp(old:Old){o:Nat}{t:T}(hp:tq old (.ptr (OLD+b) o) t)(m:65536<=t.kids.length)(hs2:t.kids.length<=268435456):dU prog E old 18 [.ptr (OLD+b) o] (λ_ v=>v= .bV [.aM,.bool false]):=by
 refine dU.KT (Z old) (by kernel_rfl) (bO.of (or0 W Y old (X old) (Z old) b o) (aT rfl) ?_);obtain⟨b',c,cs,d,e2,e⟩:=hp;obtain⟨f,g⟩:b'=b∧c=o:=by injection d with h1 i;exact⟨by omega,i.symm⟩
 subst f;subst g;obtain⟨a,j,k,ks,rfl,n,p,q⟩:=e.one;have A1:=afO W Y old (X old) (Z old) [.ptr (OLD+b') c] false 1 (some 1) 0 0 rfl (by omega) b' c (λh l=>lD (by kernel_rfl) rfl l rfl) j t.kids.length k (λh=>gB (by kernel_rfl) (iY e2 rfl)) (by decide) (aA (by rw[dW (by omega) (by omega)];omega));exact bO.does A1 (aT rfl) rfl (qh.low rfl rfl)
end
end
section
variable{b:Nat}{td:List AI}
theorem Lv:∀(n:Nat) (l:List T),gP l=n->(Db n l).length=n
 |0,l,h=>rfl
 |n+1,[],h=>by cases h
 |n+1,t::l,h=>by
  have h:t.size+gP l=n+1:=h;have:=nG t;show(Db n (l++t.kids)).length+1=_;rw[Lv n (l++t.kids) (by rw[D6];omega)]
theorem ny.adz{old:Old}{cs:List AV}{t:T}(h:ny old cs [t]):AV.dX 0 cs=true:=by
 obtain⟨a,b,d,ks,rfl,h1,_⟩:=h.one;obtain⟨x,n,c,rfl⟩:=h1.shape;rfl
section
variable{P:Program}{E:Env}{Z:Old}{Q:Old->AV->Prop}
theorem bO.box{x:AX}{tm:Tr AV}{cs:List AV}{t:T}(a:ny Z cs [t])(c:cs.length=4)(g:tm.get 1=some (.ptr 0 0))
 (h:∀b,(⟨x,tm.set 1 (.ptr (OLD+b) 0),td,[],false⟩:AF).low 0)
 (B:∀old' b,Old.le Z old'->tq old' (.ptr (OLD+b) 0) t->bO P E old' ⟨x,tm.set 1 (.ptr (OLD+b) 0),td,[],false⟩ eH Q):
 bO P E Z ⟨x,tm,td,[],false⟩ ⟨zL (iP cs),1,0⟩ Q:=by
 refine bO.Zk (k:=1) (id:=0) (off:=0) (h':=⟨.e,1,0⟩) rfl (nU a.adz) g (λi o e _=>by rw[show(Tr.e:Tr AO).get i=none from Tr.dN i]at e;cases e) rfl rfl ?_;intro old' b d f;refine bO.low (n:=0) (bT _) (h b) rfl (λi o e _=>by rw[show(Tr.e:Tr AO).get i=none from Tr.dN i]at e;cases e) ?_;refine B old' b d ⟨b,0,cs,rfl,?_,a.mono d⟩;rw[← c];exact know f
end
theorem lC(b:Nat){o:Nat}:AV.dX 0 [.ptr (OLD+b) o]=true:=by
 show((Nat.blt (OLD+b) 0||Nat.ble OLD (OLD+b))&&true)=true;rw[aW (dZ _ _),jm];rfl
theorem oI(b:Nat):(Nat.blt (OLD+b) 0||Nat.ble OLD (OLD+b))=true:=by
 rw[aW (dZ _ _),jm]
section
variable(W:Fe)(Y:Ge)(X:∀old,Fw old)(Z:∀old,Gw old)
include W Y X Z
theorem c7(old:Old){v:AV}{t:T}(e:wI old v t)(f:t.size<=65536):dU prog E old 7 [v] (λ_ w=>w=zI t.size):=by
 obtain⟨cs,rfl,h⟩:=e;have m:=h.len;obtain⟨a,g,i,ks,rfl,n,o,p⟩:=h.one;refine dU.KT (Z old) (by kernel_rfl) (bO.of (no1 W Y old (X old) (Z old) t.rel a t.rule g t.kids.length i) (aT rfl) ?_);refine bO.box h rfl rfl (λb=>AF.jd (by show(((true&&(Nat.blt (OLD+b) 0||Nat.ble OLD (OLD+b))&&true)&&true&&true)&&true)=true;rw[oI];rfl)) λold' b j hp=>?_;refine bO.ku (X old') (Z old') (no2 W Y old' (X old') (Z old') b) (lC b) rfl (aT rfl) (c18 W Y X Z old' hp f) ?_
 rintro c w d ⟨k,l,ps,rfl,h1,q⟩
 rw[Lv t.size [t] (by show t.size+0=_;omega)];exact bO.does (no3 W Y c (X c) (Z c) old' b k t.size l) (aT rfl) rfl (qh.low rfl rfl)
theorem c7x(old:Old){v:AV}{t:T}(e:wI old v t)(f:65536<=t.kids.length)(hs2:t.kids.length<=268435456):dU prog E old 7 [v] (λ_ w=>w=zI 65537):=by
 obtain⟨cs,rfl,h⟩:=e;obtain⟨a,g,i,ks,rfl,k,l,m⟩:=h.one;refine dU.KT (Z old) (by kernel_rfl) (bO.of (no1 W Y old (X old) (Z old) t.rel a t.rule g t.kids.length i) (aT rfl) ?_);refine bO.box h rfl rfl (λb=>AF.jd (by show(((true&&(Nat.blt (OLD+b) 0||Nat.ble OLD (OLD+b))&&true)&&true&&true)&&true)=true;rw[oI];rfl)) λold' b j hp=>?_;refine bO.ku (X old') (Z old') (no2 W Y old' (X old') (Z old') b) (lC b) rfl (aT rfl) (Xp W Y X Z old' hp f hs2) ?_
 rintro c w d rfl
 exact bO.does (no4 W Y c (X c) (Z c) old' b) (aT rfl) rfl (qh.low rfl rfl)
theorem c8x(old:Old){v:AV}{t:T}(e:wI old v t)(f:65536<=t.kids.length)(hs2:t.kids.length<=268435456):dU prog E old 8 [v] (λ_ w=>w=zI 0):=by
 obtain⟨cs,rfl,h⟩:=e;obtain⟨a,g,i,ks,rfl,k,l,m⟩:=h.one;refine dU.KT (Z old) (by kernel_rfl) (bO.of (he1 W Y old (X old) (Z old) t.rel a t.rule g t.kids.length i) (aT rfl) ?_);refine bO.box h rfl rfl (λb=>AF.jd (by show(((true&&(Nat.blt (OLD+b) 0||Nat.ble OLD (OLD+b))&&true)&&true&&true)&&true)=true;rw[oI];rfl)) λold' b j hp=>?_;refine bO.ku (X old') (Z old') (he2 W Y old' (X old') (Z old') b) (lC b) rfl (aT rfl) (Xp W Y X Z old' hp f hs2) ?_
 rintro c w d rfl
 exact bO.does (he4 W Y c (X c) (Z c) old' b) (aT rfl) rfl (qh.low rfl rfl)
theorem c6x(old:Old){v:AV}{t:T}(e:wI old v t)(f:65536<=t.kids.length)(hs2:t.kids.length<=268435456):dU prog E old 6 [v] (λ_ w=>w= .aM):=by
 obtain⟨cs,rfl,h⟩:=e;obtain⟨a,g,i,ks,rfl,k,l,m⟩:=h.one;refine dU.KT (Z old) (by kernel_rfl) (bO.of (fo1 W Y old (X old) (Z old) t.rel a t.rule g t.kids.length i) (aT rfl) ?_);refine bO.box h rfl rfl (λb=>AF.jd (by show(((true&&(Nat.blt (OLD+b) 0||Nat.ble OLD (OLD+b))&&true)&&true&&true)&&true)=true;rw[oI];rfl)) λold' b j hp=>?_;refine bO.ku (X old') (Z old') (fo2 W Y old' (X old') (Z old') b) (lC b) rfl (aT rfl) (Xp W Y X Z old' hp f hs2) ?_
 rintro c w d rfl
 exact bO.does (fo3 W Y c (X c) (Z c) old' b) (aT rfl) rfl (qh.low rfl rfl)
omit X Z in
theorem ZJ(old:Old)(F:Fw old)(FF:Gw old){o:Nat}{t:T}(hp:tq old (.ptr (OLD+b) o) t):DC old 27 [.ptr (OLD+b) o] eH (.bool (t.rule==0&&t.kids.isEmpty)) eH:=by
 obtain⟨b',c,cs,j,e2,k⟩:=hp;obtain⟨m,n⟩:b'=b∧c=o:=by injection j with h1 p;exact⟨by omega,p.symm⟩
 subst m;subst n;obtain⟨a,e,f,ks,rfl,q,r,s⟩:=k.one;have g:∀h:AH,loadT (E.wo old) h 3 (OLD+b') (c+2)=some (zI t.rule):=λh=>gB (by kernel_rfl) (iY e2 rfl);have d:∀h:AH,loadT (E.wo old) h 26 (OLD+b') (c+3)=some (.aO e t.kids.length f):=λh=>gB (by kernel_rfl) (iY e2 rfl);by_cases hr:(t.rule==0)=true
 .rw[hr,Bool.true_and]
  cases i:t.kids with
  |nil=>
   rw[i]at d;exact DoesC.ent FF (by kernel_rfl) (abC W Y old F FF b' c t.rule e 0 f g d hr rfl)
  |cons y l=>
   rw[i]at d;exact DoesC.ent FF (by kernel_rfl) (abB W Y old F FF b' c t.rule e (l.length+1) f g d hr (by simp;omega))
 .have hr:(t.rule==0)=false:=by simpa using hr
  rw[hr,Bool.false_and];exact DoesC.ent FF (by kernel_rfl) (abD W Y old F FF b' c t.rule e t.kids.length f g d hr)
end
end
section
variable(Y:Fe)(Z:Ge)
include Y Z
section
variable(X:Old)(F:Fw X)(W:Gw X)(b o c:Nat)(V:∀h:AH,loadT (E.wo X) h 94 (OLD+b) o=some U0)
include X F W b o c V
theorem qL:DR X (ent (E.wo X) 274 [.aO (some (b,o)) 1 c,.fn 187 [] []]) (A9 b o c) (zI (-1)) (zw b o c):=
 prt F W (Qv 33 (V (A9 b o c)) (Qk 0 (DoesC.of_run F W (n:=3000) (p:=((.bool false),(zw b o c))) (by kernel_rfl):DC X 187 [U0] (A9 b o c) (.bool false) (zw b o c)) (Qn 21))) (by kernel_rfl)
theorem uZ:DR X (ent (E.wo X) 186 [.aO (some (b,o)) 1 c,.fn 187 [] []]) (A9 b o c) (.bool false) (zw b o c):=
 prt F W (Qk 8 (DoesC.ent W (by kernel_rfl) (qL Y Z X F W b o c V ):DC X 274 [.aO (some (b,o)) 1 c,.fn 187 [] []] (A9 b o c) (zI (-1)) (zw b o c)) (Qn 4)) (by kernel_rfl)
theorem Bw:DR X (ent (E.wo X) 126 [.aO (some (b,o)) 1 c]) (A9 b o c) (.bool true) (zw b o c):=
 prt F W (Qk 7 (DoesC.ent W (by kernel_rfl) (uZ Y Z X F W b o c V ):DC X 186 [.aO (some (b,o)) 1 c,.fn 187 [] []] (A9 b o c) (.bool false) (zw b o c)) (Qn 4)) (by kernel_rfl)
theorem ND:DR X (ent (E.wo X) 69 [zD b o c]) (aaM (kQ b o c)) (zI 0) (zw b o c):=
 prt F W (Qk 10 (DoesC.of_run F W (n:=3000) (p:=((.bool true),(A9 b o c))) (by kernel_rfl):DC X 125 [.str [113]] (afn (kQ b o c) (kQ b o c)) (.bool true) (A9 b o c)) (Qk 10 (DoesC.ent W (by kernel_rfl) (Bw Y Z X F W b o c V ):DC X 126 [.aO (some (b,o)) 1 c] (A9 b o c) (.bool true) (zw b o c)) (Qn 10))) (by kernel_rfl)
theorem h31:DR X (ent (E.wo X) 31 [uT,zD b o c]) yD (zI 0) (afm (kQ b o c) (kQ b o c)):=
 prt F W (Qd 7 [.c,.k (.map 10) (XC (kQ b o c)),.c,.c,.c,.c,.c,.c,.c,.c,.c] (Qp (DoesC.of_run F W (n:=3000) (p:=((.map 10),(XC (kQ b o c)))) (by kernel_rfl):DC X 68 [uT] (Dj (kQ b o c)) (.map 10) (XC (kQ b o c))) (Qs (.bV [Qy,.bool true]) (Qs (.str [113]) (Qs (.str [113]) (Qs uT (Qk 7 (DoesC.ent W (by kernel_rfl) (ND Y Z X F W b o c V ):DC X 69 [zD b o c] (aaM (kQ b o c)) (zI 0) (zw b o c)) (Qv 37 (V (zw b o c)) (Qd 5 [.c,.c,.c,.c,.c,.c,.c,.c] (Qs (zI 1) (Qs (.sl 1 0 1 (some 1)) (Qs (zI 1) (Qn 20))))))))))))) (by kernel_rfl)
end
theorem adF(old:Old)(F:Fw old)(FF:Gw old)(b o c:Nat)(hv:∀h:AH,loadT (E.wo old) h 94 (OLD+b) o=some U0):DC old 31 [uT,zD b o c] yD (zI 0) yD:=
 DoesC.drop (DoesC.ent FF (by kernel_rfl) (h31 Y Z old F FF b o c hv )) [0,1,2,3,4,5,6] (by kernel_rfl) (by kernel_rfl) (by kernel_rfl) rfl (by kernel_rfl) (by kernel_rfl) (by kernel_rfl)
end
theorem h30(old:Old)(F:Fw old)(FF:Gw old):DC old 30 [uT] yD X0 yD:=
 DoesC.nat F FF (n:=3000) [2,6] (by kernel_rfl) (by kernel_rfl) (by kernel_rfl) (by kernel_rfl) (by kernel_rfl)
theorem h28(old:Old)(F:Fw old)(FF:Gw old):DC old 28 [.aM,.fn 29 [] []] ⟨.e,0,0⟩ .aM ⟨.e,0,0⟩:=
 DoesC.nat F FF (n:=3000) [] (by kernel_rfl) (by kernel_rfl) (by kernel_rfl) (by kernel_rfl) (by kernel_rfl)
theorem h127(old:Old)(F:Fw old)(FF:Gw old)(b o c:Nat):DC old 127 [uT,zI 1] (Dj (kQ b o c)) (.bV [UK,zI 0]) (XA (kQ b o c)):=
 DoesC.afR F FF (n:=3000) [2,6,7,8,466,505] (by kernel_rfl) (by kernel_rfl) (by kernel_rfl) (by kernel_rfl) (by kernel_rfl) (by kernel_rfl) (by kernel_rfl) (by kernel_rfl)
section
variable(Y:Fe)(Z:Ge)
include Y Z
theorem IV(old:Old)(F:Fw old)(FF:Gw old)(b o c:Nat)(a:∀h:AH,loadT (E.wo old) h 94 (OLD+b) o=some U0):DR old (ent (E.wo old) 128 [.agg [.aM,.aM],Jf,.aO (some (b,o)) 1 c]) (aaL (kQ b o c)) (.bV [LH,.bool true]) (JY IC IC (kQ b o c)):=
 prt F FF (Qk 70 (DoesC.of_run F FF (n:=3000) (p:=((.bV [.agg [zI 0,zI 0,.str []],.bool false]),(aaK (kQ b o c)))) (by kernel_rfl):DC old 129 [.agg [.aM,.aM],.str [88]] ⟨zN (zN (zN (zN (zO (zO (zO (zO (zO (zL yI) .e) .e) .e) .e) .e) ug .e) kR .e) mh (zN (zO (zO (zO (zO (zO (zO (zL yI) .e) .e) .e) .e) .e) (zO .e (zO .e (zO .e (zO .e (zL Qt)))))) yL .e)) mh (zN (zN (zN (zO (zO (zO (zO (zO (zL XO) .e) .e) .e) .e) (zO .e (zO .e (zO .e (zL Qo))))) (kQ b o c) .e) kR .e) yK (zN (zO (zO (zO (zO (zO (zO (zL kR) .e) .e) .e) .e) (zO (zO .e (zO .e (zL LC))) .e)) .e) yJ (zO .e (zO .e (zO .e (zO .e (zO .e (zL UE)))))))),515,0⟩ (.bV [.agg [zI 0,zI 0,.str []],.bool false]) (aaK (kQ b o c))) (Qd 9 [.c,.c,.c,.c,.c,.c,.c,.c,.c] (Qd 8 [.c,.c,.c,.c,.c,.c,.v U0,.k LH (JY yI yI (kQ b o c)),.c] (Qq (a (XB (kQ b o c))) (Qp (DoesC.of_run F FF (n:=3000) (p:=(LH,(JY yI yI (kQ b o c)))) (by kernel_rfl):DC old 189 [.agg [.aM,.aM],.str [88],U0] (XB (kQ b o c)) LH (JY yI yI (kQ b o c))) (Qp (a (XB (kQ b o c))) (Qs (.str [88]) (Qs (.agg [.aM,.aM]) (Qn 21))))))))) (by kernel_rfl)
theorem afQ(old:Old)(F:Fw old)(FF:Gw old)(b o c:Nat)(a:∀h:AH,loadT (E.wo old) h 94 (OLD+b) o=some U0):DS old (ent (E.wo old) 70 [uT,zI 1,zD b o c,.kH]) yD (aaP (.aO (some (b,o)) 1 c) (zD b o c) (zD b o c)) (aaJ (kQ b o c)):=
 KM F FF (obs:=[DC old 30 [uT] (Dj (kQ b o c)) X0 (Dj (kQ b o c)),DC old 31 [uT,zD b o c] (Dj (kQ b o c)) (zI 0) (Dj (kQ b o c)),DC old 127 [uT,zI 1] (Dj (kQ b o c)) (.bV [UK,zI 0]) (XA (kQ b o c)),DC old 128 [.agg [.aM,.aM],Jf,.aO (some (b,o)) 1 c] (aaL (kQ b o c)) (.bV [LH,.bool true]) (JY IC IC (kQ b o c)),(some (.aO (some (b,o)) 1 c):Option AV)=some (.aO (some (b,o)) 1 c),(some Jf:Option AV)=some Jf,(some (.sl 6 0 1 (some 1)):Option AV)=some (.sl 6 0 1 (some 1)),(some (.str [113]):Option AV)=some (.str [113]),(some (.str [113]):Option AV)=some (.str [113]),(some (.sl 6 0 1 (some 1)):Option AV)=some (.sl 6 0 1 (some 1))]) [.n 26,.k X0 (Dj (kQ b o c)),.n 10,.k (zI 0) (Dj (kQ b o c)),.n 19,.k (.bV [UK,zI 0]) (XA (kQ b o c)),.n 8,.d [.c,.c,.c,.c,.c,.c,.c,.c,.c,.c,.k (.bV [LH,.bool true]) (JY IC IC (kQ b o c)),.c,.c,.c,.c,.c,.c],.n 2,.d [.c,.c,.c,.c,.c,.c,.c,.c,.c,.c,.c,.c,.c,.c,.c],.n 32] (by kernel_rfl) ⟨DoesC.pad (h30 old F FF) [2,6] (by kernel_rfl) (by kernel_rfl) (by kernel_rfl) rfl rfl rfl rfl,DoesC.pad (adF Y Z old F FF b o c a) [2,6] (by kernel_rfl) (by kernel_rfl) (by kernel_rfl) rfl rfl rfl rfl,h127 old F FF b o c,DoesC.ent FF (by kernel_rfl) (IV Y Z old F FF b o c a ),rfl,rfl,rfl,rfl,rfl,rfl⟩
end
section
variable(Y:Fe)(Z:Ge)
include Y Z
theorem h70(old:Old)(F:Fw old)(FF:Gw old)(b o c:Nat)(a:∀h:AH,loadT (E.wo old) h 94 (OLD+b) o=some U0):DC old 70 [uT,zI 1,zD b o c,.kH] yD (.bV [.aM,zI 0]) yD:=by
 obtain⟨g,d,e1,e2,e⟩:=Does.nat F FF (n:=3000) (f:=(aaP (.aO (some (b,o)) 1 c) (zD b o c) (zD b o c))) (h:=(aaJ (kQ b o c))) (v:= .bV [.aM,zI 0]) (t:=(yD:AH).tr) (b:=true) (df:=0) [2,6] (by kernel_rfl);exact DoesC.drop (DoesC.ent FF (by kernel_rfl) (Does.of (afQ Y Z old F FF b o c a) d)) [2,6] e1 (by kernel_rfl) (by kernel_rfl) e e2 (by kernel_rfl) (by kernel_rfl)
end
section
variable(Y:Fe)(Z:Ge)
include Y Z
theorem h33(old:Old)(F:Fw old)(FF:Gw old)(b o c a ok d ck:Nat)(e:∀h:AH,loadT (E.wo old) h 94 (OLD+b) o=some U0):DR old (ent (E.wo old) 33 [uT,zI 1,zD b o c,.aO (some (a,ok)) d ck,.kH]) yD (.bool false) (JX (UD a ok d ck) (kQ b o c)):=
 prt F FF (Qk 13 (DoesC.pad (h70 Y Z old F FF b o c e) [2,6] (by kernel_rfl) (by kernel_rfl) (by kernel_rfl) rfl rfl rfl rfl:DC old 70 [uT,zI 1,zD b o c,.kH] (JX (UD a ok d ck) (kQ b o c)) (.bV [.aM,zI 0]) (JX (UD a ok d ck) (kQ b o c))) (Qk 13 (DoesC.of_run F FF (n:=3000) (p:=((.bool false),(JX (UD a ok d ck) (kQ b o c)))) (by kernel_rfl):DC old 71 [.aM,.fn 72 [] [zP 9 0]] (JX (UD a ok d ck) (kQ b o c)) (.bool false) (JX (UD a ok d ck) (kQ b o c))) (Qn 4))) (by kernel_rfl)
theorem adE(old:Old)(F:Fw old)(FF:Gw old)(b o c a ok d ck:Nat)(e:∀h:AH,loadT (E.wo old) h 94 (OLD+b) o=some U0):DC old 33 [uT,zI 1,zD b o c,.aO (some (a,ok)) d ck,.kH] yD (.bool false) yD:=
 DoesC.drop (DoesC.ent FF (by kernel_rfl) (h33 Y Z old F FF b o c a ok d ck e )) [0,1,2,3,4,5,6] (by kernel_rfl) (by kernel_rfl) (by kernel_rfl) rfl (by kernel_rfl) (by kernel_rfl) (by kernel_rfl)
end
section
variable(Y:Fe)(Z:Ge)
include Y Z
theorem va1(old:Old)(F:Fw old)(FF:Gw old)(rel:List UInt8)(a:AV)(rule:Int)(k:Option (Nat×Nat))(b c:Nat):DS old (ent (E.wo old) 10 [uT,.aM,.kH,.agg [.str rel,a,zI rule,.aO k b c]]) ⟨.e,7,0⟩ (SF (zP 8 0) (zP 7 0)) ⟨zO (zO (zO (zL ug) .e) .e) (zO (zO (zL (.cells [.str rel,a,zI rule,.aO k b c] 28 false false)) .e) .e),9,0⟩:=
 jK F FF [1,2,4,7,8] (Qn 7) (by kernel_rfl)
theorem va2(old:Old)(F:Fw old)(FF:Gw old)(b:Nat):AtCall prog (E.wo old) [.n 1] (SF (.ptr (OLD+b) 0) (.ptr 7 0)) ⟨.e,8,0⟩ 18 [zP (1152921504606846976+b) 0] ⟨.e,8,0⟩:=
 ⟨[],by kernel_rfl,trivial⟩
section
variable(X:Old)(F:Fw X)(W:Gw X)
include X F W
theorem va3(a:Old)(b:Nat):DR X (gX prog (E.wo a) [.n 1] (SF (.ptr (OLD+b) 0) (.ptr 7 0)) ⟨.e,8,0⟩ Ya7) ⟨.e,8,0⟩ (zI 2) ⟨.e,8,0⟩:=
 prt F W (Qn 25) (by kernel_rfl)
theorem va4(d:Old)(b q n c:Nat)(a f:Nat)(ln:0<n)(m:∀h:AH,loadT (E.wo X) h 54 (OLD+q) 0=some (.ptr (OLD+a) f))(g:DC X 27 [.ptr (OLD+a) f] eH (.bool false) eH)(j k i l:Nat)(o:∀h:AH,loadT (E.wo X) h 26 (OLD+a) (f+2+1)=some (.aO (some (j,k)) i l))(p:(decide (0<(↑n:Int)))=true):DS X (gX prog (E.wo d) [.n 1] (SF (.ptr (OLD+b) 0) (.ptr 7 0)) ⟨.e,8,0⟩ (ZW q n c)) qx (J9 (zP (1152921504606846976+a) f) (zI 0) (.aO (some (j,k)) i l) (zP 7 0) .aM (zI (↑i:Int))) qx:=
 jK F W [2,4,8,15,18,73,74,75] (Qk 23 (DoesC.pad (h30 X F W) [2,6] (by kernel_rfl) (by kernel_rfl) (by kernel_rfl) rfl rfl rfl rfl:DC X 30 [uT] qx X0 qx) (Qk 26 (DoesC.ov (h28 X F W) rfl rfl rfl (by kernel_rfl):DC X 28 [.aM,.fn 29 [] []] qx .aM qx) (Qb 13 p (Qv 8 (NA (e:=54) (z:=1) (by kernel_rfl) (by kernel_rfl) rfl ln:aR (E.wo X) 51 (l9 (E.wo X) (.aO (some (q,0)) n c)) (zI 0)=some (zP (1152921504606846976+q) 0)) (Qv 0 (m qx) (Qk 6 (DoesC.ov g (lC a) rfl rfl (by kernel_rfl):DC X 27 [zP (1152921504606846976+a) f] qx (.bool false) qx) (Qv 13 (o qx) (Qn 5)))))))) (by kernel_rfl)
theorem vbn(t15:AV)(b c a i x:Nat)(m:x<a)(r1:List UInt8)(d:Option (Nat×Nat))(f g:Nat)(j:Int)(k1:Option (Nat×Nat))(k l:Nat)(n:∀h:AH,loadT (E.wo X) h 28 (OLD+b) (c+x*4)=some (qX r1 d f g j k1 k l))(o:(decide ((↑x:Int)<(↑a:Int)))=true):DS X (J9 t15 (zI (↑x:Int)) (.aO (some (b,c)) a i) (.ptr 0 0) .aM (zI (↑a:Int))) ⟨.e,1,0⟩ (J9 t15 (zI (IntKind.i64.wrap ((↑x:Int)+1))) (.aO (some (b,c)) a i) (zP 0 0) (.sl 3 0 1 none) (zI (↑a:Int))) ⟨zO (zN (zL (.cells [.str r1,.aO d f g] 25 true false)) (mg r1 d f g j k1 k l) .e) (zL (lH r1 d f g)),4,0⟩:=
 jK F W [2,4,8,15,18,73,74,75] (Qb 2 o (Qv 8 (gL (e:=28) (by kernel_rfl) (by kernel_rfl) rfl (by rfl) m:aR (E.wo X) 26 (l9 (E.wo X) (.aO (some (b,c)) a i)) (zI (↑x:Int))=some (zP (1152921504606846976+b) (c+x*4))) (Qv 0 (n ⟨.e,1,0⟩) (Qn 17)))) (by kernel_rfl)
theorem vbs(t15:AV)(b c a d x:Nat)(o:x<a)(r1:List UInt8)(f:Option (Nat×Nat))(g i:Nat)(j:Int)(k1:Option (Nat×Nat))(k l:Nat)(p:∀h:AH,loadT (E.wo X) h 28 (OLD+b) (c+x*4)=some (qX r1 f g i j k1 k l))(vs:List AV)(m:Nat)(cp2:Option Nat)(n:AH)(q:jv (E.wo X) ⟨zO (zN (zL (lH r1 f g i)) (aV vs) .e) (zL (mg r1 f g i j k1 k l)),4,0⟩ .append [.sl 1 0 x none,.sl 3 0 1 (some 1)] [33,33]=some (.val (.sl m 0 (x+1) cp2) n))(r:(decide ((↑x:Int)<(↑a:Int)))=true):DS X (J9 t15 (zI (↑x:Int)) (.aO (some (b,c)) a d) (.ptr 0 0) (.sl 1 0 x none) (zI (↑a:Int))) ⟨zO (zL (aV vs)) .e,2,0⟩ (J9 t15 (zI (IntKind.i64.wrap ((↑x:Int)+1))) (.aO (some (b,c)) a d) (zP 0 0) (.sl m 0 (x+1) cp2) (zI (↑a:Int))) n:=
 jK F W [2,4,8,15,18,73,74,75] (Qb 2 r (Qv 8 (gL (e:=28) (by kernel_rfl) (by kernel_rfl) rfl (by rfl) o:aR (E.wo X) 26 (l9 (E.wo X) (.aO (some (b,c)) a d)) (zI (↑x:Int))=some (zP (1152921504606846976+b) (c+x*4))) (Qv 0 (p ⟨zO (zL (aV vs)) .e,2,0⟩) (Ql 8 q (Qn 8))))) (by kernel_rfl)
theorem vbd(f g m n a o i fc b d e:Nat)(j:∀h:AH,loadT (E.wo X) h 25 (OLD+f) g=some (zD b d e))(l:∀h:AH,loadT (E.wo X) h 3 (OLD+f) (g+2)=some (zI 1))(p:∀h:AH,loadT (E.wo X) h 94 (OLD+b) d=some U0)(q:(decide ((↑a:Int)<(↑a:Int)))=false):DR X (J9 (.ptr (OLD+f) g) (zI (↑a:Int)) (.aO (some (m,n)) a o) (.ptr 7 0) (.aO (some (i,0)) a fc) (zI (↑a:Int))) qx (zI 152) qx:=
 prt F W (Qb 2 q (Qd 5 [.c,.c,.c,.c,.v (zI 1),.c,.c,.c,.v (zD b d e),.c,.c,.k (.bool false) qx,.c] (Qq (l qx) (Qq (j qx) (Qp (DoesC.pad (adE Y Z X F W b d e i 0 a fc p) [2,6] (by kernel_rfl) (by kernel_rfl) (by kernel_rfl) rfl rfl rfl rfl:DC X 33 [uT,zI 1,zD b d e,.aO (some (i,0)) a fc,.kH] qx (.bool false) qx) (Qp (j qx) (Qp (l qx) (Qs uT (Qn 6))))))))) (by kernel_rfl)
end
end
section
variable(Y:Fe)(Z:Ge)
include Y Z
section
variable(U:Old)(F:Fw U)(t:Gw U)(q s r o:Nat)(A B:AV)(S W:List AV)(g:Bool)(N:Option Nat)(w X:Nat)(m:w<=268435456)(V:Int)(x:Nat)(n:V=(↑x:Int))(p:x<r)(R:List UInt8)(M:Option (Nat×Nat))(O L:Nat)(T:Int)(K:Option (Nat×Nat))(P J:Nat)(l:∀h:AH,loadT (E.wo U) h 65 (OLD+q) (s+x*4)=some (qX R M O L T K P J))(Q:∀h:AH,h.obj 0= .cells S 168 g false->loadT (E.wo U) h 168 0 (w*2)=some (.agg [.ptr 1 X,zI V]))(H:iN (E.wo U) 169 (.sl 0 0 (w+1) N) none (some (zI (IntKind.i64.wrap ((↑(w+1):Int) - 1)))) none=some (.sl 0 0 w N))(z:IntKind.i64.wrap ((↑(w+1):Int) - 1)=(↑w:Int))(D:List AV)(C:Bool)(G:Option Nat)(v:DC U 21 [mK R M O L] (qy X V W S g R M O L T K P J) (.agg [.str R,.sl 5 0 O G]) (tF X V W D C S g R M O L T K P J))(u:List AV)(y:dD (tF X V W D C S g R M O L T K P J) 1 X [.str R,.sl 5 0 O G,zI T,.aM]=some (tF X V u D C S g R M O L T K P J))
include U F t q s r o A B S W g N w X m V x n p R M O L T K P J l Q H z D C G v u y
theorem Ld:DR U (ent (E.wo U) 75 [.sl 0 0 (w+1) N]) (Fp W S g) (.bV [.sl 0 0 w N,FQ X V]) (Fj X V W S g):=
 prt F t (Qd 6 [.c,.c,.c,.c,.v (.sl 0 0 w N),.c,.c,.c,.c,.v (zP 0 (w*2)),.v (FQ X V),.c,.c] (Qq H (Qq (jf (e:=168) (by kernel_rfl) (by kernel_rfl) z (cB w):aR (E.wo U) 169 (l9 (E.wo U) (.sl 0 0 (w+1) N)) (zI (IntKind.i64.wrap ((↑(w+1):Int) - 1)))=some (zP 0 (w*2))) (Qq (Q (Fh W S g) rfl) (Qp (Q (Fh W S g) rfl) (Qs (zI (↑(w+1):Int)) (Qs (zI (↑(w+1):Int)) (Qn 1)))))))) (by kernel_rfl)
theorem Lb(a:List AV)(b:P<=1048576)(d:dD (zu (iL X V) (iP u) (.cells D 94 C false) (.cells S 168 g false) (dR R M O L T K P J) (iL X V) (.cells (rep P [.str [],.aM,zI 0,.aM]) 28 false false)) 1 (X+3) [.sl 6 0 P (some P)]=some (zu (iL X V) (iP a) (.cells D 94 C false) (.cells S 168 g false) (dR R M O L T K P J) (iL X V) (.cells (rep P [.str [],.aM,zI 0,.aM]) 28 false false))):DR U (ent (E.wo U) 75 [.sl 0 0 (w+1) N]) (Fp W S g) (.bV [.sl 0 0 w N,FQ X V]) (Fj X V W S g):=
 prt F t (Qd 6 [.c,.c,.c,.c,.v (.sl 0 0 w N),.c,.c,.c,.c,.v (zP 0 (w*2)),.v (FQ X V),.c,.c] (Qq H (Qq (jf (e:=168) (by kernel_rfl) (by kernel_rfl) z (cB w):aR (E.wo U) 169 (l9 (E.wo U) (.sl 0 0 (w+1) N)) (zI (IntKind.i64.wrap ((↑(w+1):Int) - 1)))=some (zP 0 (w*2))) (Qq (Q (Fh W S g) rfl) (Qp (Q (Fh W S g) rfl) (Qs (zI (↑(w+1):Int)) (Qs (zI (↑(w+1):Int)) (Qn 1)))))))) (by kernel_rfl)
end
section
variable(U:Old)(F:Fw U)(y:Gw U)(t v u r:Nat)(A B:AV)(S W:List AV)(g:Bool)(O:Option Nat)(w X:Nat)(p:w<=268435456)(V:Int)(x:Nat)(q:V=(↑x:Int))(s:x<u)(R:List UInt8)(N:Option (Nat×Nat))(M L:Nat)(T:Int)(K:Option (Nat×Nat))(P J:Nat)(o:∀h:AH,loadT (E.wo U) h 65 (OLD+t) (v+x*4)=some (qX R N M L T K P J))(Q:∀h:AH,h.obj 0= .cells S 168 g false->loadT (E.wo U) h 168 0 (w*2)=some (.agg [.ptr 1 X,zI V]))(H:iN (E.wo U) 169 (.sl 0 0 (w+1) O) none (some (zI (IntKind.i64.wrap ((↑(w+1):Int) - 1)))) none=some (.sl 0 0 w O))(G:IntKind.i64.wrap ((↑(w+1):Int) - 1)=(↑w:Int))(C:DC U 21 [mK R N M L] (qy X V W S g R N M L T K P J) (U3 R) (qy X V W S g R N M L T K P J))(z:List AV)(D:dD (qy X V W S g R N M L T K P J) 1 X [.str R,.aM,zI T,.aM]=some (qy X V z S g R N M L T K P J))
include U F y t v u r A B S W g O w X p V x q s R N M L T K P J o Q H G C z D
theorem Lc:DR U (ent (E.wo U) 75 [.sl 0 0 (w+1) O]) (Fp W S g) (.bV [.sl 0 0 w O,FQ X V]) (Fj X V W S g):=
 prt F y (Qd 6 [.c,.c,.c,.c,.v (.sl 0 0 w O),.c,.c,.c,.c,.v (zP 0 (w*2)),.v (FQ X V),.c,.c] (Qq H (Qq (jf (e:=168) (by kernel_rfl) (by kernel_rfl) G (cB w):aR (E.wo U) 169 (l9 (E.wo U) (.sl 0 0 (w+1) O)) (zI (IntKind.i64.wrap ((↑(w+1):Int) - 1)))=some (zP 0 (w*2))) (Qq (Q (Fh W S g) rfl) (Qp (Q (Fh W S g) rfl) (Qs (zI (↑(w+1):Int)) (Qs (zI (↑(w+1):Int)) (Qn 1)))))))) (by kernel_rfl)
theorem La(a:List AV)(b:P<=1048576)(d:dD (lX (iL X V) (iP z) (.cells (rep P [.str [],.aM,zI 0,.aM]) 28 false false) (.cells S 168 g false) (dR R N M L T K P J) (iL X V)) 1 (X+3) [.sl 5 0 P (some P)]=some (lX (iL X V) (iP a) (.cells (rep P [.str [],.aM,zI 0,.aM]) 28 false false) (.cells S 168 g false) (dR R N M L T K P J) (iL X V))):DR U (ent (E.wo U) 75 [.sl 0 0 (w+1) O]) (Fp W S g) (.bV [.sl 0 0 w O,FQ X V]) (Fj X V W S g):=
 prt F y (Qd 6 [.c,.c,.c,.c,.v (.sl 0 0 w O),.c,.c,.c,.c,.v (zP 0 (w*2)),.v (FQ X V),.c,.c] (Qq H (Qq (jf (e:=168) (by kernel_rfl) (by kernel_rfl) G (cB w):aR (E.wo U) 169 (l9 (E.wo U) (.sl 0 0 (w+1) O)) (zI (IntKind.i64.wrap ((↑(w+1):Int) - 1)))=some (zP 0 (w*2))) (Qq (Q (Fh W S g) rfl) (Qp (Q (Fh W S g) rfl) (Qs (zI (↑(w+1):Int)) (Qs (zI (↑(w+1):Int)) (Qn 1)))))))) (by kernel_rfl)
end
section
variable(X:Old)(F:Fw X)(Q:Gw X)(R V U T:Nat)
include X F Q R V U T
theorem NG(A B:AV)(S W:List AV)(g:Bool)(cp:Option Nat)(w off:Nat)(K:List AV)(at0:Int)(d e kn kc:Nat)(j:Int)(y:Nat)(k:j=(↑y:Int))(ly:y<kn)(a:Int)(l:∀h:AH,loadT (E.wo X) h 3 (OLD+d) (e+y*1)=some (zI a))(f:∀h:AH,h.obj 1= .cells W 28 false false->loadT (E.wo X) h 26 1 (off+3)=some (.sl 3 0 kn (some kn)))(b:Nat)(cp2:Option Nat)(c:AH)(i:jv (E.wo X) (yC (iP K) (iP W) (.cells S 168 g false) (.cells [.ptr 3 (y*4),zI a] 168 false false) (iL off at0)) .append [.sl 0 0 w cp,.sl 4 0 1 (some 1)] [169,169]=some (.val (.sl b 0 (w+1) cp2) c)):DR X (ent (E.wo X) 76 [.sl 0 0 w cp,.sl 4 0 1 (some 1)]) (yC (iP K) (iP W) (.cells S 168 g false) (.cells [zP 3 (y*4),zI a] 168 false false) (iL off at0)) (.sl b 0 (w+1) cp2) c:=
 prt F Q (Ql 8 i (Qn 3)) (by kernel_rfl)
theorem gx0(at0:Int):DS X (ent (E.wo X) 36 [.aO (some (R,V)) U T,zI at0]) ⟨.e,0,0⟩ (Fu (zP 1 0) (.aO (some (R,V)) U T) (zP 0 0) (.sl 2 0 1 (some 1))) (bG pI pI (.cells [zP 1 0,zI at0] 168 false false)):=
 jK F Q [0,4,5,6] (Qn 18) (by kernel_rfl)
theorem gx5(cp:Option Nat)(rel:List UInt8)(pa:Option (Nat×Nat))(na ca:Nat)(rule:Int)(pk:Option (Nat×Nat))(kn kc:Nat):DR X (Fu (.ptr 0 0) (.aO (some (R,V)) U T) (.ptr 1 0) (.sl 2 0 0 cp)) (ji pI (mg rel pa na ca rule pk kn kc)) (qX rel pa na ca rule pk kn kc) (ji (mg rel pa na ca rule pk kn kc) (mg rel pa na ca rule pk kn kc)):=
 prt F Q (Qn 15) (by kernel_rfl)
end
section
variable(Q:Old)(F:Fw Q)(q:Gw Q)(z C t s:Nat)(A B:AV)(S W:List AV)(g:Bool)(D:Option Nat)(w X:Nat)(m:w<=268435456)(U:Int)(x:Nat)(o:U=(↑x:Int))(p:x<t)(T:List UInt8)(N:Option (Nat×Nat))(P L:Nat)(V:Int)(O:Option (Nat×Nat))(R M:Nat)(n:∀h:AH,loadT (E.wo Q) h 65 (OLD+z) (C+x*4)=some (qX T N P L V O R M))(y:∀h:AH,h.obj 0= .cells S 168 g false->loadT (E.wo Q) h 168 0 (w*2)=some (.agg [.ptr 1 X,zI U]))(r:iN (E.wo Q) 169 (.sl 0 0 (w+1) D) none (some (zI (IntKind.i64.wrap ((↑(w+1):Int) - 1)))) none=some (.sl 0 0 w D))(l:IntKind.i64.wrap ((↑(w+1):Int) - 1)=(↑w:Int))(K:List AV)(J:Bool)(H:Option Nat)(u:DC Q 21 [mK T N P L] (qy X U W S g T N P L V O R M) (.agg [.str T,.sl 5 0 P H]) (tF X U W K J S g T N P L V O R M))(G:List AV)(v:dD (tF X U W K J S g T N P L V O R M) 1 X [.str T,.sl 5 0 P H,zI V,.aM]=some (tF X U G K J S g T N P L V O R M))
include Q F q z C t s A B S W g D w X m U x o p T N P L V O R M n y r l K J H u G v
theorem afW(a:(decide ((↑(w+1):Int)>0))=true)(o2:(decide ((↑R:Int)>0))=false):DS Q (Fu B (.aO (some (z,C)) t s) A (.sl 0 0 (w+1) D)) (ji (iP W) (.cells S 168 g false)) (J8 (zP 2 0) (zI 0) (.aO O R M) B (.aO (some (z,C)) t s) A (zI (↑R:Int)) (.sl 0 0 w D)) (tF X U G K J S g T N P L V O R M):=
 jK F q [0,4,5,6,7,49,50,51] (Qb 5 a (Qk 11 (DoesC.ent q (by kernel_rfl) (Ld Y Z Q F q z C t s A B S W g D w X m U x o p T N P L V O R M n y r l K J H u G v ):DC Q 75 [.sl 0 0 (w+1) D] (Fp W S g) (.bV [.sl 0 0 w D,FQ X U]) (Fj X U W S g)) (Qv 11 (gL (e:=65) (by kernel_rfl) (by kernel_rfl) rfl o p:aR (E.wo Q) 30 (l9 (E.wo Q) (.aO (some (z,C)) t s)) (zI U)=some (zP (1152921504606846976+z) (C+x*4))) (Qv 0 (n (iK (iL X U) (iP W) (.cells S 168 g false) (iL X U))) (Qd 4 [.c,.c,.c,.c,.k (.agg [.str T,.sl 5 0 P H]) (tF X U W K J S g T N P L V O R M),.c,.c,.c,.c,.l (.bV []) (tF X U G K J S g T N P L V O R M)] (Qp u (Qz (Qp (jR (by kernel_rfl) rfl v:fU (E.wo Q) (tF X U W K J S g T N P L V O R M) 28 (zP 1 X) (.agg [.str T,.sl 5 0 P H,zI V,.aM])=some (.val (.bV []) (tF X U G K J S g T N P L V O R M))) (Qs (zI V) (Qs (zI V) (Qs (mK T N P L) (Qs (zP 1 X) (Qs (zP 1 X) (Qb 6 o2 (Qn 12))))))))))))))) (by kernel_rfl)
theorem afU(a:List AV)(b:R<=1048576)(d:dD (zu (iL X U) (iP G) (.cells K 94 J false) (.cells S 168 g false) (dR T N P L V O R M) (iL X U) (.cells (rep R [.str [],.aM,zI 0,.aM]) 28 false false)) 1 (X+3) [.sl 6 0 R (some R)]=some (zu (iL X U) (iP a) (.cells K 94 J false) (.cells S 168 g false) (dR T N P L V O R M) (iL X U) (.cells (rep R [.str [],.aM,zI 0,.aM]) 28 false false)))(f:(decide ((↑(w+1):Int)>0))=true)(o2:(decide ((↑R:Int)>0))=true):DS Q (Fu B (.aO (some (z,C)) t s) A (.sl 0 0 (w+1) D)) (ji (iP W) (.cells S 168 g false)) (J8 (zP 2 0) (zI 0) (.aO O R M) B (.aO (some (z,C)) t s) A (zI (↑R:Int)) (.sl 0 0 w D)) (zu (iL X U) (iP a) (.cells K 94 J false) (.cells S 168 g false) (dR T N P L V O R M) (iL X U) (.cells (rep R [AV.str [],AV.aM,AV.int IntKind.i64 0,AV.aM]) 28 false false)):=
 jK F q [0,4,5,6,7,49,50,51] (Qb 5 f (Qk 11 (DoesC.ent q (by kernel_rfl) (Lb Y Z Q F q z C t s A B S W g D w X m U x o p T N P L V O R M n y r l K J H u G v a b d ):DC Q 75 [.sl 0 0 (w+1) D] (Fp W S g) (.bV [.sl 0 0 w D,FQ X U]) (Fj X U W S g)) (Qv 11 (gL (e:=65) (by kernel_rfl) (by kernel_rfl) rfl o p:aR (E.wo Q) 30 (l9 (E.wo Q) (.aO (some (z,C)) t s)) (zI U)=some (zP (1152921504606846976+z) (C+x*4))) (Qv 0 (n (iK (iL X U) (iP W) (.cells S 168 g false) (iL X U))) (Qd 4 [.c,.c,.c,.c,.k (.agg [.str T,.sl 5 0 P H]) (tF X U W K J S g T N P L V O R M),.c,.c,.c,.c,.l (.bV []) (tF X U G K J S g T N P L V O R M)] (Qp u (Qz (Qp (jR (by kernel_rfl) rfl v:fU (E.wo Q) (tF X U W K J S g T N P L V O R M) 28 (zP 1 X) (.agg [.str T,.sl 5 0 P H,zI V,.aM])=some (.val (.bV []) (tF X U G K J S g T N P L V O R M))) (Qs (zI V) (Qs (zI V) (Qs (mK T N P L) (Qs (zP 1 X) (Qs (zP 1 X) (Qb 6 o2 (Qd 2 [.c,.c,.c,.c,.c,.l (.sl 6 0 R (some R)) (zu (iL X U) (iP G) (.cells K 94 J false) (.cells S 168 g false) (dR T N P L V O R M) (iL X U) (.cells (rep R [AV.str [],AV.aM,AV.int IntKind.i64 0,AV.aM]) 28 false false)),.c,.c,.l (.bV []) (zu (iL X U) (iP a) (.cells K 94 J false) (.cells S 168 g false) (dR T N P L V O R M) (iL X U) (.cells (rep R [AV.str [],AV.aM,AV.int IntKind.i64 0,AV.aM]) 28 false false))] (Qq (wZ (e:=28) (by kernel_rfl) (by kernel_rfl) b:eF (E.wo Q) (tF X U G K J S g T N P L V O R M) 26 (zI (↑R:Int)) (zI (↑R:Int))=some (.val (.sl 6 0 R (some R)) (zu (iL X U) (iP G) (.cells K 94 J false) (.cells S 168 g false) (dR T N P L V O R M) (iL X U) (.cells (rep R [AV.str [],AV.aM,AV.int IntKind.i64 0,AV.aM]) 28 false false)))) (Qz (Qp (F3 (by kernel_rfl) rfl rfl d:fU (E.wo Q) (zu (iL X U) (iP G) (.cells K 94 J false) (.cells S 168 g false) (dR T N P L V O R M) (iL X U) (.cells (rep R [AV.str [],AV.aM,AV.int IntKind.i64 0,AV.aM]) 28 false false)) 26 (zP 1 (X+3)) (.sl 6 0 R (some R))=some (.val (.bV []) (zu (iL X U) (iP a) (.cells K 94 J false) (.cells S 168 g false) (dR T N P L V O R M) (iL X U) (.cells (rep R [AV.str [],AV.aM,AV.int IntKind.i64 0,AV.aM]) 28 false false)))) (Qs (zI (↑R:Int)) (Qs (.aO O R M) (Qs (zP 1 X) (Qn 9)))))))))))))))))))))) (by kernel_rfl)
end
section
variable(Q:Old)(F:Fw Q)(t:Gw Q)(G H y v:Nat)(A B:AV)(S W:List AV)(g:Bool)(J:Option Nat)(w X:Nat)(p:w<=268435456)(U:Int)(x:Nat)(r:U=(↑x:Int))(s:x<y)(T:List UInt8)(O:Option (Nat×Nat))(N L:Nat)(V:Int)(P:Option (Nat×Nat))(R M:Nat)(q:∀h:AH,loadT (E.wo Q) h 65 (OLD+G) (H+x*4)=some (qX T O N L V P R M))(D:∀h:AH,h.obj 0= .cells S 168 g false->loadT (E.wo Q) h 168 0 (w*2)=some (.agg [.ptr 1 X,zI U]))(u:iN (E.wo Q) 169 (.sl 0 0 (w+1) J) none (some (zI (IntKind.i64.wrap ((↑(w+1):Int) - 1)))) none=some (.sl 0 0 w J))(o:IntKind.i64.wrap ((↑(w+1):Int) - 1)=(↑w:Int))(z:DC Q 21 [mK T O N L] (qy X U W S g T O N L V P R M) (U3 T) (qy X U W S g T O N L V P R M))(K:List AV)(C:dD (qy X U W S g T O N L V P R M) 1 X [.str T,.aM,zI V,.aM]=some (qy X U K S g T O N L V P R M))
include Q F t G H y v A B S W g J w X p U x r s T O N L V P R M q D u o z K C
theorem afV(a:(decide ((↑(w+1):Int)>0))=true)(o2:(decide ((↑R:Int)>0))=false):DS Q (Fu B (.aO (some (G,H)) y v) A (.sl 0 0 (w+1) J)) (ji (iP W) (.cells S 168 g false)) (J8 (zP 2 0) (zI 0) (.aO P R M) B (.aO (some (G,H)) y v) A (zI (↑R:Int)) (.sl 0 0 w J)) (qy X U K S g T O N L V P R M):=
 jK F t [0,4,5,6,7,49,50,51] (Qb 5 a (Qk 11 (DoesC.ent t (by kernel_rfl) (Lc Y Z Q F t G H y v A B S W g J w X p U x r s T O N L V P R M q D u o z K C ):DC Q 75 [.sl 0 0 (w+1) J] (Fp W S g) (.bV [.sl 0 0 w J,FQ X U]) (Fj X U W S g)) (Qv 11 (gL (e:=65) (by kernel_rfl) (by kernel_rfl) rfl r s:aR (E.wo Q) 30 (l9 (E.wo Q) (.aO (some (G,H)) y v)) (zI U)=some (zP (1152921504606846976+G) (H+x*4))) (Qv 0 (q (iK (iL X U) (iP W) (.cells S 168 g false) (iL X U))) (Qd 4 [.c,.c,.c,.c,.k (U3 T) (qy X U W S g T O N L V P R M),.c,.c,.c,.c,.l (.bV []) (qy X U K S g T O N L V P R M)] (Qp z (Qz (Qp (jR (by kernel_rfl) rfl C:fU (E.wo Q) (qy X U W S g T O N L V P R M) 28 (zP 1 X) (.agg [.str T,.aM,zI V,.aM])=some (.val (.bV []) (qy X U K S g T O N L V P R M))) (Qs (zI V) (Qs (zI V) (Qs (mK T O N L) (Qs (zP 1 X) (Qs (zP 1 X) (Qb 6 o2 (Qn 12))))))))))))))) (by kernel_rfl)
theorem afT(a:List AV)(b:R<=1048576)(d:dD (lX (iL X U) (iP K) (.cells (rep R [.str [],.aM,zI 0,.aM]) 28 false false) (.cells S 168 g false) (dR T O N L V P R M) (iL X U)) 1 (X+3) [.sl 5 0 R (some R)]=some (lX (iL X U) (iP a) (.cells (rep R [.str [],.aM,zI 0,.aM]) 28 false false) (.cells S 168 g false) (dR T O N L V P R M) (iL X U)))(f:(decide ((↑(w+1):Int)>0))=true)(o2:(decide ((↑R:Int)>0))=true):DS Q (Fu B (.aO (some (G,H)) y v) A (.sl 0 0 (w+1) J)) (ji (iP W) (.cells S 168 g false)) (J8 (zP 2 0) (zI 0) (.aO P R M) B (.aO (some (G,H)) y v) A (zI (↑R:Int)) (.sl 0 0 w J)) (lX (iL X U) (iP a) (.cells (rep R [AV.str [],AV.aM,AV.int IntKind.i64 0,AV.aM]) 28 false false) (.cells S 168 g false) (dR T O N L V P R M) (iL X U)):=
 jK F t [0,4,5,6,7,49,50,51] (Qb 5 f (Qk 11 (DoesC.ent t (by kernel_rfl) (La Y Z Q F t G H y v A B S W g J w X p U x r s T O N L V P R M q D u o z K C a b d ):DC Q 75 [.sl 0 0 (w+1) J] (Fp W S g) (.bV [.sl 0 0 w J,FQ X U]) (Fj X U W S g)) (Qv 11 (gL (e:=65) (by kernel_rfl) (by kernel_rfl) rfl r s:aR (E.wo Q) 30 (l9 (E.wo Q) (.aO (some (G,H)) y v)) (zI U)=some (zP (1152921504606846976+G) (H+x*4))) (Qv 0 (q (iK (iL X U) (iP W) (.cells S 168 g false) (iL X U))) (Qd 4 [.c,.c,.c,.c,.k (U3 T) (qy X U W S g T O N L V P R M),.c,.c,.c,.c,.l (.bV []) (qy X U K S g T O N L V P R M)] (Qp z (Qz (Qp (jR (by kernel_rfl) rfl C:fU (E.wo Q) (qy X U W S g T O N L V P R M) 28 (zP 1 X) (.agg [.str T,.aM,zI V,.aM])=some (.val (.bV []) (qy X U K S g T O N L V P R M))) (Qs (zI V) (Qs (zI V) (Qs (mK T O N L) (Qs (zP 1 X) (Qs (zP 1 X) (Qb 6 o2 (Qd 2 [.c,.c,.c,.c,.c,.l (.sl 5 0 R (some R)) (lX (iL X U) (iP K) (.cells (rep R [AV.str [],AV.aM,AV.int IntKind.i64 0,AV.aM]) 28 false false) (.cells S 168 g false) (dR T O N L V P R M) (iL X U)),.c,.c,.l (.bV []) (lX (iL X U) (iP a) (.cells (rep R [AV.str [],AV.aM,AV.int IntKind.i64 0,AV.aM]) 28 false false) (.cells S 168 g false) (dR T O N L V P R M) (iL X U))] (Qq (wZ (e:=28) (by kernel_rfl) (by kernel_rfl) b:eF (E.wo Q) (qy X U K S g T O N L V P R M) 26 (zI (↑R:Int)) (zI (↑R:Int))=some (.val (.sl 5 0 R (some R)) (lX (iL X U) (iP K) (.cells (rep R [AV.str [],AV.aM,AV.int IntKind.i64 0,AV.aM]) 28 false false) (.cells S 168 g false) (dR T O N L V P R M) (iL X U)))) (Qz (Qp (F3 (by kernel_rfl) rfl rfl d:fU (E.wo Q) (lX (iL X U) (iP K) (.cells (rep R [AV.str [],AV.aM,AV.int IntKind.i64 0,AV.aM]) 28 false false) (.cells S 168 g false) (dR T O N L V P R M) (iL X U)) 26 (zP 1 (X+3)) (.sl 5 0 R (some R))=some (.val (.bV []) (lX (iL X U) (iP a) (.cells (rep R [AV.str [],AV.aM,AV.int IntKind.i64 0,AV.aM]) 28 false false) (.cells S 168 g false) (dR T O N L V P R M) (iL X U)))) (Qs (zI (↑R:Int)) (Qs (.aO P R M) (Qs (zP 1 X) (Qn 9)))))))))))))))))))))) (by kernel_rfl)
end
section
variable(X:Old)(F:Fw X)(Q:Gw X)(R V U T:Nat)(A B:AV)
include X F Q R V U T A B
theorem gx3(S W:List AV)(g:Bool)(cp:Option Nat)(w off:Nat)(K:List AV)(at0:Int)(b c kn kc:Nat)(j:Int)(y:Nat)(k:j=(↑y:Int))(ly:y<kn)(a:Int)(l:∀h:AH,loadT (E.wo X) h 3 (OLD+b) (c+y*1)=some (zI a))(d:∀h:AH,h.obj 1= .cells W 28 false false->loadT (E.wo X) h 26 1 (off+3)=some (.sl 3 0 kn (some kn)))(f:Nat)(cp2:Option Nat)(i:AH)(m:jv (E.wo X) (yC (iP K) (iP W) (.cells S 168 g false) (.cells [.ptr 3 (y*4),zI a] 168 false false) (iL off at0)) .append [.sl 0 0 w cp,.sl 4 0 1 (some 1)] [169,169]=some (.val (.sl f 0 (w+1) cp2) i))(n:(decide (j<(↑kn:Int)))=true):DS X (aaO (zI j) (.aO (some (b,c)) kn kc) B (.aO (some (R,V)) U T) A (zI (↑kn:Int)) (.sl 0 0 w cp)) (iK (iP K) (iP W) (.cells S 168 g false) (iL off at0)) (J8 (zP 2 0) (zI (IntKind.i64.wrap (j+1))) (.aO (some (b,c)) kn kc) B (.aO (some (R,V)) U T) A (zI (↑kn:Int)) (.sl f 0 (w+1) cp2)) i:=
 jK F Q [0,4,5,6,7,49,50,51] (Qb 2 n (Qv 9 (gL (e:=3) (by kernel_rfl) (by kernel_rfl) rfl k ly:aR (E.wo X) 55 (l9 (E.wo X) (.aO (some (b,c)) kn kc)) (zI j)=some (zP (1152921504606846976+b) (c+y*1))) (Qv 0 (l (iK (iP K) (iP W) (.cells S 168 g false) (iL off at0))) (Qv 9 (d (iK (iP K) (iP W) (.cells S 168 g false) (iL off at0)) rfl) (Qv 1 (y26 X 3 (some kn) k ly) (Qk 3 (DoesC.ent Q (by kernel_rfl) (NG Y Z X F Q R V U T A B S W g cp w off K at0 b c kn kc j y k ly a l d f cp2 i m ):DC X 76 [.sl 0 0 w cp,.sl 4 0 1 (some 1)] (yC (iP K) (iP W) (.cells S 168 g false) (.cells [zP 3 (y*4),zI a] 168 false false) (iL off at0)) (.sl f 0 (w+1) cp2) i) (Qn 8))))))) (by kernel_rfl)
theorem gx4(w:Nat)(st:AV)(pk:Option (Nat×Nat))(kn kc:Nat)(j:Int)(a:(decide (j<(↑kn:Int)))=false):DS X (aaO (zI j) (.aO pk kn kc) B (.aO (some (R,V)) U T) A (zI (↑kn:Int)) st) ⟨.e,3,0⟩ (Fu B (.aO (some (R,V)) U T) A st) ⟨.e,3,0⟩:=
 jK F Q [0,4,5,6] (Qb 2 a (Qn 6)) (by kernel_rfl)
end
end
section
variable(Y:Fe)(Z:Ge)
include Y Z
section
variable(X:Old)(F:Fw X)(T:Gw X)(V W n U:Nat)
include X F T V W n U
theorem sz0(a:n<=1048576):DS X (ent (E.wo X) 35 [.aO (some (V,W)) n U]) ⟨.e,0,0⟩ (OE (zI (↑n:Int)) (.sl 0 0 n (some n)) (.aO (some (V,W)) n U) (zI 0)) (aC (.cells (rep n [AV.int IntKind.i64 0]) 3 false false)):=
 jK F T [4,12,13,14] (Ql 9 (wZ (e:=3) (by kernel_rfl) (by kernel_rfl) a:eF (E.wo X) ⟨.e,0,0⟩ 55 (zI (↑n:Int)) (zI (↑n:Int))=some (.val (.sl 0 0 n (some n)) (aC (.cells (rep n [AV.int IntKind.i64 0]) 3 false false)))) (Qn 11)) (by kernel_rfl)
theorem sz1(ws:List AV)(i:Int)(x:Nat)(f:i=(↑x:Int))(lx:x<n)(rel:List UInt8)(b:Option (Nat×Nat))(c d:Nat)(rule:Int)(pk:Option (Nat×Nat))(kn kc:Nat)(g:∀h:AH,loadT (E.wo X) h 65 (OLD+V) (W+x*4)=some (qX rel b c d rule pk kn kc))(a:List AV)(k:dD (ji (dR rel b c d rule pk kn kc) (oZ ws)) 0 (x*1) [zI 1]=some (ji (dR rel b c d rule pk kn kc) (oZ a)))(l:(decide (i<(↑n:Int)))=true):DS X (OE (zI (↑n:Int)) (.sl 0 0 n (some n)) (.aO (some (V,W)) n U) (zI i)) (aC (oZ ws)) (Iz (.aO pk kn kc) (zI 0) (zI i) (zI (↑n:Int)) (zI (↑kn:Int)) (.sl 0 0 n (some n)) (.aO (some (V,W)) n U) (zI i)) (ji (dR rel b c d rule pk kn kc) (oZ a)):=
 jK F T [4,5,12,13,14,23,24,25] (Qb 2 l (Qv 9 (gL (e:=65) (by kernel_rfl) (by kernel_rfl) rfl f lx:aR (E.wo X) 30 (l9 (E.wo X) (.aO (some (V,W)) n U)) (zI i)=some (zP (1152921504606846976+V) (W+x*4))) (Qv 0 (g (aC (oZ ws))) (Qv 8 (Yi X 0 (some n) f lx) (Ql 0 (F4 (by kernel_rfl) k:fU (E.wo X) (ji (dR rel b c d rule pk kn kc) (oZ ws)) 3 (zP 0 (x*1)) (zI 1)=some (.val (.bV []) (ji (dR rel b c d rule pk kn kc) (oZ a)))) (Qn 10)))))) (by kernel_rfl)
theorem sz5(i:Int)(a b:Nat)(c:(decide (i<(↑n:Int)))=false):DR X (OE (zI (↑n:Int)) (.aO (some (a,0)) n b) (.aO (some (V,W)) n U) (zI i)) ⟨.e,0,0⟩ (.bV [.aO (some (a,0)) n b,.bool true]) ⟨.e,0,0⟩:=
 prt F T (Qb 2 c (Qn 11)) (by kernel_rfl)
end
section
variable(X:Old)(F:Fw X)(K:Gw X)(O Q n P:Nat)(W:List AV)(i:Int)(S T U R:Nat)(j:Int)(y:Nat)(M:j=(↑y:Int))(N:y<U)(V:Int)(L:∀h:AH,loadT (E.wo X) h 3 (OLD+S) (T+y*1)=some (zI V))
include X F K O Q n P W i S T U R j y M N V L
theorem afK(a:(decide (j<(↑U:Int)))=true)(o2:(decide (V<0))=true):DR X (Iz (.aO (some (S,T)) U R) (zI j) (zI i) (zI (↑n:Int)) (zI (↑U:Int)) (.sl 0 0 n (some n)) (.aO (some (O,Q)) n P) (zI i)) (aC (oZ W)) (.bV [.aM,.bool false]) (aC (oZ W)):=
 prt F K (Qb 2 a (Qv 8 (gL (e:=3) (by kernel_rfl) (by kernel_rfl) rfl M N:aR (E.wo X) 55 (l9 (E.wo X) (.aO (some (S,T)) U R)) (zI j)=some (zP (1152921504606846976+S) (T+y*1))) (Qv 0 (L (aC (oZ W))) (Qb 6 o2 (Qn 13))))) (by kernel_rfl)
theorem afJ(a:(decide (j<(↑U:Int)))=true)(o2:(decide (V<0))=false)(b:(decide (V≥i))=true):DR X (Iz (.aO (some (S,T)) U R) (zI j) (zI i) (zI (↑n:Int)) (zI (↑U:Int)) (.sl 0 0 n (some n)) (.aO (some (O,Q)) n P) (zI i)) (aC (oZ W)) (.bV [.aM,.bool false]) (aC (oZ W)):=
 prt F K (Qb 2 a (Qv 8 (gL (e:=3) (by kernel_rfl) (by kernel_rfl) rfl M N:aR (E.wo X) 55 (l9 (E.wo X) (.aO (some (S,T)) U R)) (zI j)=some (zP (1152921504606846976+S) (T+y*1))) (Qv 0 (L (aC (oZ W))) (Qb 6 o2 (Qb 3 b (Qn 9)))))) (by kernel_rfl)
theorem sz2(x z:Nat)(b:i=(↑x:Int))(lx:x<n)(g:V=(↑z:Int))(k:z<n)(u v:Int)(d:∀h:AH,h.obj 0= .cells W 3 false false->loadT (E.wo X) h 3 0 (x*1)=some (zI u))(f:∀h:AH,h.obj 0= .cells W 3 false false->loadT (E.wo X) h 3 0 (z*1)=some (zI v))(a:List AV)(s:Int)(q:IntKind.i64.wrap (u+v)=s)(m:dD (aC (oZ W)) 0 (x*1) [zI (bif decide (65537<IntKind.i64.wrap (u+v))then 65537 else IntKind.i64.wrap (u+v))]=some (aC (oZ a)))(o:(decide (j<(↑U:Int)))=true)(o2:(decide (V<0))=false)(p:(decide (V≥i))=false):DS X (Iz (.aO (some (S,T)) U R) (zI j) (zI i) (zI (↑n:Int)) (zI (↑U:Int)) (.sl 0 0 n (some n)) (.aO (some (O,Q)) n P) (zI i)) (aC (oZ W)) (Iz (.aO (some (S,T)) U R) (zI (IntKind.i64.wrap (j+1))) (zI i) (zI (↑n:Int)) (zI (↑U:Int)) (.sl 0 0 n (some n)) (.aO (some (O,Q)) n P) (zI i)) (aC (oZ a)):=
 jK F K [4,5,12,13,14,23,24,25] (Qb 2 o (Qv 8 (gL (e:=3) (by kernel_rfl) (by kernel_rfl) rfl M N:aR (E.wo X) 55 (l9 (E.wo X) (.aO (some (S,T)) U R)) (zI j)=some (zP (1152921504606846976+S) (T+y*1))) (Qv 0 (L (aC (oZ W))) (Qb 6 o2 (Qb 3 p (Qd 4 [.c,.c,.c,.c,.v (zP 0 (x*1)),.v (zI u),.c,.c,.v (zP 0 (z*1)),.v (zI v),.c,.c,.v (zP 0 (x*1)),.l (.bV []) (aC (oZ a))] (Qq (Yi X 0 (some n) b lx) (Qq (d (aC (oZ W)) rfl) (Qq (Yi X 0 (some n) g k) (Qq (f (aC (oZ W)) rfl) (Qq (Yi X 0 (some n) b lx) (Qz (Qp (F4 (by kernel_rfl) m:fU (E.wo X) (aC (oZ W)) 3 (zP 0 (x*1)) (zI (bif decide (65537<IntKind.i64.wrap (u+v))then 65537 else IntKind.i64.wrap (u+v)))=some (.val (.bV []) (aC (oZ a)))) (Qs (zI (bif decide (65537<IntKind.i64.wrap (u+v))then 65537 else IntKind.i64.wrap (u+v))) (Qp (f (aC (oZ W)) rfl) (Qp (d (aC (oZ W)) rfl) (Qn 6))))))))))))))))) (by kernel_rfl)
end
theorem sz4(old:Old)(F:Fw old)(FF:Gw old)(lb lo n lc:Nat)(ws:List AV)(i:Int)(pk:Option (Nat×Nat))(kn kc:Nat)(j:Int)(a:(decide (j<(↑kn:Int)))=false):DS old (Iz (.aO pk kn kc) (zI j) (zI i) (zI (↑n:Int)) (zI (↑kn:Int)) (.sl 0 0 n (some n)) (.aO (some (lb,lo)) n lc) (zI i)) (aC (oZ ws)) (OE (zI (↑n:Int)) (.sl 0 0 n (some n)) (.aO (some (lb,lo)) n lc) (zI (IntKind.i64.wrap (i+1)))) (aC (oZ ws)):=
 jK F FF [4,12,13,14] (Qb 2 a (Qn 10)) (by kernel_rfl)
end
structure PF where
 rel:List UInt8
 args:List PV
structure FC where
 a:Option (Nat×Nat)
 c:Nat
 r:PF
def FC.cells(x:FC):List AV:=[.str x.r.rel,.aO x.a x.r.args.length x.c]
def okF(old:Old)(x:FC):Prop:=iM old (.aO x.a x.r.args.length x.c) x.r.args∧x.r.args.length<=268435456
abbrev EF(old:Old):={ x:FC // okF old x }
def eZ{old:Old}(x:EF old):List AV:=x.1.cells
def FK(x y:PF):Int:=Us x.rel x.args y.rel y.args
def kP{old:Old}(x y:EF old):Int:=FK x.1.r y.1.r
theorem CW{old:Old}(x:EF old):(eZ x).length=2:=rfl
theorem JJ{old:Old}(x:EF old):lu (eZ x)=true:=rfl
theorem zi{old:Old}(n:Nat)(x:EF old):∀a∈eZ x,AV.low n a=true:=by
 intro a h;simp only[eZ,FC.cells,ay,aB,bn]at h;rcases h with rfl|rfl<;>rfl
def jP{old:Old}(l:List (EF old)):AO:= .cells (l.flatMap eZ) 25 true false
theorem jB{old:Old}(l:List (EF old)):fH 1 (zL (jP l))=true:=by
 show(true&&AV.dX 1 (l.flatMap eZ)&&true)=true;rw[ZN (zi 1) l];rfl
section
variable(X:Fe)(Z:Ge)(old:Old)(F:Fw old)(Y:Gw old)
include X Z F Y
theorem c29(x y:EF old):DC old 29 [.agg (eZ x),.agg (eZ y)] eH (zI (kP x y)) eH:=
 c49 X Z old F Y x.2.1 y.2.1 x.2.2
end
section
variable(Y:Fe)(Z:Ge)
include Y Z
theorem lf1(old:Old)(F:Fw old)(FF:Gw old)(q m c:Nat)(i:Int)(x:Nat)(hx:i=(↑x:Int))(lx:x<m)(bt ot:Nat)(hP:∀h:AH,loadT (E.wo old) h 54 (OLD+q) (0+x*1)=some (.ptr (OLD+bt) ot))(a:List UInt8)(p:Nat×Nat)(n fc:Nat)(l:∀h:AH,loadT (E.wo old) h 25 (OLD+bt) (ot+0)=some (Qx a p n fc))(d:List AV)(b:Option Nat)(g:Bool)(f:DC old 27 [.ptr (OLD+bt) ot] ⟨.e,0,0⟩ (.bool true) ⟨.e,0,0⟩)(j:DC old 21 [Qx a p n fc] ⟨.e,0,0⟩ (.agg [.str a,.sl 0 0 n b]) (aC (.cells d 94 g false)))(o:(decide (i<(↑m:Int)))=true):DS old (SA m q c i) ⟨.e,0,0⟩ (vU (.sl 2 0 1 none) (zI (↑m:Int)) (.aO (some (q,0)) m c) (zI (IntKind.i64.wrap (i+1)))) (bG (.cells [.str a,.sl 0 0 n b] 25 false false) (.cells d 94 g false) (.cells [.str a,.sl 0 0 n b] 25 true false)):=
 KL F FF (obs:=[some true=some true,some (AV.bool (decide (i<(↑m:Int))))=some (AV.bool true),some true=some true,aR (E.wo old) 51 (l9 (E.wo old) (.aO (some (q,0)) m c)) (zI i)=some (zP (1152921504606846976+q) (0+x*1)),some true=some true,loadT (E.wo old) ⟨.e,0,0⟩ 54 (1152921504606846976+q) (0+x*1)=some (zP (1152921504606846976+bt) ot),DC old 27 [zP (1152921504606846976+bt) ot] ⟨.e,0,0⟩ (.bool true) ⟨.e,0,0⟩,some true=some true,loadT (E.wo old) ⟨.e,0,0⟩ 25 (1152921504606846976+bt) (ot+0)=some (Qx a p n fc),DC old 21 [Qx a p n fc] ⟨.e,0,0⟩ (.agg [.str a,.sl 0 0 n b]) (aC (.cells d 94 g false))]) [.n 2,.v (.bool true),.n 8,.v (zP (1152921504606846976+q) (0+x*1)),.v (zP (1152921504606846976+bt) ot),.n 5,.k (.bool true) ⟨.e,0,0⟩,.n 7,.v (Qx a p n fc),.k (.agg [.str a,.sl 0 0 n b]) (aC (.cells d 94 g false)),.n 10] [2,5,12,13,14] (by kernel_rfl) ⟨rfl,fZ (λz=>some (AV.bool z)) o,rfl,gL (e:=54) (by kernel_rfl) (by kernel_rfl) rfl hx lx,rfl,hP _,f,rfl,l _,j⟩
section
variable(X:Old)(F:Fw X)(R:Gw X)(q m c:Nat)(i:Int)(x:Nat)(T:i=(↑x:Int))(U:x<m)(V W:Nat)(S:∀h:AH,loadT (E.wo X) h 54 (OLD+q) (0+x*1)=some (.ptr (OLD+V) W))
include X F R q m c i x T U V W S
theorem lf2(a:List UInt8)(p:Nat×Nat)(n fc:Nat)(k:∀h:AH,loadT (E.wo X) h 25 (OLD+V) (W+0)=some (Qx a p n fc))(d:List AV)(b:Option Nat)(g:Bool)(w:Nat)(vs:List AV)(l:vs.length=w*2)(o:w<=268435456)(f:DC X 27 [.ptr (OLD+V) W] (aC (aV vs)) (.bool true) (aC (aV vs)))(j:DC X 21 [Qx a p n fc] (aC (aV vs)) (.agg [.str a,.sl 1 0 n b]) (ji (.cells d 94 g false) (aV vs)))(r:(decide (i<(↑m:Int)))=true):DS X (vU (.sl 0 0 w none) (zI (↑m:Int)) (.aO (some (q,0)) m c) (zI i)) (aC (aV vs)) (vU (.sl 3 0 (w+1) none) (zI (↑m:Int)) (.aO (some (q,0)) m c) (zI (IntKind.i64.wrap (i+1)))) (iK (.cells (vs++[AV.str a,AV.sl 1 0 n b]) 25 true false) (.cells d 94 g false) .dead (.cells [.str a,.sl 1 0 n b] 25 false false)):=
 jK F R [2,5,12,13,14] (Qb 2 r (Qv 8 (gL (e:=54) (by kernel_rfl) (by kernel_rfl) rfl T U:aR (E.wo X) 51 (l9 (E.wo X) (.aO (some (q,0)) m c)) (zI i)=some (zP (1152921504606846976+q) (0+x*1))) (Qv 0 (S (aC (aV vs))) (Qk 5 f (Qv 7 (k (aC (aV vs))) (Qk 0 j (Ql 1 (rM (e:=25) (sz:=2) (by kernel_rfl) (by kernel_rfl) l o (by kernel_rfl) (by kernel_rfl) rfl:jv (E.wo X) (bG (.cells d 94 g false) (aV vs) (.cells [.str a,.sl 1 0 n b] 25 false false)) .append [.sl 0 0 w none,.sl 2 0 1 (some 1)] [33,33]=some (.val (.sl 3 0 (w+1) none) (iK (.cells (vs++[AV.str a,AV.sl 1 0 n b]) 25 true false) (.cells d 94 g false) .dead (.cells [.str a,.sl 1 0 n b] 25 false false)))) (Qn 8)))))))) (by kernel_rfl)
theorem lf3(a:DC X 27 [.ptr (OLD+V) W] ⟨.e,0,0⟩ (.bool false) ⟨.e,0,0⟩)(b:(decide (i<(↑m:Int)))=true):DS X (SA m q c i) ⟨.e,0,0⟩ (vU .aM (zI (↑m:Int)) (.aO (some (q,0)) m c) (zI (IntKind.i64.wrap (i+1)))) ⟨.e,0,0⟩:=
 jK F R [2,5,12,13,14] (Qb 2 b (Qv 8 (gL (e:=54) (by kernel_rfl) (by kernel_rfl) rfl T U:aR (E.wo X) 51 (l9 (E.wo X) (.aO (some (q,0)) m c)) (zI i)=some (zP (1152921504606846976+q) (0+x*1))) (Qv 0 (S ⟨.e,0,0⟩) (Qk 5 a (Qn 9))))) (by kernel_rfl)
theorem lf4(w:Nat)(vs:List AV)(a:DC X 27 [.ptr (OLD+V) W] (aC (aV vs)) (.bool false) (aC (aV vs)))(b:(decide (i<(↑m:Int)))=true):DS X (vU (.sl 0 0 w none) (zI (↑m:Int)) (.aO (some (q,0)) m c) (zI i)) (aC (aV vs)) (vU (.sl 0 0 w none) (zI (↑m:Int)) (.aO (some (q,0)) m c) (zI (IntKind.i64.wrap (i+1)))) (aC (aV vs)):=
 jK F R [2,5,12,13,14] (Qb 2 b (Qv 8 (gL (e:=54) (by kernel_rfl) (by kernel_rfl) rfl T U:aR (E.wo X) 51 (l9 (E.wo X) (.aO (some (q,0)) m c)) (zI i)=some (zP (1152921504606846976+q) (0+x*1))) (Qv 0 (S (aC (aV vs))) (Qk 5 a (Qn 9))))) (by kernel_rfl)
end
theorem lf5(old:Old)(F:Fw old)(FF:Gw old)(q m c:Nat)(i:Int)(a:(decide (i<(↑m:Int)))=false):AtCall prog (E.wo old) [.n 2,.v (.bool false),.n 7] (SA m q c i) ⟨.e,0,0⟩ 28 [.aM,.fn 29 [] []] ⟨.e,0,0⟩:=
 ⟨[some true=some true,some (AV.bool (decide (i<(↑m:Int))))=some (AV.bool false)],by kernel_rfl,⟨rfl,fZ (λz=>some (AV.bool z)) a⟩⟩
theorem lf6(old:Old)(F:Fw old)(FF:Gw old)(q m c:Nat)(i:Int)(a w lc:Nat)(b:(decide (i<(↑m:Int)))=false):AtCall prog (E.wo old) [.n 2,.v (.bool false),.n 7] (vU (.aO (some (a,0)) w lc) (zI (↑m:Int)) (.aO (some (q,0)) m c) (zI i)) ⟨.e,0,0⟩ 28 [.aO (some (a,0)) w lc,.fn 29 [] []] ⟨.e,0,0⟩:=
 ⟨[some true=some true,some (AV.bool (decide (i<(↑m:Int))))=some (AV.bool false)],by kernel_rfl,⟨rfl,fZ (λz=>some (AV.bool z)) b⟩⟩
theorem lf7(old:Old)(F:Fw old)(FF:Gw old):AtCall prog (E.wo old) [.n 10] (vU .aM (zI 0) .aM (zI 0)) ⟨.e,0,0⟩ 28 [.aM,.fn 29 [] []] ⟨.e,0,0⟩:=
 ⟨[],by kernel_rfl,trivial⟩
end
section
variable(Y:Fe)(Z:Ge)
include Y Z
section
variable(W:Old)(F:Fw W)(V:Gw W)(X:Old)
include W F V X
theorem lg5(q m c:Nat)(i:Int)(a:Option (Nat×Nat))(b d:Nat)(f:decide (i<(↑m:Int))=false):DR W (gX prog (E.wo X) [.n 2,.v (.bool false),.n 7] (SA m q c i) ⟨.e,0,0⟩ (.aO a b d)) ⟨.e,0,0⟩ (.aO a b d) ⟨.e,0,0⟩:=
 prt F V (Qn 3) (by kernel_rfl)
theorem lg6(q m c:Nat)(i:Int)(f w lc:Nat)(a:Option (Nat×Nat))(b d:Nat):DR W (gX prog (E.wo X) [.n 2,.v (.bool false),.n 7] (vU (.aO (some (f,0)) w lc) (zI (↑m:Int)) (.aO (some (q,0)) m c) (zI i)) ⟨.e,0,0⟩ (.aO a b d)) ⟨.e,0,0⟩ (.aO a b d) ⟨.e,0,0⟩:=
 prt F V (Qn 3) (by kernel_rfl)
theorem lg7(a:Option (Nat×Nat))(b c:Nat):DR W (gX prog (E.wo X) [.n 10] (vU .aM (zI 0) .aM (zI 0)) ⟨.e,0,0⟩ (.aO a b c)) ⟨.e,0,0⟩ (.aO a b c) ⟨.e,0,0⟩:=
 prt F V (Qn 3) (by kernel_rfl)
end
end
section
variable{cs:List AV}
inductive LU(old:Old):List AV->List PF->Prop
 |nil:LU old [] []
 |cons {a:AV} {cs:List AV} {r:PF} {l:List PF}:iM old a r.args->LU old cs l->LU old (.str r.rel::a::cs) (r::l)
theorem LU.len{old:Old}{l:List PF}(h:LU old cs l):cs.length=l.length*2:=by
 induction h with
 |nil=>rfl
 |cons a _ b=>simp only[gI];omega
theorem LU.mono{old old':Old}(b:Old.le old old'){cs:List AV}{l:List PF}(h:LU old cs l):LU old' cs l:=by
 induction h with
 |nil=>exact .nil
 |cons a _ c=>exact .cons (a.mono b) c
theorem LU.low{old:Old}{cs:List AV}{l:List PF}(h:LU old cs l):AV.dX 0 cs=true:=by
 induction h with
 |nil=>rfl
 |cons a _ b=>obtain⟨x,n,c,rfl⟩:=a.shape;show(true&&(true&&_))=true;rw[b];rfl
theorem LU.app{old:Old}{ds:List AV}{l m:List PF}(h:LU old cs l)(H:LU old ds m):LU old (cs++ds) (l++m):=by
 induction h with
 |nil=>exact H
 |cons a _ b=>exact .cons a b
def nW(t:T):Bool:=t.rule==0&&t.kids.isEmpty
def qZ(t:T):PF:=⟨t.rel,t.args⟩
noncomputable def lF(out:AV)(q m c:Nat)(i:Int):AF:=(vU out (zI ((↑m:Int))) (.aO (some (q,0)) m c) (zI i))
section
variable(W:Fe)(Y:Ge)(X:∀old,Fw old)(Z:∀old,Gw old)
include W Y X Z
theorem vJ{Q:Old->AV->Prop}(L:List PF)(ts:List T)(hm:ts.length<=65536)(hA:∀t∈ts,t.args≠[]∧t.args.length<=268435456)
 (O:∀old v,Q old v->∃a n c,v= .aO a n c)
 (C0:∀old,L=[]->dU prog E old 28 [.aM,.fn 29 [] []] Q)(C1:∀old b c cs,iI old b 0 (L.length*2)=some cs->LU old cs L->L≠[]->dU prog E old 28 [.aO (some (b,0)) L.length c,.fn 29 [] []] Q):
 ∀(r x:Nat) (old:Old) (q c:Nat) (ps:List AV) (l:List PF),x+r=ts.length->iI old q 0 ts.length=some ps->Gq old ps ts->l++((ts.drop x).filter nW).map qZ=L->l.length<=x->
 (l=[]->bO prog E old (lF .aM q ts.length c x) eH Q)∧(∀vs,l≠[]->LU old vs l->bO prog E old (lF (.sl 0 0 l.length none) q ts.length c x) ⟨zL (.cells vs 25 true false),1,0⟩ Q)
 |0,x,old,q,c,ps,l,hx,P,R,y,hfx=>by
  have hx:x=ts.length:=by omega
  subst hx;rw[List.drop_length]at y;have y:l=L:=by simpa using y
  refine⟨λh0=>?_,λvs h0 w=>?_⟩
  .refine bO.ku (X old) (Z old) (lf5 W Y old (X old) (Z old) q ts.length c ts.length (aD (by omega))) rfl rfl (aT rfl) (C0 old (by rw[← y,h0])) ?_
   intro old' v s w;obtain⟨a,n,z,rfl⟩:=O old' v w;exact bO.does (lg5 W Y old' (X old') (Z old') old q ts.length c ts.length a n z (aD (by omega))) (aT rfl) rfl (qh.low rfl w)
  .refine bO.Zj (k:=5) (id:=0) (h':=⟨.e,1,0⟩) rfl (nU w.low) rfl (λi o e _=>by rw[show(Tr.e:Tr AO).get i=none from Tr.dN i]at e;cases e) rfl rfl ?_
   intro d b D S hc1 B;refine bO.low (n:=0) (bT _) (AF.jd rfl) rfl (λi o e _=>by rw[show(Tr.e:Tr AO).get i=none from Tr.dN i]at e;cases e) ?_;have H:iI d b 0 (L.length*2)=some vs:=by rw[← y,← w.len];exact know B
   refine bO.ku (X d) (Z d) (lf6 W Y d (X d) (Z d) q ts.length c ts.length b l.length D (aD (by omega))) rfl rfl (aT rfl) (by rw[y];exact C1 d b D vs H (by rw[← y];exact w.mono S) (by rw[← y];exact h0)) ?_;intro old' v s w;obtain⟨a,n,z,rfl⟩:=O old' v w;exact bO.does (lg6 W Y old' (X old') (Z old') d q ts.length c ts.length b l.length D a n z) (aT rfl) rfl (qh.low rfl w)
 |r+1,x,old,q,c,ps,l,hx,P,R,y,hfx=>by
  have u:x<ts.length:=by omega
  obtain⟨t,ht⟩:∃t,ts[x]? =some t:=⟨_,aK u⟩;have U:ts.drop x=t::ts.drop (x+1):=by rw[bL u,aI ((aK u).symm.trans ht)]
  obtain⟨p,e1,hp⟩:=R.get ht;have hp':=hp;obtain⟨b,o,cs,rfl,e2,e3⟩:=hp;obtain⟨a,ka,kc,ks,rfl,f1,f2,f3⟩:=e3.one;have F:∀h:AH,loadT (E.wo old) h 54 (OLD+q) (0+x*1)=some (.ptr (OLD+b) o):=λh=>gB (by kernel_rfl) (by have:=iY P e1;rw[bW];exact this);have A27:=ZJ W Y old (X old) (Z old) hp';have m:DC old 27 [.ptr (OLD+b) o] eH (.bool (nW t)) eH:=A27;obtain⟨hne,V⟩:=hA t (bE ht);obtain⟨J,fc,rfl⟩:∃p fc,a= .aO (some p) t.args.length fc:=by
   rcases f1 with⟨b,o,c,rfl,_⟩|⟨rfl,h0,_⟩
   .exact⟨(b,o),c,rfl⟩
   .exact aP (bB.1 h0) hne
  have hv1:iI old J.1 J.2 (t.args.length*3)=some (fD t.args):=by
   rcases f1 with⟨b,o,c,e,h⟩|⟨e,_⟩
   .cases e;exact h
   .cases e
  have hT:∀h:AH,loadT (E.wo old) h 25 (OLD+b) (o+0)=some (.agg [.str t.rel,.aO (some J) t.args.length fc]):=λh=>
   rR (E:=E.wo old) (t:=25) (ti:=(E.tt.get 25).getD default) (by kernel_rfl) (by kernel_rfl) (by
    rw[show((E.tt.get 25).getD default).size=2 by kernel_rfl];exact F7 (old:=old) (b:=b) (cs:=[.str t.rel,.aO (some J) t.args.length fc]) (o:=o) λi a e=>match i,e with |0,e=>iY e2 (j:=0) e|1,e=>iY e2 (j:=1) e|_+2,e=>by cases e)
  have o1:decide ((x:Int)<(ts.length:Int))=true:=aA (by omega);cases hb:nW t with
  |false=>
   rw[hb]at m;have K:=vJ L ts hm hA O C0 C1 r (x+1) old q c ps l (by omega) P R (by rw[U,kJ,hb]at y;exact y) (by omega);refine⟨λh0=>?_,λvs h0 w=>?_⟩
   .have A:=lf3 W Y old (X old) (Z old) q ts.length c x x rfl u b o F m o1
    rw[wrapN (by omega)]at A;exact bO.of A (aT rfl) (K.1 h0)
   .have A:=lf4 W Y old (X old) (Z old) q ts.length c x x rfl u b o F l.length vs (DoesC.ov m (lC b) rfl rfl (by kernel_rfl)) o1
    rw[wrapN (by omega)]at A;exact bO.of A (aT rfl) (K.2 vs h0 w)
  |true=>
   rw[hb]at m;have hL':(l++[qZ t])++((ts.drop (x+1)).filter nW).map qZ=L:=by
    rw[U,kJ,hb]at y;rw[fC];exact y
   have G:l++[qZ t]≠[]:=by simp
   obtain⟨M,g,hR,C⟩:=c21 W Y old (X old) (Z old) t.rel (c:=fc) hv1 V;refine⟨λh0=>?_,λvs h0 w=>?_⟩
   .subst h0
    have A:=lf1 W Y old (X old) (Z old) q ts.length c x x rfl u b o F t.rel J t.args.length fc hT (fD t.args) M g m (C rfl rfl rfl (by kernel_rfl)) o1;rw[wrapN (by omega)]at A;refine bO.of A (aT rfl) ?_;refine bO.BD (id:=0) (i:=2) (j:=1) (off:=0) (n:=t.args.length) (cap:=M) (vs:=fD t.args) (ws:=[.str t.rel,.sl 0 0 t.args.length M]) (h':=λb c=>⟨.n .e none (zL (.cells [.str t.rel,.aO (some (b,0)) t.args.length c] 25 true false)),3,0⟩) rfl (gY _) rfl (by decide) rfl ?_ (λ_ _=>rfl) (λ_ _=>rfl) ?_
    .intro N D k o e hlv
     have H:=gW (f:=λk=>k==2) rfl e;simp only[fK]at H;subst H;exact⟨by decide,λ_=>(aI e).symm,λh=>aP rfl h⟩
    .intro d N D s hc B
     refine bO.only (f':=lF (.sl 0 0 1 none) q ts.length c (x+1:Nat)) (k:=2) ?_ rfl rfl (AF.jd rfl) (vs:=[.str t.rel,.aO (some (N,0)) t.args.length D]) rfl rfl;have K:=vJ L ts hm hA O C0 C1 r (x+1) d q c ps [qZ t] (by omega) (mE s P) (R.mono s) hL' (by simp);exact K.2 _ G (.cons (r:=qZ t) (oJ B) .nil)
   .have I:=w.len
    have A:=lf2 W Y old (X old) (Z old) q ts.length c x x rfl u b o F t.rel J t.args.length fc hT (fD t.args) M g l.length vs I (by omega) (DoesC.ov m (lC b) rfl rfl (by kernel_rfl)) (C rfl rfl rfl (by kernel_rfl)) o1;rw[wrapN (by omega)]at A;refine bO.of A (aT rfl) ?_;refine bO.BD (id:=1) (i:=3) (j:=l.length*2+1) (off:=0) (n:=t.args.length) (cap:=M) (vs:=fD t.args) (ws:=vs++[.str t.rel,.sl 1 0 t.args.length M]) (h':=λb c=>⟨.n (.n (zL (.cells (vs++[.str t.rel,.aO (some (b,0)) t.args.length c]) 25 true false)) none .e) none .e,4,0⟩) rfl (gY _) rfl (by decide) ?_ ?_ (λ_ _=>rfl) (λ_ _=>rfl) ?_
    .rw[← I,aY (by omega),dK];rfl
    .intro N D k o e hlv
     have H:=gW (f:=λk=>k==3) rfl e;simp only[fK]at H;subst H;refine⟨by decide,λ_=>?_,λh=>aP rfl h⟩;rw[← (aI e)];rw[← I,iJ _ _ (by omega),dK];rfl
    .intro d N D s hc B
     have hv':LU d (vs++[.str t.rel,.aO (some (N,0)) t.args.length D]) (l++[qZ t]):=(w.mono s).app (.cons (r:=qZ t) (oJ B) .nil);refine bO.only (f':=lF (.sl 0 0 (l.length+1) none) q ts.length c (x+1:Nat)) (k:=3) ?_ rfl rfl (AF.jd rfl) (vs:=vs++[.str t.rel,.aO (some (N,0)) t.args.length D]) hv'.low rfl;have K:=vJ L ts hm hA O C0 C1 r (x+1) d q c ps (l++[qZ t]) (by omega) (mE s P) (R.mono s) hL' (by simp;omega);have:=K.2 _ G hv';rw[show(l++[qZ t]).length=l.length+1 by simp]at this;exact this
end
end
section
variable(Y:Fe)(Z:Ge)
include Y Z
section
variable(X:Old)(F:Fw X)(P:Gw X)(b n c R k:Nat)(Q V W:List AV)(O:∀h:AH,loadT (E.wo X) h 76 (OLD+R) 0=some (.fn 29 [] []))(S:DC X 57 [.aO (some (b,0)) n c] ⟨.e,0,0⟩ (.sl 0 0 n none) (aC (aV Q)))(T:DC X 58 [.sl 0 0 n none,.fn 29 [] []] (aC (aV Q)) (.bV []) (aC (aV V)))(U:DC X 60 [.sl 0 0 n none,.fn 61 [] [.ptr (OLD+R) 0]] (aC (aV V)) (.sl 0 0 k none) (aC (aV W)))
include X F P b n c R k Q V W O S T U
theorem Ms:DR X (ent (E.wo X) 59 [.sl 0 0 k none]) (aC (aV W)) (.sl 0 0 k (some k)) (aC (aV W)):=
 prt F P (Qv 11 (Pd (e:=25) (z:=2) (by kernel_rfl) (by kernel_rfl):iN (E.wo X) 33 (l9 (E.wo X) (.sl 0 0 k none)) none (some (zI (↑k:Int))) (some (zI (↑k:Int)))=some (.sl 0 0 k (some k))) (Qn 3)) (by kernel_rfl)
theorem so2:DR X (aaN (.ptr (OLD+R) 0) (.aO (some (b,0)) n c)) ⟨.e,0,0⟩ (.sl 0 0 k (some k)) (aC (aV W)):=
 prt F P (Qk 2 S (Qv 5 (O (aC (aV Q))) (Qk 0 T (Qk 5 U (Qk 0 (DoesC.ent P (by kernel_rfl) (Ms Y Z X F P b n c R k Q V W O S T U ):DC X 59 [.sl 0 0 k none] (aC (aV W)) (.sl 0 0 k (some k)) (aC (aV W))) (Qn 3)))))) (by kernel_rfl)
end
end
section
variable(Y:Fe)(Z:Ge)
include Y Z
section
variable(X:Old)(F:Fw X)(W:Gw X)
include X F W
theorem so0:DR X (ent (E.wo X) 28 [.aM,.fn 29 [] []]) ⟨.e,0,0⟩ .aM (aC Dn):=
 prt F W (Qk 8 (DoesC.of_run F W (n:=3000) (p:=(.aM,(aC Dn))) (by kernel_rfl):DC X 57 [.aM] (aC Dn) .aM (aC Dn)) (Qk 6 (DoesC.of_run F W (n:=3000) (p:=((.bV []),(aC Dn))) (by kernel_rfl):DC X 58 [.aM,.fn 29 [] []] (aC Dn) (.bV []) (aC Dn)) (Qk 5 (DoesC.of_run F W (n:=3000) (p:=(.aM,(aC Dn))) (by kernel_rfl):DC X 60 [.aM,.fn 61 [] [zP 0 0]] (aC Dn) .aM (aC Dn)) (Qk 0 (DoesC.of_run F W (n:=3000) (p:=(.aM,(aC Dn))) (by kernel_rfl):DC X 59 [.aM] (aC Dn) .aM (aC Dn)) (Qn 3))))) (by kernel_rfl)
theorem so1(b n c:Nat):DS X (ent (E.wo X) 28 [.aO (some (b,0)) n c,.fn 29 [] []]) ⟨.e,0,0⟩ (aaN (zP 0 0) (.aO (some (b,0)) n c)) (aC Dn):=
 jK F W [0,3,4] (Qn 6) (by kernel_rfl)
theorem agv(b o n c:Nat)(cells:List AV)(h0:0<n)(a:n<=268435456)(d:iI X b o (n*2)=some cells):DR X (ent (E.wo X) 57 [.aO (some (b,o)) n c]) ⟨.e,0,0⟩ (.sl 1 0 n none) (ji (aV cells) (.cells [] 25 false false)):=
 prt F W (Ql 16 (Ij (e:=25) (sz:=2) (by kernel_rfl) rfl h0 a d (by kernel_rfl):jv (E.wo X) (aC (.cells [] 25 false false)) .append [.sl 0 0 0 (some 0),.aO (some (b,o)) n c] [33,33]=some (.val (.sl 1 0 n none) (ji (aV cells) (.cells [] 25 false false)))) (Qn 3)) (by kernel_rfl)
theorem af2(cs a:List AV)(n:Nat)(b:DC X 113 [.sl 0 0 n none,zI n,.fn 29 [] []] (aC (aV cs)) (.bV []) (aC (aV a))):DR X (ent (E.wo X) 58 [.sl 0 0 n none,.fn 29 [] []]) (aC (aV cs)) (.bV []) (aC (aV a)):=
 prt F W (Qk 5 b (Qn 2)) (by kernel_rfl)
end
end
section
variable(Y:Fe)(Z:Ge)
include Y Z
section
variable(X:Old)(F:Fw X)(U:Gw X)(V:Nat)(W:List AV)(n:Nat)
include X F U V W n
theorem aek(o1:(decide ((↑n:Int)<2))=true):DR X (ent (E.wo X) 60 [.sl 0 0 n none,.fn 61 [] [.ptr (OLD+V) 0]]) (aC (aV W)) (.sl 0 0 n none) (aC (aV W)):=
 prt F U (Qb 9 o1 (Qn 8)) (by kernel_rfl)
theorem aej(o1:(decide ((↑n:Int)<2))=false):DS X (ent (E.wo X) 60 [.sl 0 0 n none,.fn 61 [] [.ptr (OLD+V) 0]]) (aC (aV W)) (XL (.fn 61 [] [zP (1152921504606846976+V) 0]) (zI 1) (.sl 0 0 n none)) (aC (aV W)):=
 jK F U [0,1,5] (Qb 9 o1 (Qn 10)) (by kernel_rfl)
end
section
variable(X:Old)(F:Fw X)(K:Gw X)(V:Nat)(W T U R S:List AV)(n x y:Nat)(k:Int)(q:Bool)(P:k=(↑x:Int))(M:IntKind.i64.wrap (k - 1)=(↑y:Int))(Q:x<n)(N:y<n)(J:0<x)(H:X5 (E.wo X) 25 2 W x y T U R S)(L:RX X 61 [.agg T,.agg U,.ptr (OLD+V) 0] (.bool q))(O:(decide (k<(↑n:Int)))=true)
include X F K V W T U R S n x y k q P M Q N J H L O
theorem aeo(o2:AV.bool q=AV.bool false):DS X (Sz V k n) (aC (aV W)) (XL (.fn 61 [] [zP (1152921504606846976+V) 0]) (zI (IntKind.i64.wrap (k+1))) (.sl 0 0 n none)) (aC (aV W)):=
 jK F K [0,1,5] (Qb 6 O (Qd 6 [.c,.c,.c,.v (zP 0 (x*2)),.v (.agg T),.c,.c,.c,.v (zP 0 (y*2)),.v (.agg U),.k (.bool q) (aC (aV W))] (Qq (yF X 0 none P Q) (Qq (H.L (aC (aV W)) rfl) (Qq (yF X 0 none M N) (Qq (H.M (aC (aV W)) rfl) (Qp (L (aC (aV W)) (by kernel_rfl) rfl) (Qp (H.M (aC (aV W)) rfl) (Qp (H.L (aC (aV W)) rfl) (Qa 0 (.br false) (Qp o2 (Qn 8)))))))))))) (by kernel_rfl)
theorem aen(o2:AV.bool q=AV.bool true):DS X (Sz V k n) (aC (aV W)) (SE (zI 1) (.fn 61 [] [zP (1152921504606846976+V) 0]) (zI k) (.sl 0 0 n none) (.sl 0 (x*2) (n - x) none)) (aC (aV W)):=
 jK F K [0,1,5,6,7] (Qb 6 O (Qd 6 [.c,.c,.c,.v (zP 0 (x*2)),.v (.agg T),.c,.c,.c,.v (zP 0 (y*2)),.v (.agg U),.k (.bool q) (aC (aV W))] (Qq (yF X 0 none P Q) (Qq (H.L (aC (aV W)) rfl) (Qq (yF X 0 none M N) (Qq (H.M (aC (aV W)) rfl) (Qp (L (aC (aV W)) (by kernel_rfl) rfl) (Qp (H.M (aC (aV W)) rfl) (Qp (H.L (aC (aV W)) rfl) (Qa 0 (.br true) (Qp o2 (Qv 4 (GA (e:=25) (by kernel_rfl) (by kernel_rfl) P J Q:iN (E.wo X) 33 (l9 (E.wo X) (.sl 0 0 n none)) (some (zI k)) none none=some (.sl 0 (x*2) (n - x) none)) (Qn 9))))))))))))) (by kernel_rfl)
end
theorem aem(old:Old)(F:Fw old)(FF:Gw old)(eb:Nat)(cs:List AV)(n:Nat)(k:Int)(o1:(decide (k<(↑n:Int)))=false):DR old (Sz eb k n) (aC (aV cs)) (.sl 0 0 n none) (aC (aV cs)):=
 prt F FF (Qb 6 o1 (Qn 9)) (by kernel_rfl)
section
variable(X:Old)(F:Fw X)(C:Gw X)(S:Nat)(W T R P Q:List AV)(n p x y w:Nat)(k V:Int)(q:Bool)(M:(↑p:Int)+V=(↑x:Int))(G:(↑p:Int)+IntKind.i64.wrap (V - 1)=(↑y:Int))(O:p<=x)(L:p<=y)(N:x - p<n - p)(J:y - p<n - p)(A:k=(↑w:Int))(B:w<n)(H:X5 (E.wo X) 25 2 W x y T R P Q)(U:List AV)(z:dD (aC (aV W)) 0 (w*2) T=some (aC (aV U)))(D:RX X 61 [.agg T,.agg R,.ptr (OLD+S) 0] (.bool q))(K:(decide (V<(↑(n - p):Int)))=true)
include X F C S W T R P Q n p x y w k V q M G O L N J A B H U z D K
theorem ab9(o2:(!q)=false):DS X (Sy V S k n p) (aC (aV W)) (SE (zI (IntKind.i64.wrap (V+1))) (.fn 61 [] [zP (1152921504606846976+S) 0]) (zI k) (.sl 0 0 n none) (.sl 0 (p*2) (n - p) none)) (aC (aV W)):=
 jK F C [0,1,5,6,7] (Qb 6 K (Qd 6 [.c,.c,.c,.v (zP 0 (x*2)),.v (.agg T),.c,.c,.c,.v (zP 0 (y*2)),.v (.agg R),.k (.bool q) (aC (aV W)),.v (.bool false)] (Qq (Cz (e:=25) (by kernel_rfl) (by kernel_rfl) M O N:aR (E.wo X) 33 (l9 (E.wo X) (.sl 0 (p*2) (n - p) none)) (zI V)=some (zP 0 (x*2))) (Qq (H.L (aC (aV W)) rfl) (Qq (Cz (e:=25) (by kernel_rfl) (by kernel_rfl) G L J:aR (E.wo X) 33 (l9 (E.wo X) (.sl 0 (p*2) (n - p) none)) (zI (IntKind.i64.wrap (V - 1)))=some (zP 0 (y*2))) (Qq (H.M (aC (aV W)) rfl) (Qp (D (aC (aV W)) (by kernel_rfl) rfl) (Qq (Qc o2) (Qp (H.M (aC (aV W)) rfl) (Qp (H.L (aC (aV W)) rfl) (Qn 9))))))))))) (by kernel_rfl)
theorem ab8(o2:(!q)=true):DS X (Sy V S k n p) (aC (aV W)) (SE (zI (IntKind.i64.wrap (V+1))) (.fn 61 [] [zP (1152921504606846976+S) 0]) (zI (IntKind.i64.wrap (k+1))) (.sl 0 0 n none) (.sl 0 (p*2) (n - p) none)) (aC (aV U)):=
 jK F C [0,1,5,6,7] (Qb 6 K (Qd 6 [.c,.c,.c,.v (zP 0 (x*2)),.v (.agg T),.c,.c,.c,.v (zP 0 (y*2)),.v (.agg R),.k (.bool q) (aC (aV W)),.v (.bool true)] (Qq (Cz (e:=25) (by kernel_rfl) (by kernel_rfl) M O N:aR (E.wo X) 33 (l9 (E.wo X) (.sl 0 (p*2) (n - p) none)) (zI V)=some (zP 0 (x*2))) (Qq (H.L (aC (aV W)) rfl) (Qq (Cz (e:=25) (by kernel_rfl) (by kernel_rfl) G L J:aR (E.wo X) 33 (l9 (E.wo X) (.sl 0 (p*2) (n - p) none)) (zI (IntKind.i64.wrap (V - 1)))=some (zP 0 (y*2))) (Qq (H.M (aC (aV W)) rfl) (Qp (D (aC (aV W)) (by kernel_rfl) rfl) (Qq (Qc o2) (Qp (H.M (aC (aV W)) rfl) (Qp (H.L (aC (aV W)) rfl) (Qv 7 (Cz (e:=25) (by kernel_rfl) (by kernel_rfl) M O N:aR (E.wo X) 33 (l9 (E.wo X) (.sl 0 (p*2) (n - p) none)) (zI V)=some (zP 0 (x*2))) (Qv 0 (H.L (aC (aV W)) rfl) (Qv 0 (yF X 0 none A B) (Ql 0 (jR (by kernel_rfl) H.lx z:fU (E.wo X) (aC (aV W)) 25 (zP 0 (w*2)) (.agg T)=some (.val (.bV []) (aC (aV U)))) (Qn 13))))))))))))))) (by kernel_rfl)
end
theorem ael(old:Old)(F:Fw old)(FF:Gw old)(eb:Nat)(cs cs1:List AV)(n p w:Nat)(k k2:Int)(hw:k=(↑w:Int))(h0:0<w)(lw:w<n)(f:0<n - w)(hS:dD (aC (aV cs)) 0 (w*2) (rep (n - w) [.str [],.aM])=some (aC (aV cs1)))(o1:(decide (k2<(↑(n - p):Int)))=false):DR old (Sy k2 eb k n p) (aC (aV cs)) (.sl 0 0 w none) (aC (aV cs1)):=
 prt F FF (Qb 6 o1 (Qv 7 (GA (e:=25) (by kernel_rfl) (by kernel_rfl) hw h0 lw:iN (E.wo old) 33 (l9 (E.wo old) (.sl 0 0 n none)) (some (zI k)) none none=some (.sl 0 (w*2) (n - w) none)) (Ql 0 (Uu (e:=25) (by kernel_rfl) (by kernel_rfl) f hS:jv (E.wo old) (aC (aV cs)) .clear [.sl 0 (w*2) (n - w) none] [33]=some (.val (.bV []) (aC (aV cs1)))) (Qv 5 (Gz (e:=25) (z:=2) (by kernel_rfl) (by kernel_rfl) hw (iC lw):iN (E.wo old) 33 (l9 (E.wo old) (.sl 0 0 n none)) none (some (zI k)) none=some (.sl 0 0 w none)) (Qn 3))))) (by kernel_rfl)
section
variable(X:Old)(F:Fw X)(R:Gw X)(U:Nat)(a b:Option (Nat×Nat))(n c m d:Nat)(V W:List UInt8)(z:Int)(T:∀h:AH,loadT (E.wo X) h 76 (OLD+U) 0=some (.fn 29 [] []))(S:DC X 29 [mK V a n c,mK W b m d] eH (zI z) eH)
include X F R U a b n c m d V W z T S
theorem adj(o1:(z==0)=true):DR X (ent (E.wo X) 61 [mK V a n c,mK W b m d,.ptr (OLD+U) 0]) ⟨.e,0,0⟩ (.bool true) (lG W b m d V a n c):=
 prt F R (Qv 8 (T (lG W b m d V a n c)) (Qk 2 (DoesC.ov S rfl rfl rfl (by kernel_rfl):DC X 29 [mK V a n c,mK W b m d] (lG W b m d V a n c) (zI z) (lG W b m d V a n c)) (Qb 0 o1 (Qn 3)))) (by kernel_rfl)
theorem adi(o1:(z==0)=false):DR X (ent (E.wo X) 61 [mK V a n c,mK W b m d,.ptr (OLD+U) 0]) ⟨.e,0,0⟩ (.bool false) (lG W b m d V a n c):=
 prt F R (Qv 8 (T (lG W b m d V a n c)) (Qk 2 (DoesC.ov S rfl rfl rfl (by kernel_rfl):DC X 29 [mK V a n c,mK W b m d] (lG W b m d V a n c) (zI z) (lG W b m d V a n c)) (Qb 0 o1 (Qn 3)))) (by kernel_rfl)
end
end
end Go.Ev
