/- A part of the proof that ProofBack returns true. -/
import Derived.Test.YtencnjmceojnjaaGreatDoorMyGr1
import Derived.Test.YtencnjmceojnjaaGreatDoorMyEv4
import Derived.Test.YtencnjmceojnjaaGreatDoorMyEv5
set_option linter.all false
namespace Go.Ev
open Go.Proofs Go.Proofs.Tryz
set_option maxRecDepth 100000
section
variable(Y:Fe)(Z:Ge)
include Y Z
section
variable(U:Old)(F:Fw U)(t:Gw U)(q s r o:Nat)(A B:AV)(S W:List AV)(g:Bool)(N:Option Nat)(w X:Nat)(m:w<=268435456)(V:Int)(x:Nat)(n:V=(↑x:Int))(p:x<r)(R:List UInt8)(M:Option (Nat×Nat))(O L:Nat)(T:Int)(K:Option (Nat×Nat))(P J:Nat)(l:∀h:AH,loadT (E.wo U) h 65 (OLD+q) (s+x*4)=some (kR R M O L T K P J))(Q:∀h:AH,h.obj 0= .cells S 140 g false->loadT (E.wo U) h 140 0 (w*2)=some (.agg [.ptr 1 X,zI V]))(H:gQ (E.wo U) 141 (.sl 0 0 (w+1) N) none (some (zI (IntKind.i64.wrap ((↑(w+1):Int) - 1)))) none=some (.sl 0 0 w N))(z:IntKind.i64.wrap ((↑(w+1):Int) - 1)=(↑w:Int))(D:List AV)(C:Bool)(G:Option Nat)(v:DC U 21 [l9 R M O L] (rO X V W S g R M O L T K P J) (.agg [.str R,.sl 5 0 O G]) (vS X V W D C S g R M O L T K P J))(u:List AV)(y:fE (vS X V W D C S g R M O L T K P J) 1 X [.str R,.sl 5 0 O G,zI T,.aQ]=some (vS X V u D C S g R M O L T K P J))
include U F t q s r o A B S W g N w X m V x n p R M O L T K P J l Q H z D C G v u y
theorem PD:DR U (ent (E.wo U) 57 [.sl 0 0 (w+1) N]) (Ja W S g) (.gI [.sl 0 0 w N,Zk X V]) (I9 X V W S g):=
 prt F t (Qd 6 [.c,.c,.c,.c,.v (.sl 0 0 w N),.c,.c,.c,.c,.v (zP 0 (w*2)),.v (Zk X V),.c,.c] (Qq H (Qq (jk (e:=140) (by kernel_rfl) (by kernel_rfl) z (cZ w):aZ (E.wo U) 141 (nP (E.wo U) (.sl 0 0 (w+1) N)) (zI (IntKind.i64.wrap ((↑(w+1):Int) - 1)))=some (zP 0 (w*2))) (Qq (Q (I8 W S g) rfl) (Qp (Q (I8 W S g) rfl) (Qs (zI (↑(w+1):Int)) (Qs (zI (↑(w+1):Int)) (Qn 1)))))))) (by kernel_rfl)
theorem Py(a:List AV)(b:P<=1048576)(d:fE (Jj (ji X V) (lS u) (xJ D C) (.cells S 140 g false) (dQ R M O L T K P J) (ji X V) (.cells (rep P [.str [],.aQ,zI 0,.aQ]) 27 false false)) 1 (X+3) [.sl 6 0 P (some P)]=some (Jj (ji X V) (lS a) (xJ D C) (.cells S 140 g false) (dQ R M O L T K P J) (ji X V) (.cells (rep P [.str [],.aQ,zI 0,.aQ]) 27 false false))):DR U (ent (E.wo U) 57 [.sl 0 0 (w+1) N]) (Ja W S g) (.gI [.sl 0 0 w N,Zk X V]) (I9 X V W S g):=
 prt F t (Qd 6 [.c,.c,.c,.c,.v (.sl 0 0 w N),.c,.c,.c,.c,.v (zP 0 (w*2)),.v (Zk X V),.c,.c] (Qq H (Qq (jk (e:=140) (by kernel_rfl) (by kernel_rfl) z (cZ w):aZ (E.wo U) 141 (nP (E.wo U) (.sl 0 0 (w+1) N)) (zI (IntKind.i64.wrap ((↑(w+1):Int) - 1)))=some (zP 0 (w*2))) (Qq (Q (I8 W S g) rfl) (Qp (Q (I8 W S g) rfl) (Qs (zI (↑(w+1):Int)) (Qs (zI (↑(w+1):Int)) (Qn 1)))))))) (by kernel_rfl)
end
section
variable(U:Old)(F:Fw U)(y:Gw U)(t v u r:Nat)(A B:AV)(S W:List AV)(g:Bool)(O:Option Nat)(w X:Nat)(p:w<=268435456)(V:Int)(x:Nat)(q:V=(↑x:Int))(s:x<u)(R:List UInt8)(N:Option (Nat×Nat))(M L:Nat)(T:Int)(K:Option (Nat×Nat))(P J:Nat)(o:∀h:AH,loadT (E.wo U) h 65 (OLD+t) (v+x*4)=some (kR R N M L T K P J))(Q:∀h:AH,h.obj 0= .cells S 140 g false->loadT (E.wo U) h 140 0 (w*2)=some (.agg [.ptr 1 X,zI V]))(H:gQ (E.wo U) 141 (.sl 0 0 (w+1) O) none (some (zI (IntKind.i64.wrap ((↑(w+1):Int) - 1)))) none=some (.sl 0 0 w O))(G:IntKind.i64.wrap ((↑(w+1):Int) - 1)=(↑w:Int))(C:DC U 21 [l9 R N M L] (rO X V W S g R N M L T K P J) (UR R) (rO X V W S g R N M L T K P J))(z:List AV)(D:fE (rO X V W S g R N M L T K P J) 1 X [.str R,.aQ,zI T,.aQ]=some (rO X V z S g R N M L T K P J))
include U F y t v u r A B S W g O w X p V x q s R N M L T K P J o Q H G C z D
theorem Pz:DR U (ent (E.wo U) 57 [.sl 0 0 (w+1) O]) (Ja W S g) (.gI [.sl 0 0 w O,Zk X V]) (I9 X V W S g):=
 prt F y (Qd 6 [.c,.c,.c,.c,.v (.sl 0 0 w O),.c,.c,.c,.c,.v (zP 0 (w*2)),.v (Zk X V),.c,.c] (Qq H (Qq (jk (e:=140) (by kernel_rfl) (by kernel_rfl) G (cZ w):aZ (E.wo U) 141 (nP (E.wo U) (.sl 0 0 (w+1) O)) (zI (IntKind.i64.wrap ((↑(w+1):Int) - 1)))=some (zP 0 (w*2))) (Qq (Q (I8 W S g) rfl) (Qp (Q (I8 W S g) rfl) (Qs (zI (↑(w+1):Int)) (Qs (zI (↑(w+1):Int)) (Qn 1)))))))) (by kernel_rfl)
theorem Px(a:List AV)(b:P<=1048576)(d:fE (AY (ji X V) (lS z) (.cells (rep P [.str [],.aQ,zI 0,.aQ]) 27 false false) (.cells S 140 g false) (dQ R N M L T K P J) (ji X V)) 1 (X+3) [.sl 5 0 P (some P)]=some (AY (ji X V) (lS a) (.cells (rep P [.str [],.aQ,zI 0,.aQ]) 27 false false) (.cells S 140 g false) (dQ R N M L T K P J) (ji X V))):DR U (ent (E.wo U) 57 [.sl 0 0 (w+1) O]) (Ja W S g) (.gI [.sl 0 0 w O,Zk X V]) (I9 X V W S g):=
 prt F y (Qd 6 [.c,.c,.c,.c,.v (.sl 0 0 w O),.c,.c,.c,.c,.v (zP 0 (w*2)),.v (Zk X V),.c,.c] (Qq H (Qq (jk (e:=140) (by kernel_rfl) (by kernel_rfl) G (cZ w):aZ (E.wo U) 141 (nP (E.wo U) (.sl 0 0 (w+1) O)) (zI (IntKind.i64.wrap ((↑(w+1):Int) - 1)))=some (zP 0 (w*2))) (Qq (Q (I8 W S g) rfl) (Qp (Q (I8 W S g) rfl) (Qs (zI (↑(w+1):Int)) (Qs (zI (↑(w+1):Int)) (Qn 1)))))))) (by kernel_rfl)
end
section
variable(X:Old)(F:Fw X)(Q:Gw X)(R V U T:Nat)
include X F Q R V U T
theorem Ti(A B:AV)(S W:List AV)(g:Bool)(cp:Option Nat)(w off:Nat)(K:List AV)(at0:Int)(d e kn kc:Nat)(j:Int)(y:Nat)(k:j=(↑y:Int))(l:y<kn)(a:Int)(m:∀h:AH,loadT (E.wo X) h 3 (OLD+d) (e+y*1)=some (zI a))(f:∀h:AH,h.obj 1= .cells W 27 false false->loadT (E.wo X) h 25 1 (off+3)=some (.sl 3 0 kn (some kn)))(b:Nat)(cp2:Option Nat)(c:AH)(i:gX (E.wo X) (xG (lS K) (lS W) (.cells S 140 g false) (.cells [.ptr 3 (y*4),zI a] 140 false false) (ji off at0)) .append [.sl 0 0 w cp,.sl 4 0 1 (some 1)] [141,141]=some (.val (.sl b 0 (w+1) cp2) c)):DR X (ent (E.wo X) 58 [.sl 0 0 w cp,.sl 4 0 1 (some 1)]) (xG (lS K) (lS W) (.cells S 140 g false) (.cells [zP 3 (y*4),zI a] 140 false false) (ji off at0)) (.sl b 0 (w+1) cp2) c:=
 prt F Q (Ql 8 i (Qn 3)) (by kernel_rfl)
theorem gx0(at0:Int):DS X (ent (E.wo X) 28 [.aO (some (R,V)) U T,zI at0]) ⟨.e,0,0⟩ (Um (zP 1 0) (.aO (some (R,V)) U T) (zP 0 0) (.sl 2 0 1 (some 1))) (dJ uZ uZ (.cells [zP 1 0,zI at0] 140 false false)):=
 qH F Q [0,4,5,6] (Qn 18) (by kernel_rfl)
theorem gx5(cp:Option Nat)(rel:List UInt8)(pa:Option (Nat×Nat))(na ca:Nat)(rule:Int)(pk:Option (Nat×Nat))(kn kc:Nat):DR X (Um (.ptr 0 0) (.aO (some (R,V)) U T) (.ptr 1 0) (.sl 2 0 0 cp)) (jK uZ (eF rel pa na ca rule pk kn kc)) (kR rel pa na ca rule pk kn kc) (jK (eF rel pa na ca rule pk kn kc) (eF rel pa na ca rule pk kn kc)):=
 prt F Q (Qn 15) (by kernel_rfl)
end
section
variable(Q:Old)(F:Fw Q)(q:Gw Q)(z C t s:Nat)(A B:AV)(S W:List AV)(g:Bool)(D:Option Nat)(w X:Nat)(m:w<=268435456)(U:Int)(x:Nat)(o:U=(↑x:Int))(p:x<t)(T:List UInt8)(N:Option (Nat×Nat))(P L:Nat)(V:Int)(O:Option (Nat×Nat))(R M:Nat)(n:∀h:AH,loadT (E.wo Q) h 65 (OLD+z) (C+x*4)=some (kR T N P L V O R M))(y:∀h:AH,h.obj 0= .cells S 140 g false->loadT (E.wo Q) h 140 0 (w*2)=some (.agg [.ptr 1 X,zI U]))(r:gQ (E.wo Q) 141 (.sl 0 0 (w+1) D) none (some (zI (IntKind.i64.wrap ((↑(w+1):Int) - 1)))) none=some (.sl 0 0 w D))(l:IntKind.i64.wrap ((↑(w+1):Int) - 1)=(↑w:Int))(K:List AV)(J:Bool)(H:Option Nat)(u:DC Q 21 [l9 T N P L] (rO X U W S g T N P L V O R M) (.agg [.str T,.sl 5 0 P H]) (vS X U W K J S g T N P L V O R M))(G:List AV)(v:fE (vS X U W K J S g T N P L V O R M) 1 X [.str T,.sl 5 0 P H,zI V,.aQ]=some (vS X U G K J S g T N P L V O R M))
include Q F q z C t s A B S W g D w X m U x o p T N P L V O R M n y r l K J H u G v
theorem ahC(a:(decide ((↑(w+1):Int)>0))=true)(b:(decide ((↑R:Int)>0))=false):DS Q (Um B (.aO (some (z,C)) t s) A (.sl 0 0 (w+1) D)) (jK (lS W) (.cells S 140 g false)) (Y7 (zP 2 0) (zI 0) (.aO O R M) B (.aO (some (z,C)) t s) A (zI (↑R:Int)) (.sl 0 0 w D)) (vS X U G K J S g T N P L V O R M):=
 qH F q [0,4,5,6,7,49,50,51] (Qb 5 a (Qk 11 (DoesC.ent q (by kernel_rfl) (PD Y Z Q F q z C t s A B S W g D w X m U x o p T N P L V O R M n y r l K J H u G v ):DC Q 57 [.sl 0 0 (w+1) D] (Ja W S g) (.gI [.sl 0 0 w D,Zk X U]) (I9 X U W S g)) (Qv 11 (jB (e:=65) (by kernel_rfl) (by kernel_rfl) rfl o p:aZ (E.wo Q) 31 (nP (E.wo Q) (.aO (some (z,C)) t s)) (zI U)=some (zP (1152921504606846976+z) (C+x*4))) (Qv 0 (n (lD (ji X U) (lS W) (.cells S 140 g false) (ji X U))) (Qd 4 [.c,.c,.c,.c,.k (.agg [.str T,.sl 5 0 P H]) (vS X U W K J S g T N P L V O R M),.c,.c,.c,.c,.l (.gI []) (vS X U G K J S g T N P L V O R M)] (Qp u (Qz (Qp (CU (by kernel_rfl) rfl v:jH (E.wo Q) (vS X U W K J S g T N P L V O R M) 27 (zP 1 X) (.agg [.str T,.sl 5 0 P H,zI V,.aQ])=some (.val (.gI []) (vS X U G K J S g T N P L V O R M))) (Qs (zI V) (Qs (zI V) (Qs (l9 T N P L) (Qs (zP 1 X) (Qs (zP 1 X) (Qb 6 b (Qn 12))))))))))))))) (by kernel_rfl)
theorem ahA(a:List AV)(b:R<=1048576)(d:fE (Jj (ji X U) (lS G) (xJ K J) (.cells S 140 g false) (dQ T N P L V O R M) (ji X U) (.cells (rep R [.str [],.aQ,zI 0,.aQ]) 27 false false)) 1 (X+3) [.sl 6 0 R (some R)]=some (Jj (ji X U) (lS a) (xJ K J) (.cells S 140 g false) (dQ T N P L V O R M) (ji X U) (.cells (rep R [.str [],.aQ,zI 0,.aQ]) 27 false false)))(f:(decide ((↑(w+1):Int)>0))=true)(i:(decide ((↑R:Int)>0))=true):DS Q (Um B (.aO (some (z,C)) t s) A (.sl 0 0 (w+1) D)) (jK (lS W) (.cells S 140 g false)) (Y7 (zP 2 0) (zI 0) (.aO O R M) B (.aO (some (z,C)) t s) A (zI (↑R:Int)) (.sl 0 0 w D)) (Jj (ji X U) (lS a) (xJ K J) (.cells S 140 g false) (dQ T N P L V O R M) (ji X U) (.cells (rep R [AV.str [],AV.aQ,AV.int IntKind.i64 0,AV.aQ]) 27 false false)):=
 qH F q [0,4,5,6,7,49,50,51] (Qb 5 f (Qk 11 (DoesC.ent q (by kernel_rfl) (Py Y Z Q F q z C t s A B S W g D w X m U x o p T N P L V O R M n y r l K J H u G v a b d ):DC Q 57 [.sl 0 0 (w+1) D] (Ja W S g) (.gI [.sl 0 0 w D,Zk X U]) (I9 X U W S g)) (Qv 11 (jB (e:=65) (by kernel_rfl) (by kernel_rfl) rfl o p:aZ (E.wo Q) 31 (nP (E.wo Q) (.aO (some (z,C)) t s)) (zI U)=some (zP (1152921504606846976+z) (C+x*4))) (Qv 0 (n (lD (ji X U) (lS W) (.cells S 140 g false) (ji X U))) (Qd 4 [.c,.c,.c,.c,.k (.agg [.str T,.sl 5 0 P H]) (vS X U W K J S g T N P L V O R M),.c,.c,.c,.c,.l (.gI []) (vS X U G K J S g T N P L V O R M)] (Qp u (Qz (Qp (CU (by kernel_rfl) rfl v:jH (E.wo Q) (vS X U W K J S g T N P L V O R M) 27 (zP 1 X) (.agg [.str T,.sl 5 0 P H,zI V,.aQ])=some (.val (.gI []) (vS X U G K J S g T N P L V O R M))) (Qs (zI V) (Qs (zI V) (Qs (l9 T N P L) (Qs (zP 1 X) (Qs (zP 1 X) (Qb 6 i (Qd 2 [.c,.c,.c,.c,.c,.l (.sl 6 0 R (some R)) (Jj (ji X U) (lS G) (xJ K J) (.cells S 140 g false) (dQ T N P L V O R M) (ji X U) (.cells (rep R [AV.str [],AV.aQ,AV.int IntKind.i64 0,AV.aQ]) 27 false false)),.c,.c,.l (.gI []) (Jj (ji X U) (lS a) (xJ K J) (.cells S 140 g false) (dQ T N P L V O R M) (ji X U) (.cells (rep R [AV.str [],AV.aQ,AV.int IntKind.i64 0,AV.aQ]) 27 false false))] (Qq (Hy (e:=27) (by kernel_rfl) (by kernel_rfl) b:iy (E.wo Q) (vS X U G K J S g T N P L V O R M) 25 (zI (↑R:Int)) (zI (↑R:Int))=some (.val (.sl 6 0 R (some R)) (Jj (ji X U) (lS G) (xJ K J) (.cells S 140 g false) (dQ T N P L V O R M) (ji X U) (.cells (rep R [AV.str [],AV.aQ,AV.int IntKind.i64 0,AV.aQ]) 27 false false)))) (Qz (Qp (CQ (by kernel_rfl) rfl rfl d:jH (E.wo Q) (Jj (ji X U) (lS G) (xJ K J) (.cells S 140 g false) (dQ T N P L V O R M) (ji X U) (.cells (rep R [AV.str [],AV.aQ,AV.int IntKind.i64 0,AV.aQ]) 27 false false)) 25 (zP 1 (X+3)) (.sl 6 0 R (some R))=some (.val (.gI []) (Jj (ji X U) (lS a) (xJ K J) (.cells S 140 g false) (dQ T N P L V O R M) (ji X U) (.cells (rep R [AV.str [],AV.aQ,AV.int IntKind.i64 0,AV.aQ]) 27 false false)))) (Qs (zI (↑R:Int)) (Qs (.aO O R M) (Qs (zP 1 X) (Qn 9)))))))))))))))))))))) (by kernel_rfl)
end
section
variable(Q:Old)(F:Fw Q)(t:Gw Q)(G H y v:Nat)(A B:AV)(S W:List AV)(g:Bool)(J:Option Nat)(w X:Nat)(p:w<=268435456)(U:Int)(x:Nat)(r:U=(↑x:Int))(s:x<y)(T:List UInt8)(O:Option (Nat×Nat))(N L:Nat)(V:Int)(P:Option (Nat×Nat))(R M:Nat)(q:∀h:AH,loadT (E.wo Q) h 65 (OLD+G) (H+x*4)=some (kR T O N L V P R M))(D:∀h:AH,h.obj 0= .cells S 140 g false->loadT (E.wo Q) h 140 0 (w*2)=some (.agg [.ptr 1 X,zI U]))(u:gQ (E.wo Q) 141 (.sl 0 0 (w+1) J) none (some (zI (IntKind.i64.wrap ((↑(w+1):Int) - 1)))) none=some (.sl 0 0 w J))(o:IntKind.i64.wrap ((↑(w+1):Int) - 1)=(↑w:Int))(z:DC Q 21 [l9 T O N L] (rO X U W S g T O N L V P R M) (UR T) (rO X U W S g T O N L V P R M))(K:List AV)(C:fE (rO X U W S g T O N L V P R M) 1 X [.str T,.aQ,zI V,.aQ]=some (rO X U K S g T O N L V P R M))
include Q F t G H y v A B S W g J w X p U x r s T O N L V P R M q D u o z K C
theorem ahB(a:(decide ((↑(w+1):Int)>0))=true)(b:(decide ((↑R:Int)>0))=false):DS Q (Um B (.aO (some (G,H)) y v) A (.sl 0 0 (w+1) J)) (jK (lS W) (.cells S 140 g false)) (Y7 (zP 2 0) (zI 0) (.aO P R M) B (.aO (some (G,H)) y v) A (zI (↑R:Int)) (.sl 0 0 w J)) (rO X U K S g T O N L V P R M):=
 qH F t [0,4,5,6,7,49,50,51] (Qb 5 a (Qk 11 (DoesC.ent t (by kernel_rfl) (Pz Y Z Q F t G H y v A B S W g J w X p U x r s T O N L V P R M q D u o z K C ):DC Q 57 [.sl 0 0 (w+1) J] (Ja W S g) (.gI [.sl 0 0 w J,Zk X U]) (I9 X U W S g)) (Qv 11 (jB (e:=65) (by kernel_rfl) (by kernel_rfl) rfl r s:aZ (E.wo Q) 31 (nP (E.wo Q) (.aO (some (G,H)) y v)) (zI U)=some (zP (1152921504606846976+G) (H+x*4))) (Qv 0 (q (lD (ji X U) (lS W) (.cells S 140 g false) (ji X U))) (Qd 4 [.c,.c,.c,.c,.k (UR T) (rO X U W S g T O N L V P R M),.c,.c,.c,.c,.l (.gI []) (rO X U K S g T O N L V P R M)] (Qp z (Qz (Qp (CU (by kernel_rfl) rfl C:jH (E.wo Q) (rO X U W S g T O N L V P R M) 27 (zP 1 X) (.agg [.str T,.aQ,zI V,.aQ])=some (.val (.gI []) (rO X U K S g T O N L V P R M))) (Qs (zI V) (Qs (zI V) (Qs (l9 T O N L) (Qs (zP 1 X) (Qs (zP 1 X) (Qb 6 b (Qn 12))))))))))))))) (by kernel_rfl)
theorem ahz(a:List AV)(b:R<=1048576)(d:fE (AY (ji X U) (lS K) (.cells (rep R [.str [],.aQ,zI 0,.aQ]) 27 false false) (.cells S 140 g false) (dQ T O N L V P R M) (ji X U)) 1 (X+3) [.sl 5 0 R (some R)]=some (AY (ji X U) (lS a) (.cells (rep R [.str [],.aQ,zI 0,.aQ]) 27 false false) (.cells S 140 g false) (dQ T O N L V P R M) (ji X U)))(f:(decide ((↑(w+1):Int)>0))=true)(i:(decide ((↑R:Int)>0))=true):DS Q (Um B (.aO (some (G,H)) y v) A (.sl 0 0 (w+1) J)) (jK (lS W) (.cells S 140 g false)) (Y7 (zP 2 0) (zI 0) (.aO P R M) B (.aO (some (G,H)) y v) A (zI (↑R:Int)) (.sl 0 0 w J)) (AY (ji X U) (lS a) (.cells (rep R [AV.str [],AV.aQ,AV.int IntKind.i64 0,AV.aQ]) 27 false false) (.cells S 140 g false) (dQ T O N L V P R M) (ji X U)):=
 qH F t [0,4,5,6,7,49,50,51] (Qb 5 f (Qk 11 (DoesC.ent t (by kernel_rfl) (Px Y Z Q F t G H y v A B S W g J w X p U x r s T O N L V P R M q D u o z K C a b d ):DC Q 57 [.sl 0 0 (w+1) J] (Ja W S g) (.gI [.sl 0 0 w J,Zk X U]) (I9 X U W S g)) (Qv 11 (jB (e:=65) (by kernel_rfl) (by kernel_rfl) rfl r s:aZ (E.wo Q) 31 (nP (E.wo Q) (.aO (some (G,H)) y v)) (zI U)=some (zP (1152921504606846976+G) (H+x*4))) (Qv 0 (q (lD (ji X U) (lS W) (.cells S 140 g false) (ji X U))) (Qd 4 [.c,.c,.c,.c,.k (UR T) (rO X U W S g T O N L V P R M),.c,.c,.c,.c,.l (.gI []) (rO X U K S g T O N L V P R M)] (Qp z (Qz (Qp (CU (by kernel_rfl) rfl C:jH (E.wo Q) (rO X U W S g T O N L V P R M) 27 (zP 1 X) (.agg [.str T,.aQ,zI V,.aQ])=some (.val (.gI []) (rO X U K S g T O N L V P R M))) (Qs (zI V) (Qs (zI V) (Qs (l9 T O N L) (Qs (zP 1 X) (Qs (zP 1 X) (Qb 6 i (Qd 2 [.c,.c,.c,.c,.c,.l (.sl 5 0 R (some R)) (AY (ji X U) (lS K) (.cells (rep R [AV.str [],AV.aQ,AV.int IntKind.i64 0,AV.aQ]) 27 false false) (.cells S 140 g false) (dQ T O N L V P R M) (ji X U)),.c,.c,.l (.gI []) (AY (ji X U) (lS a) (.cells (rep R [AV.str [],AV.aQ,AV.int IntKind.i64 0,AV.aQ]) 27 false false) (.cells S 140 g false) (dQ T O N L V P R M) (ji X U))] (Qq (Hy (e:=27) (by kernel_rfl) (by kernel_rfl) b:iy (E.wo Q) (rO X U K S g T O N L V P R M) 25 (zI (↑R:Int)) (zI (↑R:Int))=some (.val (.sl 5 0 R (some R)) (AY (ji X U) (lS K) (.cells (rep R [AV.str [],AV.aQ,AV.int IntKind.i64 0,AV.aQ]) 27 false false) (.cells S 140 g false) (dQ T O N L V P R M) (ji X U)))) (Qz (Qp (CQ (by kernel_rfl) rfl rfl d:jH (E.wo Q) (AY (ji X U) (lS K) (.cells (rep R [AV.str [],AV.aQ,AV.int IntKind.i64 0,AV.aQ]) 27 false false) (.cells S 140 g false) (dQ T O N L V P R M) (ji X U)) 25 (zP 1 (X+3)) (.sl 5 0 R (some R))=some (.val (.gI []) (AY (ji X U) (lS a) (.cells (rep R [AV.str [],AV.aQ,AV.int IntKind.i64 0,AV.aQ]) 27 false false) (.cells S 140 g false) (dQ T O N L V P R M) (ji X U)))) (Qs (zI (↑R:Int)) (Qs (.aO P R M) (Qs (zP 1 X) (Qn 9)))))))))))))))))))))) (by kernel_rfl)
end
section
variable(X:Old)(F:Fw X)(Q:Gw X)(R V U T:Nat)(A B:AV)
include X F Q R V U T A B
theorem gx3(S W:List AV)(g:Bool)(cp:Option Nat)(w off:Nat)(K:List AV)(at0:Int)(b c kn kc:Nat)(j:Int)(y:Nat)(k:j=(↑y:Int))(l:y<kn)(a:Int)(m:∀h:AH,loadT (E.wo X) h 3 (OLD+b) (c+y*1)=some (zI a))(d:∀h:AH,h.obj 1= .cells W 27 false false->loadT (E.wo X) h 25 1 (off+3)=some (.sl 3 0 kn (some kn)))(f:Nat)(cp2:Option Nat)(i:AH)(n:gX (E.wo X) (xG (lS K) (lS W) (.cells S 140 g false) (.cells [.ptr 3 (y*4),zI a] 140 false false) (ji off at0)) .append [.sl 0 0 w cp,.sl 4 0 1 (some 1)] [141,141]=some (.val (.sl f 0 (w+1) cp2) i))(o:(decide (j<(↑kn:Int)))=true):DS X (ahb (zI j) (.aO (some (b,c)) kn kc) B (.aO (some (R,V)) U T) A (zI (↑kn:Int)) (.sl 0 0 w cp)) (lD (lS K) (lS W) (.cells S 140 g false) (ji off at0)) (Y7 (zP 2 0) (zI (IntKind.i64.wrap (j+1))) (.aO (some (b,c)) kn kc) B (.aO (some (R,V)) U T) A (zI (↑kn:Int)) (.sl f 0 (w+1) cp2)) i:=
 qH F Q [0,4,5,6,7,49,50,51] (Qb 2 o (Qv 9 (jB (e:=3) (by kernel_rfl) (by kernel_rfl) rfl k l:aZ (E.wo X) 56 (nP (E.wo X) (.aO (some (b,c)) kn kc)) (zI j)=some (zP (1152921504606846976+b) (c+y*1))) (Qv 0 (m (lD (lS K) (lS W) (.cells S 140 g false) (ji off at0))) (Qv 9 (d (lD (lS K) (lS W) (.cells S 140 g false) (ji off at0)) rfl) (Qv 1 (y25 X 3 (some kn) k l) (Qk 3 (DoesC.ent Q (by kernel_rfl) (Ti Y Z X F Q R V U T A B S W g cp w off K at0 b c kn kc j y k l a m d f cp2 i n ):DC X 58 [.sl 0 0 w cp,.sl 4 0 1 (some 1)] (xG (lS K) (lS W) (.cells S 140 g false) (.cells [zP 3 (y*4),zI a] 140 false false) (ji off at0)) (.sl f 0 (w+1) cp2) i) (Qn 8))))))) (by kernel_rfl)
theorem gx4(w:Nat)(st:AV)(pk:Option (Nat×Nat))(kn kc:Nat)(j:Int)(a:(decide (j<(↑kn:Int)))=false):DS X (ahb (zI j) (.aO pk kn kc) B (.aO (some (R,V)) U T) A (zI (↑kn:Int)) st) ⟨.e,3,0⟩ (Um B (.aO (some (R,V)) U T) A st) ⟨.e,3,0⟩:=
 qH F Q [0,4,5,6] (Qb 2 a (Qn 6)) (by kernel_rfl)
end
end
section
variable(Y:Fe)(Z:Ge)
include Y Z
section
variable(X:Old)(F:Fw X)(T:Gw X)(V W n U:Nat)
include X F T V W n U
theorem sz0(a:n<=1048576):DS X (ent (E.wo X) 27 [.aO (some (V,W)) n U]) ⟨.e,0,0⟩ (abG (zI (↑n:Int)) (.sl 0 0 n (some n)) (.aO (some (V,W)) n U) (zI 0)) (je (.cells (rep n [AV.int IntKind.i64 0]) 3 false false)):=
 qH F T [4,12,13,14] (Ql 9 (Hy (e:=3) (by kernel_rfl) (by kernel_rfl) a:iy (E.wo X) ⟨.e,0,0⟩ 56 (zI (↑n:Int)) (zI (↑n:Int))=some (.val (.sl 0 0 n (some n)) (je (.cells (rep n [AV.int IntKind.i64 0]) 3 false false)))) (Qn 11)) (by kernel_rfl)
theorem sz1(ws:List AV)(i:Int)(x:Nat)(f:i=(↑x:Int))(g:x<n)(rel:List UInt8)(b:Option (Nat×Nat))(c d:Nat)(rule:Int)(pk:Option (Nat×Nat))(kn kc:Nat)(k:∀h:AH,loadT (E.wo X) h 65 (OLD+V) (W+x*4)=some (kR rel b c d rule pk kn kc))(a:List AV)(l:fE (jK (dQ rel b c d rule pk kn kc) (rD ws)) 0 (x*1) [zI 1]=some (jK (dQ rel b c d rule pk kn kc) (rD a)))(m:(decide (i<(↑n:Int)))=true):DS X (abG (zI (↑n:Int)) (.sl 0 0 n (some n)) (.aO (some (V,W)) n U) (zI i)) (je (rD ws)) (VT (.aO pk kn kc) (zI 0) (zI i) (zI (↑n:Int)) (zI (↑kn:Int)) (.sl 0 0 n (some n)) (.aO (some (V,W)) n U) (zI i)) (jK (dQ rel b c d rule pk kn kc) (rD a)):=
 qH F T [4,5,12,13,14,23,24,25] (Qb 2 m (Qv 9 (jB (e:=65) (by kernel_rfl) (by kernel_rfl) rfl f g:aZ (E.wo X) 31 (nP (E.wo X) (.aO (some (V,W)) n U)) (zI i)=some (zP (1152921504606846976+V) (W+x*4))) (Qv 0 (k (je (rD ws))) (Qv 8 (wE X 0 (some n) f g) (Ql 0 (WC (by kernel_rfl) l:jH (E.wo X) (jK (dQ rel b c d rule pk kn kc) (rD ws)) 3 (zP 0 (x*1)) (zI 1)=some (.val (.gI []) (jK (dQ rel b c d rule pk kn kc) (rD a)))) (Qn 10)))))) (by kernel_rfl)
theorem sz5(i:Int)(a b:Nat)(c:(decide (i<(↑n:Int)))=false):DR X (abG (zI (↑n:Int)) (.aO (some (a,0)) n b) (.aO (some (V,W)) n U) (zI i)) ⟨.e,0,0⟩ (.gI [.aO (some (a,0)) n b,.bool true]) ⟨.e,0,0⟩:=
 prt F T (Qb 2 c (Qn 11)) (by kernel_rfl)
end
section
variable(X:Old)(F:Fw X)(K:Gw X)(O Q n P:Nat)(W:List AV)(i:Int)(S T U R:Nat)(j:Int)(y:Nat)(M:j=(↑y:Int))(N:y<U)(V:Int)(L:∀h:AH,loadT (E.wo X) h 3 (OLD+S) (T+y*1)=some (zI V))
include X F K O Q n P W i S T U R j y M N V L
theorem ahq(a:(decide (j<(↑U:Int)))=true)(b:(decide (V<0))=true):DR X (VT (.aO (some (S,T)) U R) (zI j) (zI i) (zI (↑n:Int)) (zI (↑U:Int)) (.sl 0 0 n (some n)) (.aO (some (O,Q)) n P) (zI i)) (je (rD W)) (.gI [.aQ,.bool false]) (je (rD W)):=
 prt F K (Qb 2 a (Qv 8 (jB (e:=3) (by kernel_rfl) (by kernel_rfl) rfl M N:aZ (E.wo X) 56 (nP (E.wo X) (.aO (some (S,T)) U R)) (zI j)=some (zP (1152921504606846976+S) (T+y*1))) (Qv 0 (L (je (rD W))) (Qb 6 b (Qn 13))))) (by kernel_rfl)
theorem ahp(a:(decide (j<(↑U:Int)))=true)(b:(decide (V<0))=false)(c:(decide (V≥i))=true):DR X (VT (.aO (some (S,T)) U R) (zI j) (zI i) (zI (↑n:Int)) (zI (↑U:Int)) (.sl 0 0 n (some n)) (.aO (some (O,Q)) n P) (zI i)) (je (rD W)) (.gI [.aQ,.bool false]) (je (rD W)):=
 prt F K (Qb 2 a (Qv 8 (jB (e:=3) (by kernel_rfl) (by kernel_rfl) rfl M N:aZ (E.wo X) 56 (nP (E.wo X) (.aO (some (S,T)) U R)) (zI j)=some (zP (1152921504606846976+S) (T+y*1))) (Qv 0 (L (je (rD W))) (Qb 6 b (Qb 3 c (Qn 9)))))) (by kernel_rfl)
theorem sz2(x z:Nat)(b:i=(↑x:Int))(d:x<n)(k:V=(↑z:Int))(m:z<n)(u v:Int)(f:∀h:AH,h.obj 0= .cells W 3 false false->loadT (E.wo X) h 3 0 (x*1)=some (zI u))(g:∀h:AH,h.obj 0= .cells W 3 false false->loadT (E.wo X) h 3 0 (z*1)=some (zI v))(a:List AV)(s:Int)(t:IntKind.i64.wrap (u+v)=s)(o:fE (je (rD W)) 0 (x*1) [zI (bif decide (65537<IntKind.i64.wrap (u+v))then 65537 else IntKind.i64.wrap (u+v))]=some (je (rD a)))(p:(decide (j<(↑U:Int)))=true)(q:(decide (V<0))=false)(r:(decide (V≥i))=false):DS X (VT (.aO (some (S,T)) U R) (zI j) (zI i) (zI (↑n:Int)) (zI (↑U:Int)) (.sl 0 0 n (some n)) (.aO (some (O,Q)) n P) (zI i)) (je (rD W)) (VT (.aO (some (S,T)) U R) (zI (IntKind.i64.wrap (j+1))) (zI i) (zI (↑n:Int)) (zI (↑U:Int)) (.sl 0 0 n (some n)) (.aO (some (O,Q)) n P) (zI i)) (je (rD a)):=
 qH F K [4,5,12,13,14,23,24,25] (Qb 2 p (Qv 8 (jB (e:=3) (by kernel_rfl) (by kernel_rfl) rfl M N:aZ (E.wo X) 56 (nP (E.wo X) (.aO (some (S,T)) U R)) (zI j)=some (zP (1152921504606846976+S) (T+y*1))) (Qv 0 (L (je (rD W))) (Qb 6 q (Qb 3 r (Qd 4 [.c,.c,.c,.c,.v (zP 0 (x*1)),.v (zI u),.c,.c,.v (zP 0 (z*1)),.v (zI v),.c,.c,.v (zP 0 (x*1)),.l (.gI []) (je (rD a))] (Qq (wE X 0 (some n) b d) (Qq (f (je (rD W)) rfl) (Qq (wE X 0 (some n) k m) (Qq (g (je (rD W)) rfl) (Qq (wE X 0 (some n) b d) (Qz (Qp (WC (by kernel_rfl) o:jH (E.wo X) (je (rD W)) 3 (zP 0 (x*1)) (zI (bif decide (65537<IntKind.i64.wrap (u+v))then 65537 else IntKind.i64.wrap (u+v)))=some (.val (.gI []) (je (rD a)))) (Qs (zI (bif decide (65537<IntKind.i64.wrap (u+v))then 65537 else IntKind.i64.wrap (u+v))) (Qp (g (je (rD W)) rfl) (Qp (f (je (rD W)) rfl) (Qn 6))))))))))))))))) (by kernel_rfl)
end
theorem sz4(old:Old)(F:Fw old)(FF:Gw old)(lb lo n lc:Nat)(ws:List AV)(i:Int)(pk:Option (Nat×Nat))(kn kc:Nat)(j:Int)(a:(decide (j<(↑kn:Int)))=false):DS old (VT (.aO pk kn kc) (zI j) (zI i) (zI (↑n:Int)) (zI (↑kn:Int)) (.sl 0 0 n (some n)) (.aO (some (lb,lo)) n lc) (zI i)) (je (rD ws)) (abG (zI (↑n:Int)) (.sl 0 0 n (some n)) (.aO (some (lb,lo)) n lc) (zI (IntKind.i64.wrap (i+1)))) (je (rD ws)):=
 qH F FF [4,12,13,14] (Qb 2 a (Qn 10)) (by kernel_rfl)
end
section
variable(Y:Fe)(Z:Ge)
include Y Z
theorem no2(old:Old)(F:Fw old)(FF:Gw old)(b:Nat):AtCall prog (E.wo old) [.n 1] (adw (.ptr (OLD+b) 0)) ⟨.e,0,0⟩ 18 [zP (1152921504606846976+b) 0] ⟨.e,0,0⟩:=
 ⟨[],by kernel_rfl,trivial⟩
theorem he2(old:Old)(F:Fw old)(FF:Gw old)(b:Nat):AtCall prog (E.wo old) [.n 1] (aha (.ptr (OLD+b) 0)) ⟨.e,0,0⟩ 18 [zP (1152921504606846976+b) 0] ⟨.e,0,0⟩:=
 ⟨[],by kernel_rfl,trivial⟩
theorem fo2(old:Old)(F:Fw old)(FF:Gw old)(b:Nat):AtCall prog (E.wo old) [.n 1] (X3 (.ptr (OLD+b) 0)) ⟨.e,0,0⟩ 18 [zP (1152921504606846976+b) 0] ⟨.e,0,0⟩:=
 ⟨[],by kernel_rfl,trivial⟩
section
variable(W:Old)(F:Fw W)(V:Gw W)(X:Old)
include W F V X
theorem no3(b q m c:Nat):DR W (lu prog (E.wo X) [.n 1] (adw (.ptr (OLD+b) 0)) ⟨.e,0,0⟩ (Ya7 q m c)) ⟨.e,0,0⟩ (zI (↑m:Int)) ⟨.e,0,0⟩:=
 prt F V (Qn 21) (by kernel_rfl)
theorem no4(b:Nat):DR W (lu prog (E.wo X) [.n 1] (adw (.ptr (OLD+b) 0)) ⟨.e,0,0⟩ (.gI [.aQ,.bool false])) ⟨.e,0,0⟩ (zI 65537) ⟨.e,0,0⟩:=
 prt F V (Qn 18) (by kernel_rfl)
theorem fo3(b:Nat):DR W (lu prog (E.wo X) [.n 1] (X3 (.ptr (OLD+b) 0)) ⟨.e,0,0⟩ (.gI [.aQ,.bool false])) ⟨.e,0,0⟩ .aQ ⟨.e,0,0⟩:=
 prt F V (Qn 17) (by kernel_rfl)
end
end
section
variable(Y:Fe)(Z:Ge)
include Y Z
section
variable(W:Old)(F:Fw W)(V:Gw W)(X:List UInt8)
include W F V X
theorem no1(a:AV)(rule:Int)(k:Option (Nat×Nat))(kn kc:Nat):DS W (ent (E.wo W) 7 [.agg [.str X,a,zI rule,.aO k kn kc]]) ⟨.e,0,0⟩ (adw (zP 0 0)) (je (.cells [.str X,a,zI rule,.aO k kn kc] 27 false false)):=
 qH F V [1,2] (Qn 6) (by kernel_rfl)
theorem he1(a:AV)(rule:Int)(k:Option (Nat×Nat))(kn kc:Nat):DS W (ent (E.wo W) 16 [.agg [.str X,a,zI rule,.aO k kn kc]]) ⟨.e,0,0⟩ (aha (zP 0 0)) (je (.cells [.str X,a,zI rule,.aO k kn kc] 27 false false)):=
 qH F V [1,2] (Qn 6) (by kernel_rfl)
theorem fo1(a:AV)(rule:Int)(k:Option (Nat×Nat))(kn kc:Nat):DS W (ent (E.wo W) 6 [.agg [.str X,a,zI rule,.aO k kn kc]]) ⟨.e,0,0⟩ (X3 (zP 0 0)) (je (.cells [.str X,a,zI rule,.aO k kn kc] 27 false false)):=
 qH F V [1,2] (Qn 7) (by kernel_rfl)
theorem cp1(b o n c:Nat)(vs:List AV)(g:Bool)(a:Option Nat)(d:DC W 38 [.aO (some (b,o)) n c] (jK Ir (UA X b o n c)) (.sl 2 0 n a) (dJ Ir (UA X b o n c) (.cells vs 101 g false))):DR W (ent (E.wo W) 21 [.agg [.str X,.aO (some (b,o)) n c]]) ⟨.e,0,0⟩ (.agg [.str X,.sl 2 0 n a]) (dJ (.cells [.str X,.sl 2 0 n a] 24 false false) (UA X b o n c) (.cells vs 101 g false)):=
 prt F V (Qd 6 [.c,.c,.c,.c,.k (.sl 2 0 n a) (dJ Ir (UA X b o n c) (.cells vs 101 g false)),.c,.c] (Qp d (Qs (.aO (some (b,o)) n c) (Qs (.str X) (Qs (.str X) (Qn 1)))))) (by kernel_rfl)
theorem cp2:DR W (ent (E.wo W) 21 [.agg [.str X,.aO none 0 0]]) ⟨.e,0,0⟩ (UR X) (jK (.cells [.str X,.aQ] 24 false false) (abK X)):=
 prt F V (Qd 6 [.c,.c,.c,.c,.k .aQ (jK Ir (abK X)),.c,.c] (Qp (DoesC.of_run F V (n:=3000) (p:=(.aQ,(jK Ir (abK X)))) (by kernel_rfl):DC W 38 [.aO none 0 0] (jK Ir (abK X)) .aQ (jK Ir (abK X))) (Qs (.aO none 0 0) (Qs (.str X) (Qs (.str X) (Qn 1)))))) (by kernel_rfl)
end
end
section
variable(Y:Fe)(Z:Ge)
include Y Z
section
variable(X:Old)(F:Fw X)(W:Gw X)
include X F W
theorem clv(b o n c:Nat)(cells:List AV)(h0:0<n)(a:n<=268435456)(d:iI X b o (n*3)=some cells):DR X (ent (E.wo X) 38 [.aO (some (b,o)) n c]) ⟨.e,0,0⟩ (.sl 1 0 n none) (jK (MU cells) Y9):=
 prt F W (Ql 16 (VL (e:=101) (sz:=3) (by kernel_rfl) rfl h0 a d (by kernel_rfl):gX (E.wo X) (je Y9) .append [.sl 0 0 0 (some 0),.aO (some (b,o)) n c] [22,22]=some (.val (.sl 1 0 n none) (jK (MU cells) Y9))) (Qn 3)) (by kernel_rfl)
theorem clz(b o c:Nat):DR X (ent (E.wo X) 38 [.aO (some (b,o)) 0 c]) ⟨.e,0,0⟩ (.sl 0 0 0 (some 0)) (je Y9):=
 prt F W (Ql 16 (Ug (e:=101) (sz:=3) (by kernel_rfl) rfl (by kernel_rfl):gX (E.wo X) (je Y9) .append [.sl 0 0 0 (some 0),.aO (some (b,o)) 0 c] [22,22]=some (.val (.sl 0 0 0 (some 0)) (je Y9))) (Qn 3)) (by kernel_rfl)
end
end
section
variable{b:Nat}
theorem EN(k i:Nat)(h:OLD<=i):Mc k i=i:=by unfold Mc;rw[bF h];rfl
section
variable(W:Fe)(Y:Ge)(Z:Old)(F:Fw Z)(X:Gw Z)
include W Y F X
theorem ah3{o c:Nat}{l:List PV}(e:iI Z b o (l.length*3)=some (fH l))(f:l.length<=268435456):∃a g,CG a g l.length∧
 DC Z 38 [.aO (some (b,o)) l.length c] eH (.sl 0 0 l.length a) ⟨zL (.cells (fH l) 101 g false),1,0⟩:=by
 cases l with
 |nil=>exact⟨some 0,false,.inr ⟨rfl,rfl⟩,DoesC.ent X (by kernel_rfl) (clz W Y Z F X b o c)⟩
 |cons x l=>
  refine⟨none,true,.inl ⟨rfl,rfl⟩,?_⟩;have d:=jP (jg (x::l));have hr:AV.jM (AQ 1) (fH (x::l))=fH (x::l):=AV.kF (λi h=>rY h) d;exact DoesC.sel (k:=1) (DoesC.ent X (by kernel_rfl) (clv W Y Z F X b o (l.length+1) c (fH (x::l)) (Nat.succ_pos _) f e)) (by kernel_rfl) (by kernel_rfl) rfl rfl (by show AO.cells _ _ _ _=_;rw[hr]) (by show jG 1 (zL _)=true;exact(by show(AV.fG 1 (fH (x::l))&&true)=true;rw[AV.qI d];rfl)) rfl (by rfl)
theorem c41{o c:Nat}{l:List PV}(f:iI Z b o (l.length*3)=some (fH l))(j:l.length<=268435456):∃a g,CG a g l.length∧∀{h:AH} {n:Nat},h.nx=n->Nat.blt n OLD=true->h.df=0->posB (λi=>Nat.blt i n) h.tr=true->
 DC Z 38 [.aO (some (b,o)) l.length c] h (.sl n 0 l.length a) (h.new (.cells (fH l) 101 g false)):=by
 obtain⟨a,g,k,C⟩:=ah3 W Y Z F X (c:=c) f j;refine⟨a,g,k,λ{h n} e m d hp=>?_⟩;subst e;have p:=jP (jg l);refine DoesC.PG C rfl rfl (by show AO.cells _ _ _ _=_;rw[AV.kF (λi h=>EN _ i h) p]) d m (λi o e _=>aJ (qJ hp e)) ?_;have u0:Mc h.nx 0=h.nx:=by unfold Mc;rw[show Nat.ble OLD 0=false from rfl];exact fA _
 show AV.sl (Mc h.nx 0) 0 l.length a=_;rw[u0]
theorem ah5(r:List UInt8){o c:Nat}{l:List PV}(e:iI Z b o (l.length*3)=some (fH l))(f:l.length<=268435456):∃a g,CG a g l.length∧
 DC Z 21 [.agg [.str r,.aO (some (b,o)) l.length c]] eH (.agg [.str r,.sl 0 0 l.length a]) ⟨zL (.cells (fH l) 101 g false),1,0⟩:=by
 obtain⟨a,g,j,C⟩:=c41 W Y Z F X (c:=c) e f;refine⟨a,g,j,?_⟩;have d:=jP (jg l);have hr:AV.jM (AQ 2) (fH l)=fH l:=AV.kF (λi h=>rY h) d;exact DoesC.sel (k:=2) (DoesC.ent X (by kernel_rfl) (cp1 W Y Z F X r b o l.length c (fH l) g a (C rfl rfl rfl (by kernel_rfl)))) (by kernel_rfl) (by kernel_rfl) rfl rfl (by show AO.cells _ _ _ _=_;rw[hr]) (by show(AV.fG 1 (fH l)&&true)=true;rw[AV.qI d];rfl) rfl (by rfl)
theorem c21(r:List UInt8){o c:Nat}{l:List PV}(f:iI Z b o (l.length*3)=some (fH l))(j:l.length<=268435456):∃a g,CG a g l.length∧∀{h:AH} {n:Nat},h.nx=n->Nat.blt n OLD=true->h.df=0->posB (λi=>Nat.blt i n) h.tr=true->
 DC Z 21 [.agg [.str r,.aO (some (b,o)) l.length c]] h (.agg [.str r,.sl n 0 l.length a]) (h.new (.cells (fH l) 101 g false)):=by
 obtain⟨a,g,k,C⟩:=ah5 W Y Z F X r (c:=c) f j;refine⟨a,g,k,λ{h n} e m d hp=>?_⟩;subst e;have p:=jP (jg l);refine DoesC.PG C rfl rfl (by show AO.cells _ _ _ _=_;rw[AV.kF (λi h=>EN _ i h) p]) d m (λi o e _=>aJ (qJ hp e)) ?_;have u0:Mc h.nx 0=h.nx:=by unfold Mc;rw[show Nat.ble OLD 0=false from rfl];exact fA _
 show AV.agg [.str r,.sl (Mc h.nx 0) 0 l.length a]=_;rw[u0]
end
end
section
variable(Y:Fe)(Z:Ge)
include Y Z
theorem or0(old:Old)(F:Fw old)(FF:Gw old)(b q:Nat):DS old (ent (E.wo old) 18 [.ptr (OLD+b) q]) ⟨.e,0,0⟩ (Og (zI 0) (.sl 0 0 1 (some 1))) (je (.cells [zP (1152921504606846976+b) q] 55 false false)):=
 qH F FF [2,3,4,5] (Qn 18) (by kernel_rfl)
section
variable(X:Old)(F:Fw X)(M:Gw X)(W:List AV)(g:Bool)(m:Nat)(V:Option Nat)(i:Int)(x:Nat)(S:i=(↑x:Int))(T:x<m)(N P:Nat)(R:∀h:AH,h.obj 0= .cells W 55 g false->loadT (E.wo X) h 55 0 (x*1)=some (.ptr (OLD+N) P))(K:Option (Nat×Nat))(U L:Nat)(Q:∀h:AH,loadT (E.wo X) h 25 (OLD+N) (P+3)=some (.aO K U L))(O:(decide (i<(↑m:Int)))=true)
include X F M W g m V i x S T N P R K U L Q O
theorem or1(a:(decide (IntKind.i64.wrap ((↑m:Int)+(↑U:Int))>65536))=false):DS X (Og (zI i) (.sl 0 0 m V)) (xI W g) (Uw (zI 0) (zI i) (.sl 0 0 m V) (zI (↑U:Int))) (xI W g):=
 qH F M [2,3,4,5,34,35] (Qb 6 O (Qv 12 (y52 X 0 V S T) (Qv 0 (R (xI W g) rfl) (Qv 2 (Q (xI W g)) (Qb 2 a (Qv 7 (y52 X 0 V S T) (Qv 0 (R (xI W g) rfl) (Qv 2 (Q (xI W g)) (Qn 5))))))))) (by kernel_rfl)
theorem ahv(a:(decide (IntKind.i64.wrap ((↑m:Int)+(↑U:Int))>65536))=true):DR X (Og (zI i) (.sl 0 0 m V)) (xI W g) (.gI [.aQ,.bool false]) (xI W g):=
 prt F M (Qb 6 O (Qv 12 (y52 X 0 V S T) (Qv 0 (R (xI W g) rfl) (Qv 2 (Q (xI W g)) (Qb 2 a (Qn 8)))))) (by kernel_rfl)
end
theorem ahu(old:Old)(F:Fw old)(FF:Gw old)(a m c:Nat)(i:Int)(o1:(decide (i<(↑m:Int)))=false):DR old (Og (zI i) (.aO (some (a,0)) m c)) ⟨.e,1,0⟩ (.gI [.aO (some (a,0)) m c,.bool true]) ⟨.e,1,0⟩:=
 prt F FF (Qb 6 o1 (Qn 10)) (by kernel_rfl)
end
section
variable(Y:Fe)(Z:Ge)
include Y Z
section
variable(X:Old)(F:Fw X)(U:Gw X)(W:List AV)(g:Bool)(m:Nat)(V:Option Nat)(i:Int)(j:Int)
include X F U W g m V i j
theorem or2(x:Nat)(f:i=(↑x:Int))(k:x<m)(b c:Nat)(l:∀h:AH,h.obj 0= .cells W 55 g false->loadT (E.wo X) h 55 0 (x*1)=some (.ptr (OLD+b) c))(a ok kn kc:Nat)(n:∀h:AH,loadT (E.wo X) h 25 (OLD+b) (c+3)=some (.aO (some (a,ok)) kn kc))(y:Nat)(o:j=(↑y:Int))(p:y<kn)(d:AH)(q:gX (E.wo X) (jK (.cells [.ptr (OLD+a) (ok+y*4)] 55 false false) (.cells W 55 g false)) .append [.sl 0 0 m V,.sl 1 0 1 (some 1)] [52,52]=some (.val (.sl 2 0 (m+1) none) d))(r:(decide (j<(↑kn:Int)))=true):DS X (Uw (zI j) (zI i) (.sl 0 0 m V) (zI (↑kn:Int))) (xI W g) (Uw (zI (IntKind.i64.wrap (j+1))) (zI i) (.sl 2 0 (m+1) none) (zI (↑kn:Int))) d:=
 qH F U [2,3,4,5,34,35] (Qb 2 r (Qv 15 (y52 X 0 V f k) (Qv 0 (l (xI W g) rfl) (Qv 2 (n (xI W g)) (Qv 1 (jB (e:=27) (by kernel_rfl) (by kernel_rfl) rfl o p:aZ (E.wo X) 25 (nP (E.wo X) (.aO (some (a,ok)) kn kc)) (zI j)=some (zP (1152921504606846976+a) (ok+y*4))) (Ql 1 q (Qn 8))))))) (by kernel_rfl)
theorem aex(kn:Nat)(a:(decide (j<(↑kn:Int)))=false):DS X (Uw (zI j) (zI i) (.sl 0 0 m V) (zI (↑kn:Int))) (xI W g) (Og (zI (IntKind.i64.wrap (i+1))) (.sl 0 0 m V)) (xI W g):=
 qH F U [2,3,4,5] (Qb 2 a (Qn 11)) (by kernel_rfl)
end
end
section
variable{b:Nat}{ts:List T}
noncomputable def oF(m:Nat)(a:Option Nat)(i:Int):AF:=(Og (zI i) (.sl 0 0 m a))
noncomputable def oG(s m:Nat)(a:Option Nat)(i:Int)(kn:Nat)(j:Int):AF:=(Uw (zI j) (zI i) (.sl s 0 m a) (zI ((↑kn:Int))))
inductive LV(old:Old):List AV->List T->Prop
 |nil:LV old [] []
 |cons {p:AV} {t:T} {ps:List AV} {ts:List T}:CJ old p t->LV old ps ts->LV old (p::ps) (t::ts)
theorem LV.len{old:Old}{ps:List AV}(h:LV old ps ts):ps.length=ts.length:=by
 induction h with
 |nil=>rfl
 |cons _ _ a=>simp[a]
theorem LV.mono{old b:Old}(c:Old.le old b){ps:List AV}{ts:List T}(h:LV old ps ts):LV b ps ts:=by
 induction h with
 |nil=>exact .nil
 |cons a _ d=>exact .cons (a.mono c) d
theorem LV.low{old:Old}{ps:List AV}{ts:List T}(h:LV old ps ts):AV.fG 0 ps=true:=by
 induction h with
 |nil=>rfl
 |cons a _ b=>show(AV.low 0 _&&AV.fG 0 _)=true;rw[a.low,b];rfl
theorem LV.app{old:Old}{ps b:List AV}{c:List T}(h:LV old ps ts)(H:LV old b c):LV old (ps++b) (ts++c):=by
 induction h with
 |nil=>exact H
 |cons a _ d=>exact .cons a d
theorem LV.get{old:Old}{ps:List AV}(h:LV old ps ts):∀{i:Nat} {t:T},ts[i]? =some t->∃p,ps[i]? =some p∧CJ old p t:=by
 induction h with
 |nil=>intro i t e;cases e
 |cons a _ b=>
  intro i t e;cases i with
  |zero=>cases e;exact⟨_,rfl,a⟩
  |succ i=>exact b (by simpa using e)
def bfs:Nat->List T->List T
 |0,_=>[]
 |_+1,[]=>[]
 |n+1,t::l=>t::bfs n (l++t.kids)
theorem CX:∀l m:List T,eX (l++m)=eX l+eX m
 |[],m=>by show eX m=0+eX m;omega
 |t::l,m=>by show t.size+eX (l++m)=(t.size+eX l)+eX m;rw[CX l m];omega
theorem qp(t:T):t.size=eX t.kids+1:=by cases t;rfl
theorem pV:∀l:List T,l.length<=eX l
 |[]=>bK _
 |t::l=>by
  have:=pV l;have:=qp t;show l.length+1<=t.size+eX l;omega
def afa(ts:List T)(old:Old)(v:AV):Prop:=∃b c ps,v= .gI [.aO (some (b,0)) ts.length c,.bool true]∧iI old b 0 ts.length=some ps∧LV old ps ts
section
variable(W:Fe)(Y:Ge)(X:∀old,Fw old)(Z:∀old,Gw old)
include W Y X Z
theorem Vk{Q:Old->AV->Prop}(old:Old){x:Nat}{t:T}{m ok kc:Nat}{ks:List AV}(A:iI old m ok (t.kids.length*4)=some ks)(n:mF old ks t.kids)(w:t.kids.length<=65536):∀(r y:Nat) (ps:List AV) (ts:List T) (l:Option Nat) (g:Bool),y+r=t.kids.length->LV old ps ts->ts[x]? =some t->CG l g ts.length->ts.length+r<=65536->
 (∃b o cs,ps[x]? =some (.ptr (OLD+b) o)∧iI old b o 4=some cs∧cs[3]? =some (.aO (some (m,ok)) t.kids.length kc))->
 (∀a d g',LV old a (ts++t.kids.drop y)->CG d g' (ts++t.kids.drop y).length->fU prog E old (oF (ts++t.kids.drop y).length d (x+1:Nat)) ⟨zL (.cells a 55 g' false),1,0⟩ Q)->
 fU prog E old (oG 0 ts.length l x t.kids.length y) ⟨zL (.cells ps 55 g false),1,0⟩ Q
 |0,y,ps,ts,l,g,h0,q,v,hr,G,_,B=>by
  refine fU.of (aex W Y old (X old) (Z old) ps g ts.length l x y t.kids.length (aH (by omega))) (dF rfl) ?_;have H:t.kids.drop y=[]:=gG (by omega);rw[H,dD]at B;have f:x<ts.length:=(aA.1 v).1;rw[wrapN (by omega)];exact B ps l g q hr
 |r+1,y,ps,ts,l,g,h0,q,v,hr,G,I,B=>by
  obtain⟨b,o,cs,e1,e2,C⟩:=I;have f:x<ts.length:=(aA.1 v).1;obtain⟨c,k1,J⟩:=n.at A (j:=y) (t:=t.kids[y]'(by omega)) (aI _);have hp:CJ old (.ptr (OLD+m) (ok+y*4)) (t.kids[y]'(by omega)):=⟨m,ok+y*4,c,rfl,k1,J⟩;obtain⟨K,L,M,N,O⟩:=abx (E:=E.wo old) (ts:=52) (e:=55) (by kernel_rfl) (p:= .ptr (OLD+m) (ok+y*4)) hr q.len (by omega) rfl;have A1:=or2 W Y old (X old) (Z old) ps g ts.length l x y x rfl f b o (λh P=>mV (by kernel_rfl) rfl P (by rw[bJ];exact e1)) m ok t.kids.length kc (λh=>kT (by kernel_rfl) (pK e2 C)) y rfl (by omega) K L (aB (by omega));rw[wrapN (i:=y) (by omega)]at A1;refine fU.of A1 (by rw[N];exact dF rfl) ?_;have s:=q.app (.cons hp .nil);refine fU.only (f':=oG 0 (ts.length+1) none x t.kids.length (y+1:Nat)) (k:=2) ?_ O rfl (AF.sJ rfl) s.low M;have u:(ts++[t.kids[y]'(by omega)]).length=ts.length+1:=by simp
  have z:t.kids.drop y=(t.kids[y]'(by omega))::t.kids.drop (y+1):=bn (by omega);rw[← u];refine Vk old A n w r (y+1) _ _ none true (by omega) s (by rw[aW f];exact v) (.inl ⟨rfl,rfl⟩) (by rw[u];omega) ⟨b,o,cs,by rw[aW (by rw[q.len];exact f)];exact e1,e2,C⟩ ?_;intro a d g' D F;have e:ts++[t.kids[y]'(by omega)]++t.kids.drop (y+1)=ts++t.kids.drop y:=by rw[z,fC];rfl
  rw[e]at D F ⊢;exact B a d g' D F
theorem Xb:∀(n x:Nat) (ts:List T) (ps:List AV) (m:Option Nat) (g:Bool) (old:Old),eX (ts.drop x)=n->x<=ts.length->x+n<=65536->LV old ps ts->CG m g ts.length->
 fU prog E old (oF ts.length m x) ⟨zL (.cells ps 55 g false),1,0⟩ (afa (ts.take x++bfs n (ts.drop x)))
 |0,x,ts,ps,m,g,old,s,B,I,q,hr=>by
  have J:=pV (ts.drop x);rw[iF]at J;have B:x=ts.length:=by omega
  subst B;rw[List.take_length,show bfs 0 (ts.drop ts.length)=[]from rfl,dD];refine fU.agd (k:=4) (id:=0) (h':=⟨.e,1,0⟩) rfl (wY q.low) rfl (λi o e _=>by rw[show(Tr.e:Tr AO).get i=none from Tr.fO i]at e;cases e) rfl rfl ?_;intro j b c C V D;have A:=ahu W Y j (X j) (Z j) b ts.length c ts.length (aH (by omega));refine fU.does A (dF rfl) rfl (CO.low rfl ⟨b,c,ps,rfl,?_,q.mono C⟩);rw[← q.len];exact know D
 |n+1,x,ts,ps,m,g,old,s,B,I,q,hr=>by
  have l:x<ts.length:=by
   rcases aT x ts.length with h|h
   .exact h
   .rw[gG h]at s;cases s
  have r:ts.drop x=ts[x]::ts.drop (x+1):=bn l;obtain⟨t,w⟩:∃t,ts[x]? =some t:=⟨_,aI l⟩;have F:ts[x]=t:=aN ((aI l).symm.trans w);rw[F]at r;rw[r]at s;have K:t.size+eX (ts.drop (x+1))=n+1:=s;have L:=qp t;obtain⟨p,e1,b,o,cs,rfl,e2,M⟩:=q.get w;obtain⟨a,N,kc,ks,rfl,f1,O,P⟩:=M.one;have Q:=pV t.kids;have G:=pV (ts.drop (x+1));rw[iF]at G;have A1:=or1 W Y old (X old) (Z old) ps g ts.length m x x rfl l b o (λh R=>mV (by kernel_rfl) rfl R (by rw[bJ];exact e1)) N t.kids.length kc (λh=>kT (by kernel_rfl) (pK e2 rfl)) (aB (by omega)) (aH (by rw[lT (by omega) (by omega)];omega));refine fU.of A1 (dF rfl) ?_;have fin:∀(d:List AV) (f:Option Nat) (g':Bool),LV old d (ts++t.kids)->CG f g' (ts++t.kids).length->fU prog E old (oF (ts++t.kids).length f (x+1:Nat)) ⟨zL (.cells d 55 g' false),1,0⟩ (afa (ts.take x++bfs (n+1) (ts.drop x))):=λd f g' y z=>by
   have u:(ts++t.kids).drop (x+1)=ts.drop (x+1)++t.kids:=by rw[List.drop_append_of_le_length (by omega)]
   have H:(ts++t.kids).take (x+1)=ts.take x++[t]:=by rw[List.take_append_of_le_length (by omega),List.take_succ,w];rfl
   have:=Xb n (x+1) (ts++t.kids) d f g' old (by rw[u,CX];omega) (by rw[bC];omega) (by omega) y z;rw[u,H,fC]at this;rw[r];exact this
  rcases P with⟨v,rfl⟩|⟨bk,ok,rfl,S⟩
  .
   have U:t.kids.length=0:=by rw[v];rfl
   refine fU.of (aex W Y old (X old) (Z old) ps g ts.length m x 0 t.kids.length (aH (by omega))) (dF rfl) ?_;rw[wrapN (by omega)];rw[v,dD]at fin;exact fin ps m g q hr
  .refine Vk W Y X Z old S O (by omega) t.kids.length 0 ps ts m g (by omega) q w hr (by omega) ⟨b,o,_,e1,e2,rfl⟩ ?_
   intro d f g' y z;rw[gB]at y z ⊢;exact fin d f g' y z
theorem c18(old:Old){o:Nat}{t:T}(hp:CJ old (.ptr (OLD+b) o) t)(a:t.size<=65536):jV prog E old 18 [.ptr (OLD+b) o] (afa (bfs t.size [t])):=by
 refine jV.ofR (Z old) (by kernel_rfl) (fU.of (or0 W Y old (X old) (Z old) b o) (dF rfl) ?_);have:=Xb W Y X Z t.size 0 [t] [.ptr (OLD+b) o] (some 1) false old (by show t.size+0=t.size;omega) (bK _) (by omega) (.cons hp .nil) (.inr ⟨rfl,rfl⟩);exact this
end
end
section
variable{td:List AI}
theorem XP:∀(n:Nat) (l:List T),eX l=n->(bfs n l).length=n
 |0,l,h=>rfl
 |n+1,[],h=>by cases h
 |n+1,t::l,h=>by
  have h:t.size+eX l=n+1:=h;have:=qp t;show(bfs n (l++t.kids)).length+1=_;rw[XP n (l++t.kids) (by rw[CX];omega)]
theorem mF.aeI{old:Old}{cs:List AV}{t:T}(h:mF old cs [t]):AV.fG 0 cs=true:=by
 obtain⟨a,b,kc,ks,rfl,h1,_⟩:=h.one;obtain⟨x,n,c,rfl⟩:=h1.shape;rfl
section
variable{P:Program}{E:Env}{Z:Old}{Q:Old->AV->Prop}
theorem fU.box{x:AX}{tm:Tr AV}{cs:List AV}{t:T}(c:mF Z cs [t])(d:cs.length=4)(h:tm.get 1=some (.ptr 0 0))
 (j:∀b,(⟨x,tm.set 1 (.ptr (OLD+b) 0),td,[],false⟩:AF).low 0)
 (B:∀a b,Old.le Z a->CJ a (.ptr (OLD+b) 0) t->fU P E a ⟨x,tm.set 1 (.ptr (OLD+b) 0),td,[],false⟩ eH Q):
 fU P E Z ⟨x,tm,td,[],false⟩ ⟨zL (lS cs),1,0⟩ Q:=by
 refine fU.ahF (k:=1) (id:=0) (off:=0) (h':=⟨.e,1,0⟩) rfl (wY c.aeI) h (λi o e _=>by rw[show(Tr.e:Tr AO).get i=none from Tr.fO i]at e;cases e) rfl rfl ?_;intro a b f g;refine fU.low (n:=0) (bK _) (j b) rfl (λi o e _=>by rw[show(Tr.e:Tr AO).get i=none from Tr.fO i]at e;cases e) ?_;refine B a b f ⟨b,0,cs,rfl,?_,c.mono f⟩;rw[← d];exact know g
end
theorem Fp(b:Nat){o:Nat}:AV.fG 0 [.ptr (OLD+b) o]=true:=by
 show((Nat.blt (OLD+b) 0||Nat.ble OLD (OLD+b))&&true)=true;rw[bF (gY _ _),jX];rfl
theorem Ac(b:Nat):(Nat.blt (OLD+b) 0||Nat.ble OLD (OLD+b))=true:=by
 rw[bF (gY _ _),jX]
section
variable(W:Fe)(Y:Ge)(X:∀old,Fw old)(Z:∀old,Gw old)
include W Y X Z
theorem c7(old:Old){v:AV}{t:T}(f:JO old v t)(g:t.size<=65536):jV prog E old 7 [v] (λ_ w=>w=zI t.size):=by
 obtain⟨cs,rfl,h⟩:=f;have l:=h.len;obtain⟨a,i,kc,ks,rfl,m,n,o⟩:=h.one;refine jV.ofR (Z old) (by kernel_rfl) (fU.of (no1 W Y old (X old) (Z old) t.rel a t.rule i t.kids.length kc) (dF rfl) ?_);refine fU.box h rfl rfl (λb=>AF.sJ (by show(((true&&(Nat.blt (OLD+b) 0||Nat.ble OLD (OLD+b))&&true)&&true&&true)&&true)=true;rw[Ac];rfl)) λc b j hp=>?_;refine fU.yS (X c) (Z c) (no2 W Y c (X c) (Z c) b) (Fp b) rfl (dF rfl) (c18 W Y X Z c hp g) ?_
 rintro d w e ⟨k,c2,ps,rfl,h1,p⟩
 rw[XP t.size [t] (by show t.size+0=_;omega)];exact fU.does (no3 W Y d (X d) (Z d) c b k t.size c2) (dF rfl) rfl (CO.low rfl rfl)
omit X Z in
end
end
section
variable{cs:List AV}{n z:Nat}{v:AV}
section
variable(W:Fe)(Y:Ge)(X:∀old,Fw old)(Z:∀old,Gw old)
include W Y X Z
end
structure LN where
 rel:List UInt8
 args:List PV
 rule:Int
 kids:List Int
inductive xR(old:Old):List AV->List LN->Prop
 |nil:xR old [] []
 |cons {a k:AV} {cs:List AV} {r:LN} {l:List LN}:iJ old a r.args->xQ old k r.kids.length 1 (r.kids.map zI)->xR old cs l->xR old (.str r.rel::a::zI r.rule::k::cs) (r::l)
def UH(old:Old)(v:AV)(l:List LN):Prop:=∃cs,xQ old v l.length 4 cs∧xR old cs l
theorem xR.len{old:Old}{l:List LN}(h:xR old cs l):cs.length=l.length*4:=by
 induction h with
 |nil=>rfl
 |cons _ _ _ a=>simp only[fB];omega
theorem xR.mono{old c:Old}(d:Old.le old c){cs:List AV}{l:List LN}(h:xR old cs l):xR c cs l:=by
 induction h with
 |nil=>exact .nil
 |cons a b _ e=>exact .cons (a.mono d) (xQ.mono d b) e
theorem xR.app{old:Old}{ds:List AV}{l m:List LN}(h:xR old cs l)(H:xR old ds m):xR old (cs++ds) (l++m):=by
 induction h with
 |nil=>exact H
 |cons a b _ c=>exact .cons a b c
theorem pR{old:Old}(h:xQ old v n z cs):AV.low 0 v=true:=by
 rcases h with⟨b,o,c,rfl,_⟩|⟨rfl,_⟩<;>rfl
theorem xR.low{old:Old}{cs:List AV}{l:List LN}(h:xR old cs l):AV.fG 0 cs=true:=by
 induction h with
 |nil=>rfl
 |cons a b _ c=>
  show(true&&(AV.low 0 _&&(true&&(AV.low 0 _&&_))))=true;rw[pR a,pR b,c];rfl
theorem xR.at{old:Old}{b:Nat}:∀{cs:List AV} {l:List LN} {o:Nat},xR old cs l->iI old b o (l.length*4)=some cs->∀{j:Nat} {r:LN},l[j]? =some r->∃a k,iI old b (o+j*4) 4=some [.str r.rel,a,zI r.rule,k]∧iJ old a r.args∧xQ old k r.kids.length 1 (r.kids.map zI)
 |_,_,o,.nil,h,j,t,hj=>by cases hj
 |_,_,o,.cons (r:=r') (a:=a) (k:=k) (cs:=cs) (l:=l) h1 d f,h,j,t,hj=>by
  rw[fB,nX,Nat.one_mul,Nat.add_comm (l.length*4) 4]at h;obtain⟨c1,c2,e,g,e1,e2⟩:=ug h;obtain⟨i,m⟩:=List.append_inj (s₁:=[AV.str r'.rel,a,zI r'.rule,k]) (t₁:=cs) (s₂:=c1) (t₂:=c2) e (by rw[g];rfl);subst i;subst m;cases j with
  |zero=>
   cases hj;exact⟨_,_,by rw[jl,Nat.add_zero];exact e1,h1,d⟩
  |succ j=>
   obtain⟨c,k',k1,n⟩:=xR.at f e2 (j:=j) (by simpa using hj);exact⟨c,k',by rw[show o+(j+1)*4=o+4+j*4 by omega];exact k1,n⟩
end
def z4:List AV:=[.str [],.aQ,zI 0,.aQ]
theorem fK{h:AH}{id off:Nat}{l vs:List AV}{e:TypeId}{g:Bool}(a:h.obj id= .cells l e g false)(b:off+vs.length<=l.length)(c:vO vs=true):fE h id off vs=some (h.put id (.cells (setAt l off vs) e g false)):=by
 unfold fE;rw[a];show cond (Nat.ble (off+vs.length) l.length&&vO vs) (some _) none=_;rw[bF b,c];rfl
section
variable{Z:Old}
end
section
variable{L:List LN}{cs:List AV}{lb lc lo:Nat}
def mn(z:Int):Int:=bif decide (65537<z)then 65537 else z
def Md(i:Nat):List Int->List Int->Option (List Int)
 |out,[]=>some out
 |out,k::ks=>if k<0∨(i:Int)<=k then none else Md i (out.set i (mn (out[i]?.getD 0+out[k.toNat]?.getD 0))) ks
def szO:Nat->List LN->List Int->Option (List Int)
 |_,[],out=>some out
 |i,l::a,out=>match Md i (out.set i 1) l.kids with |none=>none|some o=>szO (i+1) a o
def SzQ(L:List LN)(old:Old)(v:AV):Prop:=match szO 0 L (List.replicate L.length 0)with
 |none=>v= .gI [.aQ,.bool false]
 |some out=>∃b c,v= .gI [.aO (some (b,0)) L.length c,.bool true]∧iI old b 0 L.length=some (out.map zI)
def bnd(n:Nat)(o:List Int):Prop:=o.length=n∧∀v∈o,0<=v∧v<=65537
theorem bnd.set{n:Nat}{o:List Int}(h:bnd n o){i:Nat}{v:Int}(h0:0<=v)(h1:v<=65537):bnd n (o.set i v):=
 ⟨by rw[iT];exact h.1,λw b=>by
  rcases List.mem_or_eq_of_mem_set b with a|a
  .exact h.2 w a
  .subst a;exact⟨h0,h1⟩⟩
theorem WX:∀n:Nat,rep n [zI 0]=(List.replicate n (0:Int)).map zI
 |0=>rfl
 |n+1=>by
  rw[List.replicate_succ,yT,← WX n];rfl
theorem U3{o:List Int}{x:Nat}{v:Int}(a:x<o.length):fE ⟨zL (.cells (o.map zI) 3 false false),1,0⟩ 0 (x*1) [zI v]=some ⟨zL (.cells ((o.set x v).map zI) 3 false false),1,0⟩:=
 (fK (l:=o.map zI) rfl (by rw[dZ];simp;omega) rfl).trans (by rw[bJ,List.map_set];rfl)
noncomputable def szF(l:AV)(a lo n lc:Nat)(i:Int):AF:=(abG (zI ((↑n:Int))) l (.aO (some (a,lo)) n lc) (zI i))
noncomputable def szI(a lo n lc:Nat)(i:Int)(pk:Option (Nat×Nat))(kn kc:Nat)(j:Int):AF:=(VT (.aO pk kn kc) (zI j) (zI i) (zI ((↑n:Int))) (zI ((↑kn:Int))) (.sl 0 0 n (some n)) (.aO (some (a,lo)) n lc) (zI i))
section
variable(W:Fe)(Y:Ge)(X:∀old,Fw old)(Z:∀old,Gw old)
include W Y X Z
theorem adK{Q:Old->AV->Prop}{old:Old}{i lo n lc x kc:Nat}{pk:Option (Nat×Nat)}{b:List Int}(J:n<=1048576)(m:x<n)(p:b.length<=268435456)(G:∀y a,b[y]? =some a->∃j l,pk=some (j,l)∧∀h:AH,loadT (E.wo old) h 3 (OLD+j) (l+y*1)=some (zI a)):
 ∀(r y:Nat) (o:List Int),y+r=b.length->bnd n o->(Md x o (b.drop y)=none->Q old (.gI [.aQ,.bool false]))->
 (∀q,Md x o (b.drop y)=some q->bnd n q->fU prog E old (szF (.sl 0 0 n (some n)) i lo n lc (x+1:Nat)) ⟨zL (.cells (q.map zI) 3 false false),1,0⟩ Q)->
 fU prog E old (szI i lo n lc x pk b.length kc y) ⟨zL (.cells (o.map zI) 3 false false),1,0⟩ Q
 |0,y,o,s,g,d,f=>by
  have s:y=b.length:=by omega
  subst s;rw[List.drop_length]at f;have A:=sz4 W Y old (X old) (Z old) i lo n lc (o.map zI) x pk b.length kc b.length (aH (by omega));rw[wrapN (by omega)]at A;exact fU.of A (dF rfl) (f o rfl g)
 |r+1,y,o,s,g,d,f=>by
  have c:y<b.length:=by omega
  obtain⟨a,H⟩:∃k,b[y]? =some k:=⟨_,aI c⟩;have t:b.drop y=a::b.drop (y+1):=by rw[bn c,aN ((aI c).symm.trans H)]
  obtain⟨j,l,rfl,B⟩:=G y a H;rw[t]at d f;have e:Md x o (a::b.drop (y+1))=if a<0∨(x:Int)<=a then none else Md x (o.set x (mn (o[x]?.getD 0+o[a.toNat]?.getD 0))) (b.drop (y+1)):=rfl;rw[e]at d f;by_cases h1:a<0
  .rw[aC (.inl h1)]at d
   exact fU.does (ahq W Y old (X old) (Z old) i lo n lc (o.map zI) x j l b.length kc y y rfl c a B (aB (by omega)) (aB h1)) (dF rfl) rfl (CO.low rfl (d rfl))
  by_cases I:(x:Int)<=a
  .rw[aC (.inr I)]at d
   exact fU.does (ahp W Y old (X old) (Z old) i lo n lc (o.map zI) x j l b.length kc y y rfl c a B (aB (by omega)) (aH h1) (aB I)) (dF rfl) rfl (CO.low rfl (d rfl))
  rw[ah (by omega)]at d f;obtain⟨z,rfl⟩:∃z:Nat,a=z:=⟨a.toNat,by omega⟩;rw[bZ]at d f;obtain⟨u,C⟩:∃u,o[x]? =some u:=⟨_,aI (by rw[g.1];exact m)⟩;obtain⟨v,D⟩:∃v,o[z]? =some v:=⟨_,aI (by rw[g.1];omega)⟩;have L:=g.2 u (bP C);have M:=g.2 v (bP D);rw[C,D]at d f;have w:IntKind.i64.wrap (u+v)=u+v:=lT (by omega) (by omega);have A:=sz2 W Y old (X old) (Z old) i lo n lc (o.map zI) x j l b.length kc y y rfl c z B x z rfl m rfl (by omega) u v
   (λh F=>mV (by kernel_rfl) rfl F (by rw[bJ,fP,C];rfl)) (λh F=>mV (by kernel_rfl) rfl F (by rw[bJ,fP,D];rfl))
   ((o.set x (mn (u+v))).map zI) (u+v) w (by rw[w];exact U3 (by rw[g.1];exact m)) (aB (by omega)) (aH h1) (aH (by omega))
  rw[wrapN (by omega)]at A;refine fU.of A (dF rfl) ?_;refine adK J m p G r (y+1) _ (by omega) (g.set ?_ ?_) d f
  .unfold mn;cases decide (65537<u+v)<;>simp<;>omega
  .unfold mn;cases K:decide (65537<u+v)<;>simp at K ⊢<;>omega
theorem ZB{old:Old}{m lo lc:Nat}{L:List LN}{cs:List AV}(H:xR old cs L)(I:iI old m lo (L.length*4)=some cs)(J:L.length<=1048576)(K:∀l∈L,l.kids.length<=268435456):
 ∀(r x:Nat) (o:List Int),x+r=L.length->bnd L.length o->szO x (L.drop x) o=szO 0 L (List.replicate L.length 0)->
 fU prog E old (szF (.sl 0 0 L.length (some L.length)) m lo L.length lc x) ⟨zL (.cells (o.map zI) 3 false false),1,0⟩ (SzQ L)
 |0,x,o,w,u,d=>by
  have w:x=L.length:=by omega
  subst w;rw[List.drop_length]at d;have d:szO 0 L (List.replicate L.length 0)=some o:=d.symm;have p:∀a∈o.map zI,AV.low 0 a=true:=λa B=>by obtain⟨z,_,rfl⟩:=gU.1 B;rfl
  refine fU.agd (k:=4) (id:=0) (h':=⟨.e,1,0⟩) rfl p rfl (λi o e _=>by rw[show(Tr.e:Tr AO).get i=none from Tr.fO i]at e;cases e) rfl rfl ?_;intro f b c M T C;refine fU.low (n:=0) (bK _) (AF.sJ rfl) rfl (λi o e _=>by rw[show(Tr.e:Tr AO).get i=none from Tr.fO i]at e;cases e) ?_;refine fU.does (sz5 W Y f (X f) (Z f) m lo L.length lc L.length b c (aH (by omega))) (dF rfl) rfl (CO.low rfl ?_);unfold SzQ;rw[d];refine⟨b,c,rfl,?_⟩;have:=know C;rw[dZ,u.1]at this;exact this
 |r+1,x,o,w,u,d=>by
  have g:x<L.length:=by omega
  obtain⟨ln,D⟩:∃l,L[x]? =some l:=⟨_,aI g⟩;have F:L.drop x=ln::L.drop (x+1):=by rw[bn g,aN ((aI g).symm.trans D)]
  obtain⟨a,k,e1,e2,N⟩:=H.at I D;obtain⟨O,P,Q,rfl⟩:=e2.shape;obtain⟨pk,kc,rfl,R⟩:∃pk kc,k= .aO pk ln.kids.length kc∧∀y j,ln.kids[y]? =some j->∃q s,pk=some (q,s)∧∀h:AH,loadT (E.wo old) h 3 (OLD+q) (s+y*1)=some (zI j):=by
   rcases N with⟨q,s,kc,rfl,h⟩|⟨rfl,h0,_⟩
   .refine⟨some (q,s),kc,rfl,λy j v=>⟨q,s,rfl,λh'=>kT (by kernel_rfl) ?_⟩⟩
    rw[bJ];exact pK h (by rw[fP,v];rfl)
   .have h0:ln.kids=[]:=bM.1 h0
    exact⟨none,0,by rw[h0];rfl,λy j v=>by rw[h0]at v;simp at v⟩
  have A:=sz1 W Y old (X old) (Z old) m lo L.length lc (o.map zI) x x rfl g ln.rel O P Q ln.rule pk ln.kids.length kc
   (λh=>yN (E:=E.wo old) (t:=65) (ti:=(E.tt.get 65).getD default) (by kernel_rfl) (by kernel_rfl) (by rw[show((E.tt.get 65).getD default).size=4 by kernel_rfl];exact e1))
   ((o.set x 1).map zI) ((fK (l:=o.map zI) rfl (by rw[dZ,u.1];simp;omega) rfl).trans (by rw[bJ,List.map_set];rfl)) (aB (by omega))
  refine fU.of A (dF rfl) ?_;refine fU.only (f':=szI m lo L.length lc x pk ln.kids.length kc 0) (k:=0) ?_ rfl rfl (AF.sJ rfl) (jP λa B=>by obtain⟨z,_,rfl⟩:=gU.1 B;rfl) rfl;rw[F]at d;have hb1:bnd L.length (o.set x 1):=u.set (by omega) (by omega);have e:szO x (ln::L.drop (x+1)) o=match Md x (o.set x 1) ln.kids with |none=>none|some o=>szO (x+1) (L.drop (x+1)) o:=rfl
  rw[e]at d;refine adK W Y X Z J g (K ln (bP D)) R ln.kids.length 0 _ (by omega) hb1 (λh=>?_) (λS h G=>?_)
  .rw[gB]at h
   rw[h]at d;unfold SzQ;rw[← d]
  .rw[gB]at h
   rw[h]at d;exact ZB H I J K r (x+1) S (by omega) G d
theorem c35{old:Old}(b:xR old cs L)(c:iI old lb lo (L.length*4)=some cs)(a:L.length<=1048576)(d:∀l∈L,l.kids.length<=268435456):
 jV prog E old 27 [.aO (some (lb,lo)) L.length lc] (SzQ L):=by
 refine jV.ofR (Z old) (by kernel_rfl) (fU.of (sz0 W Y old (X old) (Z old) lb lo L.length lc a) (dF rfl) ?_);have h:=ZB W Y X Z (lc:=lc) b c a d L.length 0 (List.replicate L.length 0) (by omega) ⟨List.length_replicate ..,λv e=>by rw[List.eq_of_mem_replicate e];exact⟨by omega,by omega⟩⟩ (by rw[gB]);rw[← WX]at h;exact h
end
end
section
variable{S:List AV}{cp:Option Nat}
def xX(L:List LN):Nat->Nat->T
 |0,_=> .node [] [] 0 []
 |f+1,i=>match L[i]? with
  |some l=> .node l.rel l.args l.rule (l.kids.map λk=>xX L f k.toNat)
  |none=> .node [] [] 0 []
def OkL(L:List LN):Nat->Nat->Prop
 |0,_=>False
 |f+1,i=>∃l,L[i]? =some l∧∀k∈l.kids,0<=k∧OkL L f k.toNat
def vU(a:Option Nat)(g:Bool)(S:List AV)(len:Nat):Prop:=(a=none∧g=true∧2*len<=S.length)∨(a=some 1∧g=false∧S.length=2∧len<=1)
theorem vU.pop{g:Bool}{w:Nat}(h:vU cp g S (w+1)):vU cp g S w:=by
 rcases h with⟨a,b,c⟩|⟨a,b,c,d⟩
 .exact .inl ⟨a,b,by omega⟩
 .exact .inr ⟨a,b,c,by omega⟩
theorem CV{E:Env}{t e:TypeId}{z:Nat}(b:E.d t=some (.slice e))(f:(E.tt.get e).map (·.size)=some z){id n c:Nat}{k:Int}{x:Nat}(g:k=(↑x:Int))(j:x<=c):gQ E t (.sl id 0 n (some c)) none (some (zI k)) none=some (.sl id 0 x (some c)):=by
 subst g;obtain⟨a,h,rfl⟩:=aP.1 f;unfold gQ;rw[b];show(match E.tt.get e,AU none c c with
  |some a,some m=>rX id 0 a.size n m none (some (zI ↑x)) false
  |_,_=>none)=_
 rw[h];show rX id 0 a.size n c none (some (zI ↑x)) false=_;unfold rX;have i:Zi (some (zI (↑x:Int))) c n false=some x:=by
  show cond (decide (((0:Nat):Int)<=(↑x:Int)∧(↑x:Int)<=c)) (some (↑x:Int).toNat) none=_;rw[aB ⟨by omega,by omega⟩,bZ];rfl
 rw[i];show some (AV.sl id (cond (Nat.beq c 0) 0 (0+0*a.size)) (x - 0) (some (c - 0)))=_;rw[jl];cases Nat.beq c 0<;>rfl
theorem Nh{E:Env}{g:Bool}{w:Nat}(h:vU cp g S (w+1))(a:E.d 141=some (.slice 140))(b:(E.tt.get 140).map (·.size)=some 2){i:Int}(hi:i=(↑w:Int)):gQ E 141 (.sl 0 0 (w+1) cp) none (some (zI i)) none=some (.sl 0 0 w cp):=by
 rcases h with⟨rfl,_,_⟩|⟨rfl,_,_,d⟩
 .exact QO a b hi (by omega)
 .exact CV a b hi (by omega)
end
theorem xC{E:Env}{h:AH}{ts tx e:TypeId}{sz:Nat}(d:Gl E ts tx=some (e,sz)){id len id2 off2:Nat}{cc:Option Nat}{vs cs:List AV}(f:h.obj id= .cells vs e true false)(a:len*sz<=vs.length)(k:len<=268435456)(g:jA E h id2 off2 (1*sz)=some cs)(i:vO cs=true)(b:Nat.beq id id2=false):
 gX E h .append [.sl id 0 len none,.sl id2 off2 1 cc] [ts,tx]=some (.val (.sl h.nx 0 (len+1) none) ((h.put id .dead).new (.cells (vs.take (len*sz)++cs) e true false))):=by
 show(l7 E h ts tx (.sl id 0 len none) (.sl id2 off2 1 cc)).map _=_;rw[oD d (n:=1) (c:=cs) (by show(jA E h id2 off2 (1*sz)).map (λc=>(1,c))=_;rw[g];rfl) (by omega)];unfold MS;simp only;rw[show Nat.blt 268435456 len=false from by
  cases j:Nat.blt 268435456 len with
  |false=>rfl
  |true=>simp[Nat.blt]at j;omega]
 simp only[bH];rw[f];simp only;rw[show Nat.beq e e=true from Nat.beq_refl e,show Nat.ble (len*sz) vs.length=true from bF a,i,b];rfl
theorem Uh{E:Env}{h h':AH}{ts tx e:TypeId}{sz:Nat}(a:Gl E ts tx=some (e,sz)){id len id2 off2 c:Nat}{cc:Option Nat}{cs:List AV}(b:jA E h id2 off2 (1*sz)=some cs)(d:len+1<=c)(f:fE h id (0+len*sz) cs=some h'):
 gX E h .append [.sl id 0 len (some c),.sl id2 off2 1 cc] [ts,tx]=some (.val (.sl id 0 (len+1) (some c)) h'):=by
 show(l7 E h ts tx (.sl id 0 len (some c)) (.sl id2 off2 1 cc)).map _=_;rw[oD a (n:=1) (c:=cs) (by show(jA E h id2 off2 (1*sz)).map (λc=>(1,c))=_;rw[b];rfl) (by omega)];unfold MS;simp only;rw[show Nat.ble (len+1) c=true from bF d];simp only[bG];rw[f];rfl
section
variable{A:AV}{N kc kn lb lc ln lo off q:Nat}{R:qC}{S:List AV}{at0:Int}{cp:Option Nat}{m:Mm}
noncomputable def UN(a lo ln lc:Nat)(A B st:AV):AF:=(Um B (.aO (some (a,lo)) ln lc) A st)
noncomputable def Tj(a lo ln lc:Nat)(A B p b st:AV)(kn:Nat)(j:Int):AF:=(Y7 p (zI j) b B (.aO (some (a,lo)) ln lc) A (zI ((↑kn:Int))) st)
noncomputable def pB(t off:Nat)(i:Int):AO:= .cells [.ptr t off,zI i] 140 false false
theorem afY{l:List Nat}(h:l.Nodup)(c:∀x∈l,x<N):(l++[N,N+1]).Nodup:=by
 rw[List.nodup_append];refine⟨h,by simp,λa d b e=>?_⟩;have:=c a d;simp at e;omega
section
variable(V:Fe)(Y:Ge)(X:∀old,Fw old)(Z:∀old,Gw old)
include V Y X Z
theorem af9{old:Old}{w j n y s t p:Nat}{B:AV}{W o:List AV}{g:Bool}{a:Int}
 (hs:m s= .cells S 140 g false)(ht:m t= .cells W 27 false false)(hp:m p=pB t off at0)(hq:m q= .cells o 27 false false)
 (hd:[s,t,p,q].Nodup)(I:∀x∈[s,t,p,q],x<N)(hO:N+2<=OLD)(r:vU cp g S w)(hw:w<=268435456)
 (hy:y<kn)(hk:∀h:AH,loadT (E.wo old) h 3 (OLD+j) (n+y*1)=some (zI a))(Q:W[off+3]? =some (.sl q 0 kn (some kn)))(hkn:kn<=1048576)
 (B':∀J K L g' T,T J= .cells K 140 g' false->(J=s∨(N<=J∧J<N+2))->vU L g' K (w+1)->(∀i,i<2*w->K[i]? =S[i]?)->K[2*w]? =some (.ptr q (y*4))->K[2*w+1]? =some (zI a)->(∀k,k<N->k≠s->T k=m k)->
  dL prog E old (Tj lb lo ln lc A B (.ptr p 0) (.aO (some (j,n)) kn kc) (.sl J 0 (w+1) L) kn ((y+1:Nat):Int)) T (N+2) R):
 dL prog E old (Tj lb lo ln lc A B (.ptr p 0) (.aO (some (j,n)) kn kc) (.sl s 0 w cp) kn (y:Int)) m N R:=by
 obtain⟨θ,U⟩:=Pm.of [0,1,2,3,4,5] ([s,t,p,q]++[N,N+1]) rfl (by decide) (afY hd I) (λx C=>by simp at C;unfold OLD;omega) (λx C=>by
  rcases bQ.1 C with C|C
  .have:=I x C;omega
  .simp at C;omega)
 obtain⟨t0,t1,t2,t3,t4,t5⟩:θ.to 0=s∧θ.to 1=t∧θ.to 2=p∧θ.to 3=q∧θ.to 4=N∧θ.to 5=N+1:=by
  have h:[θ.to 0,θ.to 1,θ.to 2,θ.to 3,θ.to 4,θ.to 5]=[s,t,p,q,N,N+1]:=U;simp only[dM,iM]at h;exact h
 have hKl:∀h:AH,h.obj 1= .cells (ig θ W) 27 false false->loadT (E.wo old) h 25 1 (off+3)=some (.sl 3 0 kn (some kn)):=λh ho=>by
  have e:(AV.sl q 0 kn (some kn)).un θ= .sl 3 0 kn (some kn):=by show AV.sl (θ.inv q) 0 kn (some kn)=_;rw[← t3,θ.li]
  exact mV (by kernel_rfl) rfl ho (by rw[vV Q,e])
 have ha:Gl (E.wo old) 141 141=some (140,2):=by kernel_rfl
 have z:∀e∈ents (zN (zN (zL (.cells (ig θ o) 27 false false)) (.cells (ig θ W) 27 false false) .e) (.cells (ig θ S) 140 g false) (zL (ji off at0))),m (θ.to e.1)=e.2.ren θ.to∧θ.to e.1∈[s,t,p,q,N,N+1]:=λe c=>by
  have c:e∈[(0,AO.cells (ig θ S) 140 g false),(1,.cells (ig θ W) 27 false false),(3,.cells (ig θ o) 27 false false),(2,.cells [zP 1 off,zI at0] 140 false false)]:=c;simp only[ay,av,aU]at c;rcases c with rfl|rfl|rfl|rfl
  .exact⟨by rw[t0,hs,jC],by rw[t0];simp⟩
  .exact⟨by rw[t1,ht,jC],by rw[t1];simp⟩
  .exact⟨by rw[t3,hq,jC],by rw[t3];simp⟩
  .refine⟨?_,by rw[t2];simp⟩
   show m (θ.to 2)= .cells [.ptr (θ.to 1) off,zI at0] 140 false false;rw[t2,hp,t1];rfl
 have hne:=dK.1 hd;have main:∀(b:Nat) (cp2:Option Nat) (u:AH) (v:List AV) (g2:Bool),gX (E.wo old) (xG (.cells (ig θ o) 27 false false) (.cells (ig θ W) 27 false false) (.cells (ig θ S) 140 g false) (.cells [.ptr 3 (y*4),zI a] 140 false false) (ji off at0)) .append [.sl 0 0 w cp,.sl 4 0 1 (some 1)] [141,141]=some (.val (.sl b 0 (w+1) cp2) u)->
  (b=0∨b=5)->u.tr.get 1=some (.cells (ig θ W) 27 false false)->u.tr.get 2=some (ji off at0)->u.tr.get 3=some (.cells (ig θ o) 27 false false)->u.tr.get b=some (.cells (ig θ v) 140 g2 false)->Nat.ble u.nx 6=true->u.df=0->
  vU cp2 g2 v (w+1)->(∀i,i<2*w->v[i]? =S[i]?)->v[2*w]? =some (.ptr q (y*4))->v[2*w+1]? =some (zI a)->dL prog E old (Tj lb lo ln lc A B (.ptr p 0) (.aO (some (j,n)) kn kc) (.sl s 0 w cp) kn (y:Int)) m N R:=λb cp2 u v g2 hA M g1 gp gq gs F hdf q1 q2 q3 q4=>by
  have D:=gx3 V Y old (X old) (Z old) lb lo ln lc (A.un θ) (B.un θ) (ig θ S) (ig θ W) g cp w off (ig θ o) at0 j n kn kc y y rfl hy a hk hKl b cp2 u hA (aB (by omega));rw[wrapN (by omega)]at D;have hsN:=I s (by simp);have htN:=I t (by simp);have hpN:=I p (by simp);have hqN:=I q (by simp);have F:=aJ F;refine dL.lift (θ:=θ) (N':=N+2) (l:=[(s,if b=0 then .cells v 140 g2 false else .dead),(t,.cells W 27 false false),(p,pB t off at0),(q,.cells o 27 false false),(N,.dead),(N+1,if b=0 then .dead else .cells v 140 g2 false)]) (f0':=Tj lb lo ln lc (A.un θ) (B.un θ) (.ptr 2 0) (.aO (some (j,n)) kn kc) (.sl b 0 (w+1) cp2) kn ((y+1:Nat):Int))
   ⟨λe c=>(z e c).1,λe c=>(z e c).2,λe c d=>?_,λi h1 G=>?_,by omega,?_,hO,rfl,hdf⟩ D ⟨rfl,rfl,rfl⟩ ⟨rfl,rfl,rfl⟩ ?_ rfl ?_
  .simp only[ay,av,aU]at c
   rcases c with rfl|rfl|rfl|rfl|rfl|rfl
   .by_cases h0:b=0
    .subst h0;exact⟨0,_,gs,t0,jC _ _ _ _ _⟩
    .simp only[ah h0]at d;exact d.elim
   .exact⟨1,_,g1,t1,jC _ _ _ _ _⟩
   .refine⟨2,_,gp,t2,?_⟩
    show AO.cells [.ptr (θ.to 1) off,zI at0] 140 false false=_;rw[t1];rfl
   .exact⟨3,_,gq,t3,jC _ _ _ _ _⟩
   .exact d.elim
   .by_cases h0:b=0
    .simp only[aC h0]at d;exact d.elim
    .obtain rfl:b=5:=M.resolve_left h0
     exact⟨5,_,gs,t5,jC _ _ _ _ _⟩
  .have h1:4<=i:=h1
   have G:i<6:=by omega
   rcases(by omega:i=4∨i=5)with rfl|rfl
   .rw[t4];omega
   .rw[t5];omega
  .exact bF (aS F (by decide))
  .show _=Tj lb lo ln lc ((A.un θ).ren θ.to) ((B.un θ).ren θ.to) (.ptr (θ.to 2) 0) (.aO (some (j,n)) kn kc) (.sl (θ.to 0) 0 w cp) kn y
   rw[AV.ku,AV.ku,t2,t0]
  .have e:(Tj lb lo ln lc (A.un θ) (B.un θ) (.ptr 2 0) (.aO (some (j,n)) kn kc) (.sl b 0 (w+1) cp2) kn ((y+1:Nat):Int)).ren θ.to=Tj lb lo ln lc A B (.ptr p 0) (.aO (some (j,n)) kn kc) (.sl (θ.to b) 0 (w+1) cp2) kn ((y+1:Nat):Int):=by
    show Tj lb lo ln lc ((A.un θ).ren θ.to) ((B.un θ).ren θ.to) (.ptr (θ.to 2) 0) (.aO (some (j,n)) kn kc) (.sl (θ.to b) 0 (w+1) cp2) kn ((y+1:Nat):Int)=_;rw[AV.ku,AV.ku,t2]
   rw[e];have O:θ.to b=s∧b=0∨θ.to b=N+1∧¬b=0:=by
    rcases M with rfl|rfl
    .exact .inl ⟨t0,rfl⟩
    .exact .inr ⟨t5,by decide⟩
   refine B' (θ.to b) v cp2 g2 _ ?_ ?_ q1 q2 q3 q4 (λk hk1 hk2=>?_)
   .rcases O with⟨h1,G⟩|⟨h1,G⟩
    .rw[h1];simp only[dn];rw[aC trivial,aC G]
    .rw[h1];simp only[dn]
     rw[ah (by omega),ah (by omega),ah (by omega),ah (by omega),ah (by omega),aC trivial,ah G]
   .rcases O with⟨h1,G⟩|⟨h1,G⟩
    .exact .inl h1
    .exact .inr ⟨by omega,by omega⟩
   .simp only[dn]
    rw[ah hk2];by_cases k1:k=t
    .rw[aC k1,k1,ht]
    .by_cases P:k=p
     .rw[ah k1,aC P,P,hp]
     .by_cases k3:k=q
      .rw[ah k1,ah P,aC k3,k3,hq]
      .rw[ah k1,ah P,ah k3,ah (by omega),ah (by omega)]
 have e3:[AV.ptr 3 (y*4),zI a]=ig θ [.ptr q (y*4),zI a]:=by
  show _=[AV.ptr (θ.inv q) (y*4),zI a];rw[← t3,θ.li]
 rcases r with⟨rfl,rfl,H⟩|⟨rfl,rfl,H,hw1⟩
 .have f:(S.take (w*2)).length=2*w:=by rw[eG];omega
  have e5:(ig θ S).take (w*2)++[.ptr 3 (y*4),zI a]=ig θ (S.take (w*2)++[.ptr q (y*4),zI a]):=by rw[QA,nD,e3]
  refine main 5 none _ (S.take (w*2)++[.ptr q (y*4),zI a]) true (xC (id:=0) (len:=w) (id2:=4) (off2:=0) (cc:=some 1) (vs:=ig θ S) (cs:=[.ptr 3 (y*4),zI a]) ha rfl (by rw[oZ];omega) hw rfl rfl rfl) (.inr rfl) rfl rfl rfl (by rw[← e5];rfl) rfl rfl (.inl ⟨rfl,rfl,by rw[bC,f];simp;omega⟩) (λi hi=>?_) ?_ ?_
  .rw[aW (by omega),iP,aC (by omega)]
  .rw[bD (by omega),f,wD];rfl
  .rw[bD (by omega),f,show 2*w+1 - 2*w=1 by omega];rfl
 .match w,hw1 with
  |0,_=>
   have hS:setAt (ig θ S) 0 [.ptr 3 (y*4),zI a]=ig θ [.ptr q (y*4),zI a]:=by
    have:=rF (ig θ S) [.ptr 3 (y*4),zI a] [] [] (by rw[oZ,H];rfl);simp only[iE,dD,List.length_nil]at this;rw[this,e3]
   have r:=fK (h:=(xG (.cells (ig θ o) 27 false false) (.cells (ig θ W) 27 false false) (.cells (ig θ S) 140 false false) (.cells [.ptr 3 (y*4),zI a] 140 false false) (ji off at0))) (id:=0) (off:=0+0*2) (l:=ig θ S) (vs:=[.ptr 3 (y*4),zI a]) (e:=140) (g:=false) rfl (by rw[oZ,H];exact aj _) rfl;rw[show 0+0*2=0 from rfl,hS]at r;exact main 0 (some 1) _ [.ptr q (y*4),zI a] false (Uh (sz:=2) (id:=0) (len:=0) (id2:=4) (off2:=0) (cc:=some 1) (cs:=[.ptr 3 (y*4),zI a]) ha rfl (aj 1) r) (.inl rfl) rfl rfl rfl rfl rfl rfl (.inr ⟨rfl,rfl,rfl,aj _⟩) (λi hi=>aX hi (gV _)) rfl rfl
  |1,_=>
   have hA:=Cc (h:=(xG (.cells (ig θ o) 27 false false) (.cells (ig θ W) 27 false false) (.cells (ig θ S) 140 false false) (.cells [.ptr 3 (y*4),zI a] 140 false false) (ji off at0))) (sz:=2) (id:=0) (len:=1) (id2:=4) (off2:=0) (cc:=some 1) (vs:=ig θ S) (cs:=[.ptr 3 (y*4),zI a]) ha (by
    show takeN (ig θ S) 0 2=_;rw[show 2=(ig θ S).length by rw[oZ,H]];exact GU _) (by decide) rfl
   refine main 5 none _ (S++[.ptr q (y*4),zI a]) true hA (.inr rfl) rfl rfl rfl (by rw[nD,← e3];rfl) rfl rfl (.inl ⟨rfl,rfl,by rw[bC,H];exact aj _⟩) (λi hi=>?_) ?_ ?_
   .rw[aW (by omega)]
   .rw[bD (by omega),H];rfl
   .rw[bD (by omega),H];rfl
end
end
section
variable{A:AV}{N kc kn lb lc ln lo off q:Nat}{R:qC}{S:List AV}{at0:Int}{cp:Option Nat}{h0':AH}{m:Mm}{pk:Option (Nat×Nat)}{θ:Pm}
theorem aeD{l:List Nat}(h:l.Nodup)(c:∀x∈l,x<N):(l++[N,N+1,N+2,N+3,N+4]).Nodup:=by
 rw[List.nodup_append];refine⟨h,by simp,λa d b e=>?_⟩;have:=c a d;simp at e;omega
structure ahh(θ:Pm)(s t N:Nat):Prop where
 t0:θ.to 0=s
 t1:θ.to 1=t
 t2:θ.to 2=N
 t3:θ.to 3=N+1
 t4:θ.to 4=N+2
 t5:θ.to 5=N+3
 t6:θ.to 6=N+4
theorem afe{s t:Nat}(i:s≠t)(l:s<N)(m:t<N)(n:N+5<=OLD):∃θ:Pm,ahh θ s t N:=by
 obtain⟨θ,j⟩:=Pm.of [0,1,2,3,4,5,6] ([s,t]++[N,N+1,N+2,N+3,N+4]) rfl (by decide) (aeD (by simpa using i) (by simp;omega)) (λx k=>by simp at k;unfold OLD;omega) (λx k=>by simp at k;omega);have h:[θ.to 0,θ.to 1,θ.to 2,θ.to 3,θ.to 4,θ.to 5,θ.to 6]=[s,t,N,N+1,N+2,N+3,N+4]:=j;simp only[dM,iM]at h;obtain⟨a,b,c,d,e,f,g⟩:=h;exact⟨θ,a,b,c,d,e,f,g⟩
section
variable(U:Fe)(Y:Ge)(X:∀old,Fw old)(Z:∀old,Gw old)
include U Y X Z
theorem acS{old:Old}{w s t:Nat}{B:AV}{W W':List AV}{g:Bool}(V:ahh θ s t N)
 (u:m s= .cells S 140 g false)(v:m t= .cells W 27 false false)(x:s≠t)(y:s<N)(z:t<N)(C:N+5<=OLD)
 (D:DS old (UN lb lo ln lc (A.un θ) (B.un θ) (.sl 0 0 (w+1) cp)) (jK (.cells (ig θ W) 27 false false) (.cells (ig θ S) 140 g false)) (Tj lb lo ln lc (A.un θ) (B.un θ) (.ptr 2 0) (.aO pk kn kc) (.sl 0 0 w cp) kn 0) h0')
 (F:h0'.tr.get 0=some (.cells (ig θ S) 140 g false))(G:h0'.tr.get 1=some (.cells (ig θ W') 27 false false))(g2:h0'.tr.get 2=some (pB 1 off at0))(h j:AO)(H:h.live->∃q,h0'.tr.get 5=some q∧q.ren θ.to=h)(I:j.live->∃q,h0'.tr.get 6=some q∧q.ren θ.to=j)(d:Nat.ble h0'.nx 7=true)(n:h0'.df=0)
 (B':∀f,f t= .cells W' 27 false false->f N=pB t off at0->f (N+3)=h->f (N+4)=j->(∀k,k<N->k≠t->f k=m k)->dL prog E old (Tj lb lo ln lc A B (.ptr N 0) (.aO pk kn kc) (.sl s 0 w cp) kn 0) f (N+5) R):
 dL prog E old (UN lb lo ln lc A B (.sl s 0 (w+1) cp)) m N R:=by
 obtain⟨t0,t1,t2,t3,t4,t5,t6⟩:=V;have c:∀e∈ents (zN (zL (.cells (ig θ W) 27 false false)) (.cells (ig θ S) 140 g false) .e),m (θ.to e.1)=e.2.ren θ.to∧θ.to e.1∈[s,t,N,N+1,N+2,N+3,N+4]:=λe a=>by
  have a:e∈[(0,AO.cells (ig θ S) 140 g false),(1,.cells (ig θ W) 27 false false)]:=a;simp only[ay,av,aU]at a;rcases a with rfl|rfl
  .exact⟨by rw[t0,u,jC],by rw[t0];simp⟩
  .exact⟨by rw[t1,v,jC],by rw[t1];simp⟩
 have d:=aJ d;refine dL.lift (θ:=θ) (N':=N+5) (l:=[(s,.cells S 140 g false),(t,.cells W' 27 false false),(N,pB t off at0),(N+1,.dead),(N+2,.dead),(N+3,h),(N+4,j)])
  ⟨λe a=>(c e a).1,λe a=>(c e a).2,λe a b=>?_,λi h1 K=>?_,by omega,bF (aS d (by decide)),C,rfl,n⟩ D ⟨rfl,rfl,rfl⟩ ⟨rfl,rfl,rfl⟩ ?_ rfl ?_
 .simp only[ay,av,aU]at a
  rcases a with rfl|rfl|rfl|rfl|rfl|rfl|rfl
  .exact⟨0,_,F,t0,jC _ _ _ _ _⟩
  .exact⟨1,_,G,t1,jC _ _ _ _ _⟩
  .refine⟨2,_,g2,t2,?_⟩
   show AO.cells [.ptr (θ.to 1) off,zI at0] 140 false false=_;rw[t1];rfl
  .exact b.elim
  .exact b.elim
  .obtain⟨q,o,p⟩:=H b
   exact⟨5,q,o,t5,p⟩
  .obtain⟨q,o,p⟩:=I b
   exact⟨6,q,o,t6,p⟩
 .have h1:2<=i:=h1
  rcases(by omega:i=2∨i=3∨i=4∨i=5∨i=6)with rfl|rfl|rfl|rfl|rfl
  .rw[t2];omega
  .rw[t3];omega
  .rw[t4];omega
  .rw[t5];omega
  .rw[t6];omega
 .show _=UN lb lo ln lc ((A.un θ).ren θ.to) ((B.un θ).ren θ.to) (.sl (θ.to 0) 0 (w+1) cp)
  rw[AV.ku,AV.ku,t0]
 .have e:(Tj lb lo ln lc (A.un θ) (B.un θ) (.ptr 2 0) (.aO pk kn kc) (.sl 0 0 w cp) kn 0).ren θ.to=Tj lb lo ln lc A B (.ptr N 0) (.aO pk kn kc) (.sl s 0 w cp) kn 0:=by
   show Tj lb lo ln lc ((A.un θ).ren θ.to) ((B.un θ).ren θ.to) (.ptr (θ.to 2) 0) (.aO pk kn kc) (.sl (θ.to 0) 0 w cp) kn 0=_;rw[AV.ku,AV.ku,t2,t0]
  rw[e];refine B' _ ?_ ?_ ?_ ?_ (λk J r=>?_)
  .simp only[dn];rw[ah (by omega),aC trivial]
  .simp only[dn];rw[ah (by omega),ah (by omega),aC trivial]
  .simp only[dn];rw[ah (by omega),ah (by omega),ah (by omega),ah (by omega),ah (by omega),aC trivial]
  .simp only[dn];rw[ah (by omega),ah (by omega),ah (by omega),ah (by omega),ah (by omega),ah (by omega),aC trivial]
  .simp only[dn]
   by_cases k1:k=s
   .rw[aC k1,k1,u]
   .rw[ah k1,ah r,ah (by omega),ah (by omega),ah (by omega),ah (by omega),ah (by omega)]
theorem aaK{old:Old}{B st:AV}{j:Int}(hj:(kn:Int)<=j)(c:N<=OLD)(d:q<OLD)
 (B':dL prog E old (UN lb lo ln lc A B st) m N R):dL prog E old (Tj lb lo ln lc A B (.ptr q 0) (.aO pk kn kc) st kn j) m N R:=by
 let θ:=Pm.one.sw 2 q (by decide) d;have t2:θ.to 2=q:=adL 2 q;have D:=gx4 U Y old (X old) (Z old) lb lo ln lc (A.un θ) (B.un θ) 0 (st.un θ) pk kn kc j (aH (by omega));refine dL.lift (θ:=θ) (N':=N) (l:=[]) (f0':=UN lb lo ln lc (A.un θ) (B.un θ) (st.un θ)) ⟨λe a=>(by cases a),λe a=>(by cases a),λe a=>(by cases a),λi h1 b=>?_,aj _,rfl,c,rfl,rfl⟩ D ⟨rfl,rfl,rfl⟩ ⟨rfl,rfl,rfl⟩ ?_ ?_ B'
 .have h1:3<=i:=h1
  have b:i<3:=b;omega
 .show _=Tj lb lo ln lc ((A.un θ).ren θ.to) ((B.un θ).ren θ.to) (.ptr (θ.to 2) 0) (.aO pk kn kc) ((st.un θ).ren θ.to) kn j
  rw[AV.ku,AV.ku,AV.ku,t2]
 .show UN lb lo ln lc ((A.un θ).ren θ.to) ((B.un θ).ren θ.to) ((st.un θ).ren θ.to)=_
  rw[AV.ku,AV.ku,AV.ku]
end
end
section
variable{A a a':AV}{N i j kc kn lb lc ln lo:Nat}{R:qC}{S l ws:List AV}{cp:Option Nat}{h:AH}{m:Mm}{pk:Option (Nat×Nat)}{rel:List UInt8}{rule:Int}{us:List Value}{ι:Nm}
theorem JA{E:Env}{t:TypeId}{s:Nat}(a:(E.tt.get t).map (·.isAgg)=some true)(e:(E.tt.get t).map (·.size)=some s){id:Nat}(b:Nat.ble OLD id=false){vs:List AV}{el:TypeId}{g y:Bool}{hp:AH}(f:hp.obj id= .cells vs el g y){off:Nat}{c:List AV}(h:takeN vs off s=some c):loadT E hp t id off=some (.agg c):=by
 obtain⟨ti,d,rfl⟩:=aP.1 e;rw[d]at a;have a:ti.isAgg=true:=by simpa using a
 unfold loadT;rw[d];show cond ti.isAgg ((jA E hp id off ti.size).map AV.agg) _=_;rw[a];show(jA E hp id off ti.size).map AV.agg=_;unfold jA;rw[b];show Option.map AV.agg (match hp.obj id with | .cells vs _ _ _=>takeN vs off ti.size|_=>none)=_;rw[f];show Option.map AV.agg (takeN vs off ti.size)=_;rw[h];rfl
theorem QJ{b:AV}(h1:l[i]? =some a)(c:l[i+1]? =some b):takeN l i 2=some [a,b]:=by
 have e:(l.drop i).take 2=[a,b]:=by
  apply List.ext_getElem?;intro j;rw[iP,kL]
  match j with
  |0=>rw[aC (by omega)];exact h1
  |1=>rw[aC (by omega)];exact c
  |j+2=>rw[ah (by omega)];rfl
 unfold takeN;rw[e];rfl
theorem EU(X Y:List AV)(a b c d v:AV):(X++([a,b,c,d]++Y)).set (X.length+1) v=X++([a,v,c,d]++Y):=by
 rw[tJ _ _ (by omega),show X.length+1 - X.length=1 by omega];rfl
theorem G5(X Y:List AV)(a b c d v:AV):(X++([a,b,c,d]++Y)).set (X.length+3) v=X++([a,b,c,v]++Y):=by
 rw[tJ _ _ (by omega),show X.length+3 - X.length=3 by omega];rfl
theorem FP(X Y:List AV)(a b c d:AV):(X++([a,b,c,d]++Y))[X.length+1]? =some b:=by
 rw[bD (by omega),show X.length+1 - X.length=1 by omega];rfl
theorem DF(X Y:List AV)(a b c d:AV):(X++([a,b,c,d]++Y))[X.length+3]? =some d:=by
 rw[bD (by omega),show X.length+3 - X.length=3 by omega];rfl
theorem zV(X Y vs c:List AV)(h:vs.length=c.length):setAt (X++(c++Y)) X.length vs=X++(vs++Y):=rF c vs X Y h
theorem IB(X Y:List AV)(a b c d v:AV):setAt (X++([a,b,c,d]++Y)) (X.length+3) [v]=X++([a,b,c,v]++Y):=by
 have:=rF [d] [v] (X++[a,b,c]) Y rfl;simpa using this
theorem gW(θ:Pm)(h:AV.fG 0 l=true)(t:TypeId)(g z:Bool):(AO.cells l t g z).ren θ.to= .cells l t g z:=by
 show AO.cells (AV.jM θ.to l) t g z=_;rw[AV.kF θ.old h]
theorem ab6(hj:ws[j]? =some a)(i:∀u,RV ι a u->RV ι a' u)(h:dS ι ws us):dS ι (ws.set j a') us:=
 dS.Ht (by rw[iT];exact h.length) λx b v d c=>by
  rw[List.getElem?_set]at d;split at d
  .rename_i e
   subst e;split at d
   .cases d
    obtain⟨u,f,g⟩:=h.get hj;rw[f]at c;cases c;exact i _ g
   .cases d
  .obtain⟨v2,e2,r2⟩:=h.get d
   rw[e2]at c;cases c;exact r2
theorem dL.nil{P:Program}{E:Env}{old:Old}{f:AF}{m:Mm}{N:Nat}{R:qC}{id j:Nat}{ws:List AV}{el:TypeId}{g z:Bool}(hi:m id= .cells ws el g z)(hj:ws[j]? =some .aQ)(B:dL P E old f (dn m [(id,.cells (ws.set j (.aO none 0 0)) el g z)]) N R):dL P E old f m N R:=
 dL.Vd hi (by rw[iT]) (λι b h=>ab6 hj (λu a=>acF a) h) B
section
variable(T:Fe)(W:Ge)(U:∀old,Fw old)(Z:∀old,Gw old)
include T W U Z
theorem adk(old:Old)(rel:List UInt8)(a:h.df=0)(b:Nat.ble h.nx OLD=true):DC old 21 [.agg [.str rel,.aO none 0 0]] h (UR rel) h:=
 DoesC.ov (DoesC.drop (DoesC.ent (Z old) (by kernel_rfl) (cp2 T W old (U old) (Z old) rel)) [] (by kernel_rfl) (by kernel_rfl) (by kernel_rfl) rfl (by kernel_rfl) (by kernel_rfl) (by kernel_rfl)) (by kernel_rfl) (by kernel_rfl) a b
theorem aeR{old:Old}{w s t:Nat}{B:AV}{X c Y:List AV}{g:Bool}{x:Nat}{args:List PV}
 (hs:m s= .cells S 140 g false)(ht:m t= .cells (X++(c++Y)) 27 false false)(O:c.length=4)(v:s≠t)(y:s<N)(z:t<N)(P:N+5<=OLD)(Q:vU cp g S (w+1))(hw:w<=268435456)
 (h1:S[2*w]? =some (.ptr t X.length))(h2:S[2*w+1]? =some (zI x))(lx:x<ln)(hX:∀h:AH,loadT (E.wo old) h 65 (OLD+lb) (lo+x*4)=some (.agg [.str rel,a,zI rule,.aO pk kn kc]))(ha:iJ old a args)(han:args.length<=268435456)(h0:0<kn)(H:kn<=1048576)
 (B':∀f a' p q F,Old.le old f->iJ f a' args->N<=p->p<N+5->N<=q->q<N+5->p≠q->F p=pB t X.length x->F q= .cells (rep kn z4) 27 false false->F t= .cells (X++([.str rel,a',zI rule,.sl q 0 kn (some kn)]++Y)) 27 false false->(∀k,k<N->k≠t->F k=m k)->
  dL prog E f (Tj lb lo ln lc A B (.ptr p 0) (.aO pk kn kc) (.sl s 0 w cp) kn 0) F (N+5) R):
 dL prog E old (UN lb lo ln lc A B (.sl s 0 (w+1) cp)) m N R:=by
 obtain⟨θ,V⟩:=afe v y z P;have eT:(AV.ptr t X.length).un θ= .ptr 1 X.length:=by show AV.ptr (θ.inv t) _=_;rw[← V.t1,θ.li]
 have u:∀h:AH,h.obj 0= .cells (ig θ S) 140 g false->loadT (E.wo old) h 140 0 (w*2)=some (.agg [.ptr 1 X.length,zI x]):=λh ho=>by
  refine JA (by kernel_rfl) (by kernel_rfl) rfl ho (QJ ?_ ?_)
  .rw[oI,vV h1,eT]
  .rw[oI,vV h2];rfl
 have hi:IntKind.i64.wrap ((↑(w+1):Int) - 1)=(↑w:Int):=by rw[lT (by omega) (by omega)];omega
 have I:gQ (E.wo old) 141 (.sl 0 0 (w+1) cp) none (some (zI (IntKind.i64.wrap ((↑(w+1):Int) - 1)))) none=some (.sl 0 0 w cp):=Nh Q (by kernel_rfl) (by kernel_rfl) hi;have n:(ig θ X).length=X.length:=oZ θ X;have J:(ig θ c).length=4:=by rw[oZ,O]
 have K:ig θ (X++(c++Y))=ig θ X++(ig θ c++ig θ Y):=by rw[nD,nD]
 have L:AV.fG 0 (rep kn z4)=true:=Sr rfl kn;rcases ha with⟨b,o,ac,rfl,hC⟩|⟨rfl,h00,hcv⟩
 .obtain⟨d,ag,hR,C⟩:=c21 T W old (U old) (Z old) rel (c:=ac) hC han
  have e5:(AV.sl (N+3) 0 args.length d).un θ= .sl 5 0 args.length d:=by show AV.sl (θ.inv (N+3)) _ _ _=_;rw[← V.t5,θ.li]
  have e6:(AV.sl (N+4) 0 kn (some kn)).un θ= .sl 6 0 kn (some kn):=by show AV.sl (θ.inv (N+4)) _ _ _=_;rw[← V.t6,θ.li]
  have w1:setAt (ig θ (X++(c++Y))) X.length [.str rel,.sl 5 0 args.length d,zI rule,.aQ]=ig θ X++([.str rel,.sl 5 0 args.length d,zI rule,.aQ]++ig θ Y):=by
   rw[K,← n];exact zV _ _ _ _ (by rw[J];rfl)
  have w2:setAt (ig θ X++([.str rel,.sl 5 0 args.length d,zI rule,.aQ]++ig θ Y)) (X.length+3) [.sl 6 0 kn (some kn)]=ig θ X++([.str rel,.sl 5 0 args.length d,zI rule,.sl 6 0 kn (some kn)]++ig θ Y):=by
   rw[← n];exact IB _ _ _ _ _ _ _
  have D:=ahA T W old (U old) (Z old) lb lo ln lc (A.un θ) (B.un θ) (ig θ S) (ig θ (X++(c++Y))) g cp w X.length hw x x rfl lx rel (some (b,o)) args.length ac rule pk kn kc hX u I hi (fH args) ag d (C rfl rfl rfl (by kernel_rfl))
   (ig θ X++([.str rel,.sl 5 0 args.length d,zI rule,.aQ]++ig θ Y)) ((fK (l:=ig θ (X++(c++Y))) (e:=27) (g:=false) rfl (by rw[oZ];simp[O]) rfl).trans (by rw[w1];rfl))
   (ig θ X++([.str rel,.sl 5 0 args.length d,zI rule,.sl 6 0 kn (some kn)]++ig θ Y)) H ((fK (l:=ig θ X++([.str rel,.sl 5 0 args.length d,zI rule,.aQ]++ig θ Y)) (e:=27) (g:=false) rfl (by simp[n];omega) rfl).trans (by rw[w2];rfl)) (aB (by omega)) (aB (by omega))
  refine acS T W U Z (W':=X++([.str rel,.sl (N+3) 0 args.length d,zI rule,.sl (N+4) 0 kn (some kn)]++Y)) V hs ht v y z P D rfl ?_ rfl (.cells (fH args) 101 ag false) (.cells (rep kn z4) 27 false false) (λ_=>⟨_,rfl,gW θ (jP (jg args)) _ _ _⟩) (λ_=>⟨_,rfl,gW θ L _ _ _⟩) rfl rfl ?_
  .rw[nD,nD]
   show _=some (AO.cells (ig θ X++([.str rel,(AV.sl (N+3) 0 args.length d).un θ,zI rule,(AV.sl (N+4) 0 kn (some kn)).un θ]++ig θ Y)) 27 false false);rw[e5,e6];rfl
  .intro F b1 b2 b3 b4 b5
   refine dL.Tn (id:=N+3) (i:=t) (j:=X.length+1) b3 (jg args) b1 (by omega) (FP _ _ _ _ _ _) ?_;intro f b' c' hle hc' M;refine B' f (.aO (some (b',0)) args.length c') N (N+4) _ hle (Dx (c:=c') M) (by omega) (by omega) (by omega) (by omega) (by omega) ?_ ?_ ?_ ?_
   .simp only[dn];rw[ah (by omega),ah (by omega)];exact b2
   .simp only[dn];rw[ah (by omega),ah (by omega)];exact b4
   .simp only[dn];rw[aC trivial,EU]
   .intro k G r
    simp only[dn];rw[ah r,ah (by omega)];exact b5 k G r
 .obtain rfl:args=[]:=bM.1 h00
  have e5:(AV.sl (N+3) 0 kn (some kn)).un θ= .sl 5 0 kn (some kn):=by show AV.sl (θ.inv (N+3)) _ _ _=_;rw[← V.t5,θ.li]
  have w1:setAt (ig θ (X++(c++Y))) X.length [.str rel,.aQ,zI rule,.aQ]=ig θ X++([.str rel,.aQ,zI rule,.aQ]++ig θ Y):=by
   rw[K,← n];exact zV _ _ _ _ (by rw[J];rfl)
  have w2:setAt (ig θ X++([.str rel,.aQ,zI rule,.aQ]++ig θ Y)) (X.length+3) [.sl 5 0 kn (some kn)]=ig θ X++([.str rel,.aQ,zI rule,.sl 5 0 kn (some kn)]++ig θ Y):=by
   rw[← n];exact IB _ _ _ _ _ _ _
  have D:=ahz T W old (U old) (Z old) lb lo ln lc (A.un θ) (B.un θ) (ig θ S) (ig θ (X++(c++Y))) g cp w X.length hw x x rfl lx rel none 0 0 rule pk kn kc hX u I hi (adk T W U Z old rel rfl rfl)
   (ig θ X++([.str rel,.aQ,zI rule,.aQ]++ig θ Y)) ((fK (l:=ig θ (X++(c++Y))) (e:=27) (g:=false) rfl (by rw[oZ];simp[O]) rfl).trans (by rw[w1];rfl))
   (ig θ X++([.str rel,.aQ,zI rule,.sl 5 0 kn (some kn)]++ig θ Y)) H ((fK (l:=ig θ X++([.str rel,.aQ,zI rule,.aQ]++ig θ Y)) (e:=27) (g:=false) rfl (by simp[n];omega) rfl).trans (by rw[w2];rfl)) (aB (by omega)) (aB (by omega))
  refine acS T W U Z (W':=X++([.str rel,.aQ,zI rule,.sl (N+3) 0 kn (some kn)]++Y)) V hs ht v y z P D rfl ?_ rfl (.cells (rep kn z4) 27 false false) .dead (λ_=>⟨_,rfl,gW θ L _ _ _⟩) (λh=>h.elim) rfl rfl ?_
  .rw[nD,nD]
   show _=some (AO.cells (ig θ X++([.str rel,.aQ,zI rule,(AV.sl (N+3) 0 kn (some kn)).un θ]++ig θ Y)) 27 false false);rw[e5];rfl
  .intro F b1 b2 b3 b4 b5
   refine dL.nil (id:=t) (j:=X.length+1) b1 (FP _ _ _ _ _ _) ?_;refine B' old (.aO none 0 0) N (N+3) _ (Old.le_refl _) (.inr ⟨rfl,rfl,rfl⟩) (by omega) (by omega) (by omega) (by omega) (by omega) ?_ ?_ ?_ ?_
   .simp only[dn];rw[ah (by omega)];exact b2
   .simp only[dn];rw[ah (by omega)];exact b3
   .simp only[dn];rw[aC trivial,EU]
   .intro k G r
    simp only[dn];rw[ah r];exact b5 k G r
end
end
section
variable{A a:AV}{N kc lb lc ln lo:Nat}{R:qC}{S:List AV}{cp:Option Nat}{m:Mm}{pk:Option (Nat×Nat)}{rel:List UInt8}{rule:Int}
section
variable(T:Fe)(W:Ge)(U:∀old,Fw old)(Z:∀old,Gw old)
include T W U Z
theorem aeS{old:Old}{w s t:Nat}{B:AV}{X c Y:List AV}{g:Bool}{x:Nat}{args:List PV}
 (hs:m s= .cells S 140 g false)(ht:m t= .cells (X++(c++Y)) 27 false false)(K:c.length=4)(q:s≠t)(r:s<N)(u:t<N)(y:N+5<=OLD)(L:vU cp g S (w+1))(hw:w<=268435456)
 (h1:S[2*w]? =some (.ptr t X.length))(h2:S[2*w+1]? =some (zI x))(lx:x<ln)(hX:∀h:AH,loadT (E.wo old) h 65 (OLD+lb) (lo+x*4)=some (.agg [.str rel,a,zI rule,.aO pk 0 kc]))(ha:iJ old a args)(M:args.length<=268435456)
 (B':∀d a' z,Old.le old d->iJ d a' args->z t= .cells (X++([.str rel,a',zI rule,.aO none 0 0]++Y)) 27 false false->(∀k,k<N->k≠t->z k=m k)->
  dL prog E d (UN lb lo ln lc A B (.sl s 0 w cp)) z (N+5) R):
 dL prog E old (UN lb lo ln lc A B (.sl s 0 (w+1) cp)) m N R:=by
 obtain⟨θ,V⟩:=afe q r u y;have eT:(AV.ptr t X.length).un θ= .ptr 1 X.length:=by show AV.ptr (θ.inv t) _=_;rw[← V.t1,θ.li]
 have p:∀h:AH,h.obj 0= .cells (ig θ S) 140 g false->loadT (E.wo old) h 140 0 (w*2)=some (.agg [.ptr 1 X.length,zI x]):=λh ho=>by
  refine JA (by kernel_rfl) (by kernel_rfl) rfl ho (QJ ?_ ?_)
  .rw[oI,vV h1,eT]
  .rw[oI,vV h2];rfl
 have hi:IntKind.i64.wrap ((↑(w+1):Int) - 1)=(↑w:Int):=by rw[lT (by omega) (by omega)];omega
 have F:gQ (E.wo old) 141 (.sl 0 0 (w+1) cp) none (some (zI (IntKind.i64.wrap ((↑(w+1):Int) - 1)))) none=some (.sl 0 0 w cp):=Nh L (by kernel_rfl) (by kernel_rfl) hi;have G:(ig θ X).length=X.length:=oZ θ X;have H:(ig θ c).length=4:=by rw[oZ,K]
 have I:ig θ (X++(c++Y))=ig θ X++(ig θ c++ig θ Y):=by rw[nD,nD]
 rcases ha with⟨b,o,ac,rfl,hC⟩|⟨rfl,O,hcv⟩
 .obtain⟨f,ag,hR,C⟩:=c21 T W old (U old) (Z old) rel (c:=ac) hC M
  have e5:(AV.sl (N+3) 0 args.length f).un θ= .sl 5 0 args.length f:=by show AV.sl (θ.inv (N+3)) _ _ _=_;rw[← V.t5,θ.li]
  have w1:setAt (ig θ (X++(c++Y))) X.length [.str rel,.sl 5 0 args.length f,zI rule,.aQ]=ig θ X++([.str rel,.sl 5 0 args.length f,zI rule,.aQ]++ig θ Y):=by
   rw[I,← G];exact zV _ _ _ _ (by rw[H];rfl)
  have D:=ahC T W old (U old) (Z old) lb lo ln lc (A.un θ) (B.un θ) (ig θ S) (ig θ (X++(c++Y))) g cp w X.length hw x x rfl lx rel (some (b,o)) args.length ac rule pk 0 kc hX p F hi (fH args) ag f (C rfl rfl rfl (by kernel_rfl))
   (ig θ X++([.str rel,.sl 5 0 args.length f,zI rule,.aQ]++ig θ Y)) ((fK (l:=ig θ (X++(c++Y))) (e:=27) (g:=false) rfl (by rw[oZ];simp[K]) rfl).trans (by rw[w1];rfl)) (aB (by omega)) (aH (by omega))
  refine acS T W U Z (W':=X++([.str rel,.sl (N+3) 0 args.length f,zI rule,.aQ]++Y)) V hs ht q r u y D rfl ?_ rfl (.cells (fH args) 101 ag false) .dead (λ_=>⟨_,rfl,gW θ (jP (jg args)) _ _ _⟩) (λh=>h.elim) rfl rfl ?_
  .rw[nD,nD]
   show _=some (AO.cells (ig θ X++([.str rel,(AV.sl (N+3) 0 args.length f).un θ,zI rule,.aQ]++ig θ Y)) 27 false false);rw[e5];rfl
  .intro z P b2 b3 b4 Q
   refine aaK T W U Z (by omega) y (by omega) ?_;refine dL.Tn (id:=N+3) (i:=t) (j:=X.length+1) b3 (jg args) P (by omega) (FP _ _ _ _ _ _) ?_;intro d b' c' hle hc' J;rw[EU];refine dL.nil (id:=t) (j:=X.length+3) (aC rfl) (DF _ _ _ _ _ _) ?_;refine B' d (.aO (some (b',0)) args.length c') _ hle (Dx (c:=c') J) ?_ ?_
   .simp only[dn];rw[aC trivial,G5]
   .intro k v n
    simp only[dn];rw[ah n,ah n,ah (by omega)];exact Q k v n
 .obtain rfl:args=[]:=bM.1 O
  have w1:setAt (ig θ (X++(c++Y))) X.length [.str rel,.aQ,zI rule,.aQ]=ig θ X++([.str rel,.aQ,zI rule,.aQ]++ig θ Y):=by
   rw[I,← G];exact zV _ _ _ _ (by rw[H];rfl)
  have D:=ahB T W old (U old) (Z old) lb lo ln lc (A.un θ) (B.un θ) (ig θ S) (ig θ (X++(c++Y))) g cp w X.length hw x x rfl lx rel none 0 0 rule pk 0 kc hX p F hi (adk T W U Z old rel rfl rfl)
   (ig θ X++([.str rel,.aQ,zI rule,.aQ]++ig θ Y)) ((fK (l:=ig θ (X++(c++Y))) (e:=27) (g:=false) rfl (by rw[oZ];simp[K]) rfl).trans (by rw[w1];rfl)) (aB (by omega)) (aH (by omega))
  refine acS T W U Z (W':=X++([.str rel,.aQ,zI rule,.aQ]++Y)) V hs ht q r u y D rfl ?_ rfl .dead .dead (λh=>h.elim) (λh=>h.elim) rfl rfl ?_
  .rw[nD,nD]
   show _=some (AO.cells (ig θ X++([.str rel,.aQ,zI rule,.aQ]++ig θ Y)) 27 false false);rfl
  .intro z P b2 b3 b4 Q
   refine aaK T W U Z (by omega) y (by omega) ?_;refine dL.nil (id:=t) (j:=X.length+1) P (FP _ _ _ _ _ _) ?_;rw[EU];refine dL.nil (id:=t) (j:=X.length+3) (aC rfl) (DF _ _ _ _ _ _) ?_;refine B' old (.aO none 0 0) _ (Old.le_refl _) (.inr ⟨rfl,rfl,rfl⟩) ?_ ?_
   .simp only[dn];rw[aC trivial,G5]
   .intro k v n
    simp only[dn];rw[ah n,ah n];exact Q k v n
end
end
section
variable{cs:List AV}{j:Nat}
theorem qy{E:Env}{t:TypeId}{z:Nat}(a:(E.tt.get t).map (·.isAgg)=some true)(d:(E.tt.get t).map (·.size)=some z){b off:Nat}{l:List AV}(e:iI E.old b off z=some l)(h:AH):loadT E h t (OLD+b) off=some (.agg l):=by
 obtain⟨ti,c,rfl⟩:=aP.1 d;rw[c]at a;exact yN c (by simpa using a) e
theorem mF.vC{old:Old}{l:List T}(h:mF old cs l):AV.fG 0 cs=true:=by
 induction h with
 |nil=>rfl
 |cons a b _ _ _ c=>
  show(true&&(AV.low 0 _&&(true&&(AV.low 0 _&&_))))=true;rw[pR a,pR b,c];rfl
theorem U7{ts:List T}{t:T}(h:ts[j]? =some t):eX (ts.take (j+1))=eX (ts.take j)+t.size:=by
 induction ts generalizing j with
 |nil=>cases h
 |cons u ts a=>
  cases j with
  |zero=>cases h;show t.size+eX (ts.take 0)=eX []+t.size;rw[List.take_zero];show t.size+0=0+t.size;omega
  |succ j=>
   show u.size+eX (ts.take (j+1))=u.size+eX (ts.take j)+t.size;rw[a h];omega
theorem T.size_pos:∀t:T,1<=t.size| .node _ _ _ ks=>by show 1<=eX ks+1;omega
theorem wG:∀ts:List T,ts.length<=eX ts
 |[]=>aj _
 |t::ts=>by
  have:=wG ts;have:=t.size_pos;show ts.length+1<=t.size+eX ts;omega
section
variable(P:Fe)(U:Ge)(Q:∀old,Fw old)(V:∀old,Gw old)
include P U Q V
theorem Xy{old:Old}{O lo ln lc w T X kn kc t p q off:Nat}{A B:AV}{W Ks:List AV}{z:Int}{ks:List Int}{R:qC}(l:kn<=1048576)(C:ks.length=kn)(Y:iI old T X kn=some (ks.map zI))(n:W[off+3]? =some (.sl q 0 kn (some kn))):
 ∀(r y:Nat),y+r=kn->∀{s N:Nat} {S:List AV} {g:Bool} {o:Option Nat} {m:Mm},m s= .cells S 140 g false->m t= .cells W 27 false false->m p=pB t off z->m q= .cells Ks 27 false false->[s,t,p,q].Nodup->(∀x∈[s,t,p,q],x<N)->N+2*r<=OLD->vU o g S (w+y)->w+kn<=268435456->
 (∀i,i<y->S[2*(w+i)]? =some (.ptr q (i*4))∧∃k,ks[i]? =some k∧S[2*(w+i)+1]? =some (zI k))->
 (∀c j d g' v,v c= .cells j 140 g' false->(c=s∨N<=c)->c<N+2*r->vU d g' j (w+kn)->(∀i,i<2*(w+y)->j[i]? =S[i]?)->(∀i,i<kn->j[2*(w+i)]? =some (.ptr q (i*4))∧∃k,ks[i]? =some k∧j[2*(w+i)+1]? =some (zI k))->(∀k,k<N->k≠s->v k=m k)->
  dL prog E old (UN O lo ln lc A B (.sl c 0 (w+kn) d)) v (N+2*r) R)->
 dL prog E old (Tj O lo ln lc A B (.ptr p 0) (.aO (some (T,X)) kn kc) (.sl s 0 (w+y) o) kn (y:Int)) m N R
 |0,y,hr,s,N,S,g,o,m,D,F,hp,G,H,a,hO,e,Z,f,B'=>by
  obtain rfl:y=kn:=by omega
  exact aaK P U Q V (Int.le_refl _) (by omega) (by have:=a p (by simp);omega) (B' s S o g m D (.inl rfl) (by have:=a s (by simp);omega) e (λ_ _=>rfl) f (λ_ _ _=>rfl))
 |r+1,y,hr,s,N,S,g,o,m,D,F,hp,G,H,a,hO,e,Z,f,B'=>by
  have hy:y<kn:=by omega
  obtain⟨I,b⟩:∃k,ks[y]? =some k:=⟨_,aI (by omega)⟩;refine af9 P U Q V D F hp G H a (by omega) e (by omega) hy (λh=>kT (by kernel_rfl) (by rw[bJ];exact pK Y (by rw[fP,b];rfl))) n l ?_;intro c j d g' v c1 c2 c3 J c5 c6 c7;have hsN:=a s (by simp);have K:=a t (by simp);have L:=a p (by simp);have M:=a q (by simp);have u:=H;simp only[dK,ay,av,aU,not_or]at u;obtain⟨⟨d1,d2,d3⟩,⟨d4,d5⟩,d6,_⟩:=u;refine Xy l C Y n r (y+1) (by omega) (N:=N+2) c1 (by rw[c7 t K (by omega)];exact F) (by rw[c7 p L (by omega)];exact hp) (by rw[c7 q M (by omega)];exact G) ?_ ?_ (by omega) c3 Z ?_ ?_
  .simp only[dK,ay,av,aU,not_or]
   rcases c2 with rfl|⟨c2,_⟩
   .exact⟨⟨d1,d2,d3⟩,⟨d4,d5⟩,d6,by simp⟩
   .exact⟨⟨by omega,by omega,by omega⟩,⟨d4,d5⟩,d6,by simp⟩
  .intro x hx
   simp only[ay,av,aU]at hx;rcases hx with rfl|rfl|rfl|rfl<;>omega
  .intro i hi
   by_cases h:i<y
   .obtain⟨a1,k,a2,a3⟩:=f i h
    exact⟨by rw[J _ (by omega)];exact a1,k,a2,by rw[J _ (by omega)];exact a3⟩
   .obtain rfl:i=y:=by omega
    exact⟨c5,I,b,c6⟩
  .intro s2 S2 cp2 g2 m2 e1 e2 e3 e4 e5 e6 e7
   have:=B' s2 S2 cp2 g2 m2 e1 (by omega) (by omega) e4 (λi hi=>(e5 i (by omega)).trans (J i hi)) e6 (λk h1 h2=>by
    by_cases h3:k=c
    .rcases c2 with h4|h4
     .omega
     .omega
    .rw[e7 k (by omega) h3];exact c7 k h1 h2)
   rw[show N+2*(r+1)=N+2+2*r by omega]at this;exact this
def abQ(L:List LN)(f lo lc fu x:Nat):Prop:=
 ∀(old:Old) (w s t N:Nat) (A B:AV) (S X c Y:List AV) (g:Bool) (j:Option Nat) (m:Mm) (R:qC) (cs:List AV),xR old cs L->iI old f lo (L.length*4)=some cs->
  m s= .cells S 140 g false->m t= .cells (X++(c++Y)) 27 false false->c.length=4->s≠t->s<N->t<N->N+7*(xX L fu x).size<=OLD+2->vU j g S (w+1)->w+(xX L fu x).size<=268435456->S[2*w]? =some (.ptr t X.length)->S[2*w+1]? =some (zI x)->
  (∀a b h d g' l e N',Old.le old a->e b= .cells h 140 g' false->(b=s∨N<=b)->b<N'->vU d g' h w->(∀i,i<2*w->h[i]? =S[i]?)->mF a l [xX L fu x]->e t= .cells (X++(l++Y)) 27 false false->(∀k,k<N->k≠s->k≠t->e k=m k)->N<=N'->N'+2<=N+7*(xX L fu x).size->
   dL prog E a (UN f lo L.length lc A B (.sl b 0 w d)) e N' R)->
  dL prog E old (UN f lo L.length lc A B (.sl s 0 (w+1) j)) m N R
theorem adT{L:List LN}{x lo lc fu:Nat}{ks:List Int}(X:∀k∈ks,abQ L x lo lc fu k.toNat)(n:∀k∈ks,0<=k):
 ∀(j:Nat),j<=ks.length->∀{old:Old} {w s q N:Nat} {A B:AV} {S Z D:List AV} {g:Bool} {l:Option Nat} {m:Mm} {R:qC} {cs:List AV},xR old cs L->iI old x lo (L.length*4)=some cs->
 m s= .cells S 140 g false->m q= .cells (Z++D) 27 false false->Z.length=j*4->s≠q->s<N->q<N->N+7*eX ((ks.map λk=>xX L fu k.toNat).take j)<=OLD+2*j->vU l g S (w+j)->w+eX ((ks.map λk=>xX L fu k.toNat).take j)<=268435456->
 (∀i,i<j->S[2*(w+i)]? =some (.ptr q (i*4))∧∃k,ks[i]? =some k∧S[2*(w+i)+1]? =some (zI k))->mF old D ((ks.map λk=>xX L fu k.toNat).drop j)->
 (∀a b y c g' D' o N',Old.le old a->o b= .cells y 140 g' false->(b=s∨N<=b)->b<N'->vU c g' y w->(∀i,i<2*w->y[i]? =S[i]?)->mF a D' (ks.map λk=>xX L fu k.toNat)->o q= .cells D' 27 false false->(∀k,k<N->k≠s->k≠q->o k=m k)->N<=N'->N'+2*j<=N+7*eX ((ks.map λk=>xX L fu k.toNat).take j)->
  dL prog E a (UN x lo L.length lc A B (.sl b 0 w c)) o N' R)->
 dL prog E old (UN x lo L.length lc A B (.sl s 0 (w+j) l)) m N R
 |0,hj,old,w,s,q,N,A,B,S,Z,D,g,l,m,R,cs,G,H,I,J,hZ,d,e,p,Y,f,hw,h,K,B'=>by
  obtain rfl:Z=[]:=bM.1 (by omega);exact B' old s S l g D m N (Old.le_refl _) I (.inl rfl) e f (λ_ _=>rfl) (by simpa using K) J (λ_ _ _ _=>rfl) (aj _) (gY _ _)
 |j+1,hj,old,w,s,q,N,A,B,S,Z,D,g,l,m,R,cs,G,H,I,J,hZ,d,e,p,Y,f,hw,h,K,B'=>by
  obtain⟨a1,k,a2,a3⟩:=h j (by omega);have r:k∈ks:=bP a2;have ht:(ks.map λk=>xX L fu k.toNat)[j]? =some (xX L fu k.toNat):=by rw[fP,a2];rfl
  have t:=U7 ht;rw[t]at Y hw;have hjs:j<=eX ((ks.map λk=>xX L fu k.toNat).take j):=by
   have:=wG ((ks.map λk=>xX L fu k.toNat).take j);rw[eG,dZ]at this;omega
  have u:(Z.take (j*4)).length=j*4:=by rw[eG];omega
  have M:(Z.drop (j*4)).length=4:=by rw[iF];omega
  have O:Z++D=Z.take (j*4)++(Z.drop (j*4)++D):=by rw[← fC,mg]
  have hk:=n k r;refine X k r old (w+j) s q N A B S (Z.take (j*4)) (Z.drop (j*4)) D g l m R cs G H I (by rw[← O];exact J) M d e p (by omega) f (by omega) (by rw[u];exact a1) (by rw[Int.toNat_of_nonneg hk];exact a3) ?_;intro a b y c g' c' o N' z b2 C b4 b5 T b7 b8 b9 b10 b11;refine adT X n j (by omega) (w:=w) (Z:=Z.take (j*4)) (D:=c'++D) (G.mono z) (nI z H) b2 b8 u ?_ b4 (by omega) (by omega) b5 (by omega) ?_ ?_ ?_
  .rcases C with rfl|C
   .exact d
   .omega
  .intro i hi
   obtain⟨e1,k',e2,F⟩:=h i (by omega);exact⟨by rw[T _ (by omega)];exact e1,k',e2,by rw[T _ (by omega)];exact F⟩
  .have hd:(ks.map λk=>xX L fu k.toNat).drop j=xX L fu k.toNat::(ks.map λk=>xX L fu k.toNat).drop (j+1):=by
    obtain⟨h1,W⟩:=aA.1 ht;rw[bn h1,W]
   rw[hd];exact b7.app (K.mono z)
  .intro v s2 S2 cp2 g2 D2 m2 N2 e1 e2 F e4 e5 e6 e7 e8 e9 e10 e11
   refine B' v s2 S2 cp2 g2 D2 m2 N2 (Old.le_trans z e1) e2 ?_ e4 e5 (λi hi=>(e6 i hi).trans (T i (by omega))) e7 e8 ?_ (by omega) (by rw[t];omega)
   .rcases F with rfl|F
    .exact C
    .exact .inr (by omega)
   .intro k' h1 W h3
    by_cases h4:k'=b
    .rcases C with h5|h5
     .omega
     .omega
    .rw[e9 k' (by omega) h4 h3];exact b9 k' h1 W h3
theorem Xx{L:List LN}{lb lo lc:Nat}(I:∀l∈L,l.args.length<=268435456∧l.kids.length<=1048576):∀(fu x:Nat),OkL L fu x->abQ L lb lo lc fu x
 |0,x,h=>h.elim
 |fu+1,x,⟨l,hl,hk⟩=>by
  intro old w s t N A B S X c Y g cp m R cs hL hC hs ht hc f v J hO y hw h1 h2 B';have K:xX L (fu+1) x= .node l.rel l.args l.rule (l.kids.map λk=>xX L fu k.toNat):=by
   show(match L[x]? with |some (l:LN)=>T.node l.rel l.args l.rule (l.kids.map λ(k:Int)=>xX L fu k.toNat)|none=> .node [] [] 0 [])=_;rw[hl]
  have n:(xX L (fu+1) x).size=eX (l.kids.map λk=>xX L fu k.toNat)+1:=by rw[K];rfl
  have M:x<L.length:=(aA.1 hl).1;obtain⟨a,k,k1,k2,k3⟩:=hL.at hC hl;obtain⟨ba,bk⟩:=I l (bP hl);have hX:∀h:AH,loadT (E.wo old) h 65 (OLD+lb) (lo+x*4)=some (.agg [.str l.rel,a,zI l.rule,k]):=λh=>qy (E:=E.wo old) (by kernel_rfl) (by kernel_rfl) k1 h;rw[n]at hO hw;have fin:∀(d:Old) (z k':AV) (ks:List AV) (C:Nat) (G:List AV) (r:Option Nat) (g':Bool) (u:Mm) (N':Nat),Old.le old d->iJ d z l.args->xQ d k' (l.kids.map λk=>xX L fu k.toNat).length 4 ks->mF d ks (l.kids.map λk=>xX L fu k.toNat)->u C= .cells G 140 g' false->(C=s∨N<=C)->C<N'->vU r g' G w->(∀i,i<2*w->G[i]? =S[i]?)->u t= .cells (X++([.str l.rel,z,zI l.rule,k']++Y)) 27 false false->(∀k,k<N->k≠s->k≠t->u k=m k)->N<=N'->N'+2<=N+7*(eX (l.kids.map λk=>xX L fu k.toNat)+1)->
   dL prog E d (UN lb lo L.length lc A B (.sl C 0 w r)) u N' R:=λd z k' ks C G r g' u N' q1 q2 q3 q4 q5 q6 q7 q8 q9 q10 q11 q12 q13=>
   B' d C G r g' _ u N' q1 q5 q6 q7 q8 q9 (by rw[K];exact .cons q2 q3 q4 .nil) q10 q11 q12 (by rw[n];exact q13)
  by_cases h0:l.kids=[]
  .have:∃pk kc,k= .aO pk 0 kc:=by
    rw[h0]at k3;rcases k3 with⟨b,o,kc,rfl,_⟩|⟨rfl,_,_⟩
    .exact⟨_,_,rfl⟩
    .exact⟨_,_,rfl⟩
   obtain⟨pk,kc,rfl⟩:=this;refine aeS P U Q V hs ht hc f v J (by omega) y (by omega) h1 h2 M hX k2 ba ?_;intro d z u H b2 b3 b4;refine fin d z (.aO none 0 0) [] s S cp g u (N+5) H b2 (by rw[h0];exact .inr ⟨rfl,rfl,rfl⟩) (by rw[h0];exact .nil) (by rw[b4 s v f];exact hs) (.inl rfl) (by omega) y.pop (λ_ _=>rfl) b3 (λk h3 h4 h5=>b4 k h3 h5) (by omega) (by omega)
  .have O:0<l.kids.length:=UW.2 h0
   rcases k3 with⟨kb,ko,kc,rfl,hK⟩|⟨_,h00,_⟩
   .rw[bJ]at hK
    refine aeR P U Q V hs ht hc f v J (by omega) y (by omega) h1 h2 M hX k2 ba O bk ?_;intro d z p q u H b2 b3 b4 b5 b6 b7 b8 b9 W b11;have hsz:=wG (l.kids.map λk=>xX L fu k.toNat);rw[dZ]at hsz;refine Xy P U Q V (w:=w) (t:=t) (p:=p) (q:=q) (off:=X.length) bk rfl (nI H hK) (DF _ _ _ _ _ _) l.kids.length 0 (by omega) (m:=u) (by rw[b11 s v f];exact hs) W b8 b9 ?_ ?_ (by omega) y.pop (by omega) (λi hi=>aX hi (gV _)) ?_
    .simp only[dK,ay,av,aU,not_or]
     exact⟨⟨f,by omega,by omega⟩,⟨by omega,by omega⟩,b7,by simp⟩
    .intro x M
     simp only[ay,av,aU]at M;rcases M with rfl|rfl|rfl|rfl<;>omega
    .intro C G r g' m2 c1 c2 c3 c4 c5 c6 c7
     have e:(l.kids.map λk=>xX L fu k.toNat).take l.kids.length=l.kids.map λk=>xX L fu k.toNat:=eP (by rw[dZ];exact aj _);refine adT P U Q V (ks:=l.kids) (λk F=>Xx I fu k.toNat (hk k F).2) (λk F=>(hk k F).1) l.kids.length (aj _) (w:=w) (q:=q) (Z:=rep l.kids.length z4) (D:=[]) (hL.mono H) (nI H hC) c1 ?_ (by rw[tZ];rfl) ?_ c3 (by omega) (by rw[e];omega) c4 (by rw[e];omega) c6 ?_ ?_
     .rw[dD,c7 q (by omega) (by omega)];exact b9
     .omega
     .rw[List.drop_of_length_le (by rw[dZ];exact aj _)];exact .nil
     .intro old3 s3 S3 cp3 g3 D3 m3 N3 e1 e2 e3 e4 e5 e6 e7 e8 e9 e10 e11
      rw[e]at e11;have ht3:m3 t= .cells (X++([.str l.rel,z,zI l.rule,.sl q 0 l.kids.length (some l.kids.length)]++Y)) 27 false false:=by
       rw[e9 t (by omega) (by omega) (by omega),c7 t (by omega) (by omega)];exact W
      refine dL.Tn (id:=q) (i:=t) (j:=X.length+3) e8 (wY e7.vC) ht3 (by omega) (DF _ _ _ _ _ _) ?_;intro old4 b4' c4' f1 f2 f3;rw[G5];refine fin old4 z (.aO (some (b4',0)) l.kids.length c4') D3 s3 S3 cp3 g3 _ N3 (Old.le_trans H (Old.le_trans e1 f1)) (b2.mono (Old.le_trans e1 f1)) (.inl ⟨b4',0,c4',by rw[dZ],?_⟩) (e7.mono f1) ?_ (by omega) e4 e5 ?_ ?_ ?_ (by omega) (by omega)
      .have:=know f3
       rw[e7.len,dZ]at this;rw[dZ];exact this
      .simp only[dn];rw[ah (by omega),ah (by omega)];exact e2
      .intro i hi;rw[e6 i hi,c5 i (by omega)]
      .simp only[dn];rw[aC trivial]
      .intro k' h3 h4 h5
       simp only[dn];rw[ah h5,ah (by omega),e9 k' (by omega) (by omega) (by omega),c7 k' (by omega) (by omega)];exact b11 k' h3 h5
   .exact aX h00 (by omega)
end
end
section
variable{N j kc kn:Nat}{R:qC}{S:List AV}{SV kv:AV}{cp:Option Nat}{m:Mm}
noncomputable def fT:List AI:=ag6
noncomputable def ahT:List AI:=ag5
noncomputable def ahS:List AI:=ag4
noncomputable def LZ(B a st:AV):AF:=⟨⟨6,false,none,128⟩,zO (zO (zO (zL st) .e) (zL B)) (zN .e .aQ (zL a)),fT,[],false⟩
noncomputable def BK(B a st Y:AV):AF:=⟨⟨6,false,none,128⟩,zO (zO (zO (zL st) .e) (zL B)) (zN .e .aQ (zN (zL Y) a .e)),ahT,[],false⟩
noncomputable def xq(B a st:AV)(i:Int):AF:=⟨⟨6,false,none,128⟩,zO (zO (zO (zL st) (zL (zI i))) (zL B)) (zN .e .aQ (zL a)),ahS,[],false⟩
theorem JF(ρ:Nat->Nat)(B a st:AV):(LZ B a st).ren ρ=LZ (B.ren ρ) (a.ren ρ) (st.ren ρ):=rfl
theorem TB(ρ:Nat->Nat)(B a st Y:AV):(BK B a st Y).ren ρ=BK (B.ren ρ) (a.ren ρ) (st.ren ρ) (Y.ren ρ):=rfl
def Jl(a:Option Nat)(g:Bool)(S:List AV)(len:Nat):Prop:=(a=none∧g=true∧len<=S.length)∨(a=some 1∧g=false∧S.length=1∧len<=1)
theorem Jl.pop{g:Bool}{w:Nat}(h:Jl cp g S (w+1)):Jl cp g S w:=by
 rcases h with⟨a,b,c⟩|⟨a,b,c,d⟩
 .exact .inl ⟨a,b,by omega⟩
 .exact .inr ⟨a,b,c,by omega⟩
def ahl(a:AV)(j:Nat):Prop:=(a= .aQ∧j=0)∨∃q c,a= .sl q 0 j c
def up:Nat->Nat->List Nat
 |_,0=>[]
 |N,k+1=>N::up (N+1) k
theorem Wj:∀(k N:Nat),∀x∈up N k,N<=x∧x<N+k
 |0,N,x,h=>by cases h
 |k+1,N,x,h=>by
  rcases ay.1 (show x∈N::up (N+1) k from h)with rfl|h
  .omega
  .have:=Wj k (N+1) x h;omega
theorem adG:∀(k N:Nat),(up N k).Nodup
 |0,_=>List.nodup_nil
 |k+1,N=>dK.2 ⟨λh=>by have:=Wj k (N+1) N h;omega,adG k (N+1)⟩
theorem Pm.mk'{l:List Nat}{N k:Nat}(a:List Nat)(e:a.Nodup)(d:a.length=l.length+k)(f:∀x∈a,x<100)(g:l.Nodup)(c:∀x∈l,x<N)(i:N+k<=OLD):∃θ:Pm,a.map θ.to=l++up N k:=by
 have j:(up N k).length=k:=by
  clear d i;induction k generalizing N with
  |zero=>rfl
  |succ k m=>show(up (N+1) k).length+1=k+1;rw[m λx b=>by have:=c x b;omega]
 refine Pm.of a (l++up N k) (by rw[d,bC,j]) e ?_ (λx b=>by have:=f x b;unfold OLD;omega) (λx b=>?_)
 .rw[List.nodup_append]
  refine⟨g,adG k N,λx b y n=>?_⟩;have:=c x b;have:=Wj k N y n;omega
 .rcases bQ.1 b with h|h
  .have:=c x h;omega
  .have:=Wj k N x h;omega
section
variable(W:Fe)(Y:Ge)(X:∀old,Fw old)(Z:∀old,Gw old)
include W Y X Z
theorem agl{old:Old}{B:AV}{g:Bool}{w s x a to n ok:Nat}
 (hs:m s= .cells S 57 g false)(Q:m x= .cells [.ptr (OLD+a) to,kv] 59 false false)(J:s≠x)(hsN:s<N)(hxN:x<N)(T:N+3<=OLD)(K:Jl cp g S (w+1))(hw:w<=134217000)(hT:S[w]? =some (.ptr x 0))(L:ahl kv j)
 (U:∀h:AH,loadT (E.wo old) h 25 (OLD+a) (to+3)=some (.aO (some (n,ok)) kn kc))(hj:j<kn)
 (B':∀y G A g' H,H y= .cells G 57 g' false->(y=s∨(N<=y∧y<N+3))->y≠N->Jl A g' G (w+2)->(∀i,i<w+1->G[i]? =S[i]?)->G[w+1]? =some (.ptr N 0)->H N= .cells [.ptr (OLD+n) (ok+j*4),.aQ] 59 false false->(∀k,k<N->k≠s->H k=m k)->
  dL prog E old (LZ B SV (.sl y 0 (w+2) A)) H (N+3) R):
 dL prog E old (LZ B SV (.sl s 0 (w+1) cp)) m N R:=by
 obtain⟨θ,M⟩:=Pm.mk' (l:=[s,x]) (N:=N) (k:=3) [0,1,2,3,4] (by decide) rfl (by decide) (by simpa using J) (by simp;omega) T;obtain⟨t0,t1,t2,t3,t4⟩:θ.to 0=s∧θ.to 1=x∧θ.to 2=N∧θ.to 3=N+1∧θ.to 4=N+2:=by
  have h:[θ.to 0,θ.to 1,θ.to 2,θ.to 3,θ.to 4]=[s,x,N,N+1,N+1+1]:=M;simp only[dM,iM]at h;exact h
 have hi:IntKind.i64.wrap ((↑(w+1):Int) - 1)=(↑w:Int):=by rw[lT (by omega) (by omega)];omega
 have eT:(AV.ptr x 0).un θ= .ptr 1 0:=by show AV.ptr (θ.inv x) _=_;rw[← t1,θ.li]
 have o:∀h:AH,h.obj 0= .cells (ig θ S) 57 g false->loadT (E.wo old) h 57 0 (w*1)=some (.ptr 1 0):=λh ho=>mV (by kernel_rfl) rfl ho (by rw[bJ,vV hT,eT]);have p:∀b,θ.to (OLD+b)=OLD+b:=λb=>θ.old _ (gY _ _);have V:(AO.cells [.ptr (OLD+a) to,kv.un θ] 59 false false).ren θ.to= .cells [.ptr (OLD+a) to,kv] 59 false false:=by
  show AO.cells [.ptr (θ.to (OLD+a)) to,(kv.un θ).ren θ.to] 59 false false=_;rw[AV.ku,p]
 have r:∀e∈ents (zN (zL (.cells [.ptr (OLD+a) to,kv.un θ] 59 false false)) (.cells (ig θ S) 57 g false) .e),m (θ.to e.1)=e.2.ren θ.to∧θ.to e.1∈[s,x,N,N+1,N+2]:=λe f=>by
  have f:e∈[(0,AO.cells (ig θ S) 57 g false),(1,.cells [.ptr (OLD+a) to,kv.un θ] 59 false false)]:=f;simp only[ay,av,aU]at f;rcases f with rfl|rfl
  .exact⟨by rw[t0,hs,jC],by rw[t0];simp⟩
  .exact⟨by rw[t1,Q,V],by rw[t1];simp⟩
 have D:∀(C:Nat) (cp2:Option Nat) (d:AH),gX (E.wo old) (lD VU (.cells [.ptr (OLD+a) to,kv.un θ] 59 false false) (.cells (ig θ S) 57 g false) (Y8 n ok j)) .append [.sl 0 0 (w+1) cp,.sl 3 0 1 (some 1)] [60,60]=some (.val (.sl C 0 (w+2) cp2) d)->
  DS old (LZ (B.un θ) (SV.un θ) (.sl 0 0 (w+1) cp)) (jK (.cells [.ptr (OLD+a) to,kv.un θ] 59 false false) (.cells (ig θ S) 57 g false)) (LZ (B.un θ) (SV.un θ) (.sl C 0 (w+2) cp2)) d:=λC cp2 d z=>by
  rcases L with⟨rfl,rfl⟩|⟨q,c,rfl⟩
  .exact ahQ W Y old (X old) (Z old) (B.un θ) (SV.un θ) (ig θ S) g cp w (by omega) hi o a to n ok kn kc U hj C cp2 d z (aB (by omega)) (aB (by omega))
  .exact ahP W Y old (X old) (Z old) (B.un θ) (SV.un θ) (ig θ S) g cp w (by omega) hi o a to n ok kn kc U (θ.inv q) j c hj C cp2 d z (aB (by omega)) (aB (by omega))
 have ha:Gl (E.wo old) 60 60=some (57,1):=by kernel_rfl
 have e3:[AV.ptr 2 0]=ig θ [.ptr N 0]:=by
  show _=[AV.ptr (θ.inv N) 0];rw[← t2,θ.li]
 have main:∀(cp2:Option Nat) (d:AH) (u:List AV) (g2:Bool),gX (E.wo old) (lD VU (.cells [.ptr (OLD+a) to,kv.un θ] 59 false false) (.cells (ig θ S) 57 g false) (Y8 n ok j)) .append [.sl 0 0 (w+1) cp,.sl 3 0 1 (some 1)] [60,60]=some (.val (.sl 4 0 (w+2) cp2) d)->
  d.tr.get 1=some (.cells [.ptr (OLD+a) to,kv.un θ] 59 false false)->d.tr.get 2=some (Y8 n ok j)->d.tr.get 4=some (.cells (ig θ u) 57 g2 false)->Nat.ble d.nx 5=true->d.df=0->
  Jl cp2 g2 u (w+2)->(∀i,i<w+1->u[i]? =S[i]?)->u[w+1]? =some (.ptr N 0)->dL prog E old (LZ B SV (.sl s 0 (w+1) cp)) m N R:=λcp2 d u g2 z g1 gp gs v O q1 q2 q3=>by
  have D:=D 4 cp2 d z;have v:=aJ v;refine dL.lift (θ:=θ) (N':=N+3) (l:=[(s,.dead),(x,.cells [.ptr (OLD+a) to,kv] 59 false false),(N,.cells [.ptr (OLD+n) (ok+j*4),.aQ] 59 false false),(N+1,.dead),(N+2,.cells u 57 g2 false)])
   ⟨λe f=>(r e f).1,λe f=>(r e f).2,λe f F=>?_,λi h1 h2=>?_,by omega,bF (aS v (by decide)),T,rfl,O⟩ D ⟨rfl,rfl,rfl⟩ ⟨rfl,rfl,rfl⟩ ?_ rfl ?_
  .simp only[ay,av,aU]at f
   rcases f with rfl|rfl|rfl|rfl|rfl
   .exact F.elim
   .exact⟨1,_,g1,t1,V⟩
   .refine⟨2,_,gp,t2,?_⟩
    show AO.cells [.ptr (θ.to (OLD+n)) _,.aQ] 59 false false=_;rw[p]
   .exact F.elim
   .exact⟨4,_,gs,t4,jC _ _ _ _ _⟩
  .have h1:2<=i:=h1
   rcases(by omega:i=2∨i=3∨i=4)with rfl|rfl|rfl
   .rw[t2];omega
   .rw[t3];omega
   .rw[t4];omega
  .rw[JF,AV.ku,AV.ku]
   show _=LZ B SV (.sl (θ.to 0) 0 (w+1) cp);rw[t0]
  .have e:(LZ (B.un θ) (SV.un θ) (.sl 4 0 (w+2) cp2)).ren θ.to=LZ B SV (.sl (N+2) 0 (w+2) cp2):=by
    rw[JF,AV.ku,AV.ku];show LZ B SV (.sl (θ.to 4) 0 (w+2) cp2)=_;rw[t4]
   rw[e];refine B' (N+2) u cp2 g2 _ ?_ (.inr ⟨by omega,by omega⟩) (by omega) q1 q2 q3 ?_ (λk hk1 P=>?_)
   .simp only[dn];rw[ah (by omega),ah (by omega),ah (by omega),ah (by omega),aC trivial]
   .simp only[dn];rw[ah (by omega),ah (by omega),aC trivial]
   .simp only[dn]
    rw[ah P];by_cases k1:k=x
    .rw[aC k1,k1,Q]
    .rw[ah k1,ah (by omega),ah (by omega),ah (by omega)]
 rcases K with⟨rfl,rfl,I⟩|⟨rfl,rfl,I,hw1⟩
 .have t:(S.take ((w+1)*1)).length=w+1:=by rw[eG];omega
  have e5:(ig θ S).take ((w+1)*1)++[.ptr 2 0]=ig θ (S.take ((w+1)*1)++[.ptr N 0]):=by rw[QA,nD,e3]
  refine main none _ (S.take ((w+1)*1)++[.ptr N 0]) true (xC (id:=0) (len:=w+1) (id2:=3) (off2:=0) (cc:=some 1) (vs:=ig θ S) (cs:=[.ptr 2 0]) ha rfl (by rw[oZ];omega) (by omega) rfl rfl rfl) rfl rfl (by rw[← e5];rfl) rfl rfl (.inl ⟨rfl,rfl,by rw[bC,t];simp⟩) (λi hi=>?_) ?_
  .rw[aW (by omega),iP,aC (by omega)]
  .rw[bD (by omega),t,wD];rfl
 .obtain rfl:w=0:=by omega
  have z:=Cc (h:=(lD VU (.cells [.ptr (OLD+a) to,kv.un θ] 59 false false) (.cells (ig θ S) 57 false false) (Y8 n ok j))) (sz:=1) (id:=0) (len:=1) (id2:=3) (off2:=0) (cc:=some 1) (vs:=ig θ S) (cs:=[.ptr 2 0]) ha (by
   show takeN (ig θ S) 0 1=_;rw[show 1=(ig θ S).length by rw[oZ,I]];exact GU _) (by decide) rfl
  refine main none _ (S++[.ptr N 0]) true z rfl rfl (by rw[nD,← e3];rfl) rfl rfl (.inl ⟨rfl,rfl,by rw[bC,I];exact aj _⟩) (λi hi=>?_) ?_
  .rw[aW (by omega)]
  .rw[bD (by omega),I];rfl
end
end
end Go.Ev
