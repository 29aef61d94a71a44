/- A part of the proof that ProofGreat returns true. -/
import Derived.Test.YtngcidmhopkokaaGreatDoorMyGr1
import Derived.Test.YtngcidmhopkokaaGreatDoorMyEv4
import Derived.Test.YtngcidmhopkokaaGreatDoorMyGr2
import Derived.Test.YtngcidmhopkokaaGreatDoorMyEv5
import Derived.Test.YtngcidmhopkokaaGreatDoorMyStates
set_option linter.all false
namespace Go.Ev
open Go.Proofs Go.Proofs.Tryz
set_option maxRecDepth 100000
section
variable(Y:Fe)(Z:Ge)
include Y Z
section
variable(X:Old)(F:Fw X)(V:Gw X)(W:List AV)(n:Nat)
include X F V W n
theorem agt(a b:Int):DS X (ent (E.wo X) 174 [.sl 0 0 n none,zI a,zI b,.fn 29 [] []]) (aC (aV W)) (J7 (zI a) (.sl 0 0 n none) (zI (IntKind.i64.wrap (a+1))) (zI b)) (aC (aV W)):=
 jK F V [0,1,2,3,8] (Qn 8) (by kernel_rfl)
theorem agq(a b i:Int)(o1:(decide (i<b))=true):DS X (J7 (zI a) (.sl 0 0 n none) (zI i) (zI b)) (aC (aV W)) (J6 (zI a) (zI i) (.sl 0 0 n none) (zI i) (zI b)) (aC (aV W)):=
 jK F V [0,1,2,3,8,9] (Qb 5 o1 (Qn 12)) (by kernel_rfl)
theorem aei(a b i:Int)(o1:(decide (i<b))=false):DR X (J7 (zI a) (.sl 0 0 n none) (zI i) (zI b)) (aC (aV W)) (.bV []) (aC (aV W)):=
 prt F V (Qb 5 o1 (Qn 4)) (by kernel_rfl)
theorem fine(a b i j:Int)(o1:(decide (j>a))=false):DS X (J6 (zI a) (zI j) (.sl 0 0 n none) (zI i) (zI b)) (aC (aV W)) (J7 (zI a) (.sl 0 0 n none) (zI (IntKind.i64.wrap (i+1))) (zI b)) (aC (aV W)):=
 jK F V [0,1,2,3,8] (Qd 2 [.c,.c,.v (.bool false),.c,.c,.c,.c,.c,.c,.c,.c,.c,.c,.c,.c,.c,.c] (Qq (Qc o1) (Qn 9))) (by kernel_rfl)
end
section
variable(X:Old)(F:Fw X)(L:Gw X)(W S T U V:List AV)(n x y:Nat)(a b i j z:Int)(O:j=(↑x:Int))(P:IntKind.i64.wrap (j - 1)=(↑y:Int))(Q:x<n)(R:y<n)(H:X5 (E.wo X) 25 2 W x y S T U V)(M:RX X 29 [.agg S,.agg T] (zI z))(N:(decide (j>a))=true)
include X F L W S T U V n x y a b i j z O P Q R H M N
theorem ags(o2:(decide (z<0))=true):DS X (J6 (zI a) (zI j) (.sl 0 0 n none) (zI i) (zI b)) (aC (aV W)) (J6 (zI a) (zI (IntKind.i64.wrap (j - 1))) (.sl 0 0 n none) (zI i) (zI b)) (aC (aV V)):=
 jK F L [0,1,2,3,8,9] (Qd 2 [.c,.c,.v (.bool true),.c,.c,.c,.c,.v (zP 0 (x*2)),.v (.agg S),.c,.c,.c,.v (zP 0 (y*2)),.v (.agg T),.k (zI z) (aC (aV W)),.v (.bool true),.c] (Qq (Qc N) (Qq (yF X 0 none O Q) (Qq (H.L (aC (aV W)) rfl) (Qq (yF X 0 none P R) (Qq (H.M (aC (aV W)) rfl) (Qp (M (aC (aV W)) (by kernel_rfl) rfl) (Qq (Qc o2) (Qp (H.M (aC (aV W)) rfl) (Qp (H.L (aC (aV W)) rfl) (Qd 4 [.c,.c,.c,.c,.c,.c,.c,.c,.v (zP 0 (y*2)),.v (.agg T),.c,.c,.v (zP 0 (x*2)),.v (.agg S),.v (zP 0 (x*2)),.l (.bV []) (aC (aV U)),.v (zP 0 (y*2)),.l (.bV []) (aC (aV V))] (Qq (yF X 0 none P R) (Qq (H.M (aC (aV W)) rfl) (Qq (yF X 0 none O Q) (Qq (H.L (aC (aV W)) rfl) (Qq (yF X 0 none O Q) (Qz (Qp (jR (by kernel_rfl) H.ly H.S:fU (E.wo X) (aC (aV W)) 25 (zP 0 (x*2)) (.agg T)=some (.val (.bV []) (aC (aV U)))) (Qq (yF X 0 none P R) (Qz (Qp (jR (by kernel_rfl) H.lx H.T:fU (E.wo X) (aC (aV U)) 25 (zP 0 (y*2)) (.agg S)=some (.val (.bV []) (aC (aV V)))) (Qp (H.L (aC (aV W)) rfl) (Qp (H.M (aC (aV W)) rfl) (Qn 7)))))))))))))))))))))))) (by kernel_rfl)
theorem agr(o2:(decide (z<0))=false):DS X (J6 (zI a) (zI j) (.sl 0 0 n none) (zI i) (zI b)) (aC (aV W)) (J7 (zI a) (.sl 0 0 n none) (zI (IntKind.i64.wrap (i+1))) (zI b)) (aC (aV W)):=
 jK F L [0,1,2,3,8] (Qd 2 [.c,.c,.v (.bool true),.c,.c,.c,.c,.v (zP 0 (x*2)),.v (.agg S),.c,.c,.c,.v (zP 0 (y*2)),.v (.agg T),.k (zI z) (aC (aV W)),.v (.bool false),.c] (Qq (Qc N) (Qq (yF X 0 none O Q) (Qq (H.L (aC (aV W)) rfl) (Qq (yF X 0 none P R) (Qq (H.M (aC (aV W)) rfl) (Qp (M (aC (aV W)) (by kernel_rfl) rfl) (Qq (Qc o2) (Qp (H.M (aC (aV W)) rfl) (Qp (H.L (aC (aV W)) rfl) (Qn 9))))))))))) (by kernel_rfl)
end
end
section
variable(Y:Fe)(Z:Ge)
include Y Z
section
variable(X:Old)(F:Fw X)(W:Gw X)
include X F W
theorem fsw(cs f g d e:List AV)(n x y:Nat)(a b m i:Int)(h:IntKind.i64.wrap (a+i)=(↑x:Int))(j:IntKind.i64.wrap (b+i)=(↑y:Int))(lx:x<n)(ly:y<n)(H:X5 (E.wo X) 25 2 cs x y f g d e)(k:(decide (i<m))=true):DS X (OD (zI m) (zI a) (.sl 0 0 n none) (zI b) (zI i)) (aC (aV cs)) (OD (zI m) (zI a) (.sl 0 0 n none) (zI b) (zI (IntKind.i64.wrap (i+1)))) (aC (aV e)):=
 jK F W [0,1,2,3,4,10] (Qb 5 k (Qd 5 [.c,.c,.c,.c,.c,.c,.c,.c,.c,.c,.c,.c,.v (zP 0 (y*2)),.v (.agg g),.c,.c,.c,.c,.v (zP 0 (x*2)),.v (.agg f),.v (zP 0 (x*2)),.l (.bV []) (aC (aV d)),.v (zP 0 (y*2)),.l (.bV []) (aC (aV e))] (Qq (yF X 0 none j ly) (Qq (H.M (aC (aV cs)) rfl) (Qq (yF X 0 none h lx) (Qq (H.L (aC (aV cs)) rfl) (Qq (yF X 0 none h lx) (Qz (Qp (jR (by kernel_rfl) H.ly H.S:fU (E.wo X) (aC (aV cs)) 25 (zP 0 (x*2)) (.agg g)=some (.val (.bV []) (aC (aV d)))) (Qq (yF X 0 none j ly) (Qz (Qp (jR (by kernel_rfl) H.lx H.T:fU (E.wo X) (aC (aV d)) 25 (zP 0 (y*2)) (.agg f)=some (.val (.bV []) (aC (aV e)))) (Qp (H.L (aC (aV cs)) rfl) (Qp (H.M (aC (aV cs)) rfl) (Qn 7))))))))))))))) (by kernel_rfl)
theorem afX(cs:List AV)(n:Nat)(a b m i:Int)(c:(decide (i<m))=false):DR X (OD (zI m) (zI a) (.sl 0 0 n none) (zI b) (zI i)) (aC (aV cs)) (.bV []) (aC (aV cs)):=
 prt F W (Qb 5 c (Qn 4)) (by kernel_rfl)
theorem afY(cs:List AV)(n:Nat)(a b m:Int):DS X (ent (E.wo X) 310 [.sl 0 0 n none,zI a,zI b,zI m,.fn 29 [] []]) (aC (aV cs)) (OD (zI m) (zI a) (.sl 0 0 n none) (zI b) (zI 0)) (aC (aV cs)):=
 jK F W [0,1,2,3,4,10] (Qn 6) (by kernel_rfl)
end
end
section
variable{n x:Nat}
noncomputable def ad1(n:Nat)(a b m i:Int):AF:=(OD (zI m) (zI a) (.sl 0 0 n none) (zI b) (zI i))
section
variable(U:Fe)(W:Ge)(Z:Old)(F:Fw Z)(V:Gw Z)
theorem FE{l:List (EF Z)}{y:Nat}{a b:EF Z}(c:l[x]? =some a)(d:l[y]? =some b):X5 (E.wo Z) 25 2 (l.flatMap eZ) x y (eZ a) (eZ b) ((l.set x b).flatMap eZ) (((l.set x b).set y a).flatMap eZ):=
 aaX (by kernel_rfl) (by kernel_rfl) CW JJ c d
include U W F V
theorem JG(n:Nat)(a b m:Nat)(h:n<=268435456):∀(X Y A B C:List (EF Z)) (i:Nat),X.length=Y.length->A.length=a+i->A.length+X.length+B.length=b+i->i+X.length=m->(A++X++B++Y++C).length=n->
 eG prog (E.wo Z) (ad1 n a b m i) (jP (A++X++B++Y++C)) (.bV []) (jP (A++Y++B++X++C))
 |[],[],A,B,C,i,h1,f,d,c,e=>by
  have A1:=afX U W Z F V ((A++[]++B++[]++C).flatMap eZ) n a b m i (aD (by simp at c;omega));exact eG.it A1 (by kernel_rfl) rfl rfl
 |x::X,[],A,B,C,i,h1,f,d,c,e=>by simp at h1
 |[],y::Y,A,B,C,i,h1,f,d,c,e=>by simp at h1
 |x::X,y::Y,A,B,C,i,h1,f,d,c,e=>by
  have j:=JG n a b m h X Y (A++[y]) (B++[x]) C (i+1) (by simpa using h1) (by simp;omega) (by simp at d ⊢;omega) (by simp at c;omega) (by simp at e ⊢;omega);simp at e;simp at h1;simp at c;simp at d;have g:A++x::X++B++y::Y++C=A++x::(X++B++y::(Y++C)):=by simp
  have e1:(A++x::X++B++y::Y++C).set A.length y=A++y::X++B++y::(Y++C):=by rw[g,set_mid];simp
  have l1:(A++y::X++B).length=b+i:=by simp;omega
  have e2:((A++x::X++B++y::Y++C).set A.length y).set (b+i) x=A++[y]++X++(B++[x])++Y++C:=by rw[e1,← l1,set_mid];simp
  have k:(A++x::X++B++y::Y++C)[A.length]? =some x:=by rw[g,nK]
  have l:(A++x::X++B++y::Y++C)[b+i]? =some y:=by
   have:A++x::X++B++y::Y++C=(A++x::X++B)++y::(Y++C):=by simp
   rw[this,show b+i=(A++x::X++B).length by simp;omega,nK]
  have A1:=fsw U W Z F V _ _ _ _ _ n A.length (b+i) a b m i (by rw[dW (by omega) (by omega)];omega) (by rw[dW (by omega) (by omega)];omega) (by omega) (by omega) (FE Z k l) (aA (by omega));rw[e2,QN (by omega)]at A1;have o:A++y::Y++B++x::X++C=A++[y]++Y++(B++[x])++X++C:=by simp
  rw[o];exact eG.of A1 j
theorem ab2(A X B Y C:List (EF Z))(a b m:Nat)(h1:X.length=Y.length)(e:A.length=a)(f:A.length+X.length+B.length=b)(g:X.length=m)(c:(A++X++B++Y++C).length=n)(d:n<=268435456):
 DC Z 310 [.sl 0 0 n none,zI a,zI b,zI m,.fn 29 [] []] (aC (jP (A++X++B++Y++C))) (.bV []) (aC (jP (A++Y++B++X++C))):=
 DoesC.VW V (by kernel_rfl) (eG.of (afY U W Z F V _ n a b m) (JG U W Z F V n a b m d X Y A B C 0 h1 (by omega) (by omega) (by omega) c)) (jB _) (jB _) rfl rfl
end
end
def tX{α:Type}(c:α->α->Int):List α->List α->Int
 |[],[]=>0
 |[],_::_=> -1
 |_::_,[]=>1
 |v::l,w::m=>dQ (c v w) (tX c l m)
section
variable{Z Y:Type}
theorem TO.pull{c:Y->Y->Int}(T:TO c)(f:Z->Y):TO (λa b=>c (f a) (f b)):=⟨λa=>T.refl _,λh=>T.flip h,λh=>T.Lj h,λh g=>T.trans h g⟩
theorem xJ{a b:Int}:dQ a b<0↔a<0∨(a=0∧b<0):=by unfold dQ;split<;>omega
theorem Eh{a b:Int}:0<dQ a b↔0<a∨(a=0∧0<b):=by unfold dQ;split<;>omega
theorem sO{a b:Int}:dQ a b<=0↔a<0∨(a=0∧b<=0):=by unfold dQ;split<;>omega
theorem TO.or{c d:Z->Z->Int}(T:TO c)(U:TO d):TO (λa b=>dQ (c a b) (d a b)):=by
 refine⟨λa=>by simp only[dQ,T.refl,U.refl];rfl,λ{a b} h=>?_,λ{a b} h=>?_,λ{a b e} h g=>?_⟩
 .rcases xJ.1 h with h|⟨h,h'⟩
  .exact Eh.2 (.inl (T.flip h))
  .exact Eh.2 (.inr ⟨T.zero h,U.flip h'⟩)
 .rcases Eh.1 h with h|⟨h,h'⟩
  .exact xJ.2 (.inl (T.Lj h))
  .exact xJ.2 (.inr ⟨T.zero h,U.Lj h'⟩)
 .rcases sO.1 h with h|⟨h,h'⟩<;>rcases sO.1 g with g|⟨g,g'⟩
  .exact sO.2 (.inl (T.AJ h (kC g)))
  .exact sO.2 (.inl (T.AJ h (iE g)))
  .exact sO.2 (.inl (T.EU (iE h) g))
  .exact sO.2 (.inr ⟨T.eq_trans h g,U.trans h' g'⟩)
theorem Jy{c:Z->Z->Int}(T:TO c):∀l,tX c l l=0
 |[]=>rfl
 |a::l=>by show dQ (c a a) (tX c l l)=0;rw[T.refl,Jy T l];rfl
theorem En{c:Z->Z->Int}(T:TO c):∀l m,(tX c l m<0->0<tX c m l)∧(0<tX c l m->tX c m l<0)
 |[],[]=>⟨λh=>aP h (show ¬(0:Int)<0 by decide),λh=>aP h (show ¬(0:Int)<0 by decide)⟩
 |[],_::_=>⟨λ_=>(show(0:Int)<1 by decide),λh=>aP h (show ¬(0:Int)< -1 by decide)⟩
 |_::_,[]=>⟨λh=>aP h (show ¬(1:Int)<0 by decide),λ_=>(show(-1:Int)<0 by decide)⟩
 |a::l,b::m=>by
  have d:=En T l m;refine⟨λh=>?_,λh=>?_⟩
  .rcases xJ.1 h with h|⟨h,h'⟩
   .exact Eh.2 (.inl (T.flip h))
   .exact Eh.2 (.inr ⟨T.zero h,d.1 h'⟩)
  .rcases Eh.1 h with h|⟨h,h'⟩
   .exact xJ.2 (.inl (T.Lj h))
   .exact xJ.2 (.inr ⟨T.zero h,d.2 h'⟩)
theorem G7{c:Z->Z->Int}(T:TO c):∀l m n,tX c l m<=0->tX c m n<=0->tX c l n<=0
 |[],_,[],_,_=>by show(0:Int)<=0;decide
 |[],_,_::_,_,_=>by show(-1:Int)<=0;decide
 |_::_,[],_,h,_=>aP h (by show ¬(1:Int)<=0;decide)
 |_::_,_::_,[],_,h=>aP h (by show ¬(1:Int)<=0;decide)
 |a::l,b::m,e::n,h,g=>by
  rcases sO.1 h with h|⟨h,h'⟩<;>rcases sO.1 g with g|⟨g,g'⟩
  .exact sO.2 (.inl (T.AJ h (kC g)))
  .exact sO.2 (.inl (T.AJ h (iE g)))
  .exact sO.2 (.inl (T.EU (iE h) g))
  .exact sO.2 (.inr ⟨T.eq_trans h g,G7 T l m n h' g'⟩)
theorem TO.lex{c:Z->Z->Int}(T:TO c):TO (tX c):=⟨Jy T,λh=>(En T _ _).1 h,λh=>(En T _ _).2 h,λh g=>G7 T _ _ _ h g⟩
end
theorem Ak:TO aL:=by
 refine⟨λa=>?_,λ{a b} h=>?_,λ{a b} h=>?_,λ{a b c} h g=>?_⟩<;>unfold aL at* <;>(repeat' split at*)<;>omega
def FL(a b:UInt8):Int:=if a<b then -1 else if b<a then 1 else 0
theorem Sm(a b:UInt8):FL a b=aL a.toNat b.toNat:=by
 unfold FL aL;simp only[UInt8.lt_iff_toNat_lt,Int.ofNat_lt,gt_iff_lt]
theorem Sl:TO FL:=by
 have:FL=λa b=>aL ((λx:UInt8=>(x.toNat:Int)) a) ((λx:UInt8=>(x.toNat:Int)) b):=by funext a b;exact Sm a b
 rw[this];exact Ak.pull _
def cmpL(s t:List UInt8):Int:=
 match(List.range (min s.length t.length)).find? λi=>s[i]?.getD default !=t[i]?.getD default with
 |some i=>if s[i]?.getD default<t[i]?.getD default then -1 else 1
 |none=>if s.length<t.length then -1 else if s.length>t.length then 1 else 0
theorem ZP(l:List UInt8)(i:Nat):(ByteArray.mk l.toArray)[i]! =l[i]?.getD default:=by
 by_cases h:i<l.length
 .have h':i<(ByteArray.mk l.toArray).size:=h
  rw[getElem!_pos (ByteArray.mk l.toArray) i h',aK h];rfl
 .have h':¬i<(ByteArray.mk l.toArray).size:=h
  rw[getElem!_neg (ByteArray.mk l.toArray) i h',gK (by omega)];rfl
theorem aci(s t:List UInt8):kN s t=cmpL s t:=by
 unfold kN Extern.BytealgCompare.cmp cmpL;simp only[ZP];rfl
theorem N9:∀s t,cmpL s t=tX FL s t
 |[],[]=>rfl
 |[],b::t=>by simp[cmpL,tX]
 |a::s,[]=>by simp[cmpL,tX]
 |a::s,b::t=>by
  have c:=N9 s t;show cmpL (a::s) (b::t)=dQ (FL a b) (tX FL s t);rw[← c];unfold cmpL;rw[show min (a::s).length (b::t).length=min s.length t.length+1 by simp,List.range_succ_eq_map,List.find?_cons];by_cases e:a=b
  .subst e
   have h0:((a::s)[0]?.getD default !=(a::t)[0]?.getD default)=false:=by simp
   rw[h0];simp only;rw[show FL a a=0 from Sl.refl a,show ∀z,dQ 0 z=z from λz=>rfl,List.find?_map];have d:((λi=>(a::s)[i]?.getD default !=(a::t)[i]?.getD default)∘Nat.succ)=λi=>s[i]?.getD default !=t[i]?.getD default:=by
    funext i;simp
   rw[d];cases f:(List.range (min s.length t.length)).find? λi=>s[i]?.getD default !=t[i]?.getD default with
   |none=>simp
   |some i=>simp
  .have h0:((a::s)[0]?.getD default !=(b::t)[0]?.getD default)=true:=by simpa using e
   rw[h0];simp only;show(if a<b then(-1:Int)else 1)=_;unfold FL dQ;by_cases g:a<b
   .simp[g]
   .have:b<a:=by
     rw[UInt8.lt_iff_toNat_lt]at g ⊢;have:a.toNat≠b.toNat:=λh=>e (UInt8.toNat_inj.1 h);omega
    simp[g,this]
theorem N8(s t:List UInt8):kN s t=tX FL s t:=(aci s t).trans (N9 s t)
theorem Gl:TO kN:=by
 have:kN=tX FL:=by funext s t;exact N8 s t
 rw[this];exact Sl.lex
theorem ZC:TO Jd:=(Ak.pull PV.k).or ((Ak.pull PV.m).or (Gl.pull PV.s))
theorem EH:∀l m,rA l m=tX Jd l m
 |[],[]=>rfl
 |[],_::_=>rfl
 |_::_,[]=>rfl
 |v::l,w::m=>by show dQ _ _=dQ _ _;rw[EH l m]
theorem Xd:TO rA:=by
 have:rA=tX Jd:=by funext s t;exact EH s t
 rw[this];exact ZC.lex
theorem xY:TO FK:=(Gl.pull PF.rel).or (Xd.pull PF.args)
theorem qN(old:Old):TO (kP (old:=old)):=xY.pull λx:EF old=>x.1.r
section
variable{n:Nat}
noncomputable def aas(n:Nat)(a b i:Int):AF:=(J7 (zI a) (.sl 0 0 n none) (zI i) (zI b))
noncomputable def ad3(n:Nat)(a b i j:Int):AF:=(J6 (zI a) (zI j) (.sl 0 0 n none) (zI i) (zI b))
section
variable(W:Fe)(Y:Ge)(Z:Old)(F:Fw Z)(X:Gw Z)
theorem Zq(x y:EF Z):AV.dX 0 [.agg (eZ x),.agg (eZ y)]=true:=kU λv a=>by
 rcases ay.1 a with rfl|a
 .exact kU (zi 0 x)
 .rcases ay.1 a with rfl|a
  .exact kU (zi 0 y)
  .cases a
include W Y F X
theorem EZ(x y:EF Z):∀h:AH,Nat.ble h.nx OLD=true->h.df=0->DC Z 29 [.agg (eZ x),.agg (eZ y)] h (zI (kP x y)) h:=λ_ a b=>DoesC.ov (c29 W Y Z F X x y) (Zq Z x y) rfl b a
theorem R9(n:Nat)(a b i:Nat)(t:n<=268435456)(A:List (EF Z))(u:A.length=a)(x:EF Z):∀(k:Nat) (P R:List (EF Z)) (j:Nat),P.length=k->a+P.length=j->(A++P++x::R).length=n->
 ∃f l,P=f++l∧(∀p∈l,kP x p<0)∧(∀p,f.getLast? =some p->¬kP x p<0)∧
  DS Z (ad3 n a b i j) ⟨zL (jP (A++P++x::R)),1,0⟩ (aas n a b (IntKind.i64.wrap (i+1))) ⟨zL (jP (A++f++x::l++R)),1,0⟩
 |0,P,R,j,o,hj,s=>by
  obtain rfl:=bB.1 o;refine⟨[],[],rfl,λ_ h=>(by cases h),λ_ h=>(by cases h),?_⟩;have:=fine W Y Z F X ((A++[]++x::R).flatMap eZ) n a b i j (aD (by simp at hj;omega));have m:A++[]++x::[]++R=A++[]++x::R:=by simp
  rw[m];exact this
 |k+1,P,R,j,o,hj,s=>by
  obtain⟨c,p,rfl⟩:∃c p,P=c++[p]:=by
   rcases List.eq_nil_or_concat P with rfl|⟨q,p,rfl⟩
   .cases o
   .exact⟨q,p,by simp⟩
  have r:=s;simp at o hj r;have v:A++(c++[p])++x::R=A++c++p::x::R:=by simp
  have e1:A++(c++[p])++x::R=(A++c++[p])++x::R:=by simp
  have w:(A++(c++[p])++x::R)[j]? =some x:=by
   rw[e1,show j=(A++c++[p]).length by simp;omega,nK]
  have y:(A++(c++[p])++x::R)[j - 1]? =some p:=by
   rw[v,show j - 1=(A++c).length by simp;omega,nK]
  have H:=FE Z w y;have w1:IntKind.i64.wrap ((j:Int) - 1)=((j - 1:Nat):Int):=by rw[dW (by omega) (by omega)];omega
  by_cases g:kP x p<0
  .have A1:=ags W Y Z F X _ _ _ _ _ n j (j - 1) a b i j (kP x p) rfl w1 (by omega) (by omega) H (EZ W Y Z F X x p) (aA (by omega)) (aA g)
   rw[w1]at A1;have e2:((A++(c++[p])++x::R).set j p).set (j - 1) x=A++c++x::(p::R):=by
    rw[e1,show j=(A++c++[p]).length by simp;omega,set_mid,show(A++c++[p]).length - 1=(A++c).length by simp,show A++c++[p]++p::R=(A++c)++p::(p::R)by simp,set_mid]
   rw[e2]at A1;obtain⟨f,l,e,z,h1,B⟩:=R9 n a b i t A u x k c (p::R) (j - 1) (by omega) (by omega) (by simp;omega);refine⟨f,l++[p],by rw[e];simp,λq d=>?_,h1,?_⟩
   .rcases bF.1 d with d|d
    .exact z q d
    .rw[bR.1 d];exact g
   .have m:A++f++x::(l++[p])++R=A++f++x::l++p::R:=by simp
    rw[m];exact DoesS.trans A1 B
  .have A1:=agr W Y Z F X _ _ _ _ _ n j (j - 1) a b i j (kP x p) rfl w1 (by omega) (by omega) H (EZ W Y Z F X x p) (aA (by omega)) (aD g)
   refine⟨c++[p],[],by simp,λ_ h=>(by cases h),λq d=>?_,?_⟩
   .simp at d;rw[← d];exact g
   .have m:A++(c++[p])++x::[]++R=A++(c++[p])++x::R:=by simp
    rw[m];exact A1
theorem NP(n:Nat)(a b:Nat)(k:n<=268435456)(A:List (EF Z))(l:A.length=a)(C:List (EF Z)):∀(T S:List (EF Z)) (i:Nat),o8 kP S->S≠[]->a+S.length=i->i+T.length=b->(A++S++T++C).length=n->
 ∃d,o8 kP d∧qz kP (S++T) d∧eG prog (E.wo Z) (aas n a b i) (jP (A++S++T++C)) (.bV []) (jP (A++d++C))
 |[],S,i,f,h0,hi,g,m=>by
  refine⟨S,f,by rw[bD];exact qz.refl _,?_⟩;rw[bD];have:=aei W Y Z F X ((A++S++C).flatMap eZ) n a b i (aD (by simp at g;omega));exact eG.it this (by kernel_rfl) rfl rfl
 |x::T,S,i,f,h0,hi,g,m=>by
  have c:=m;simp at c g;have A1:=agq W Y Z F X ((A++S++x::T++C).flatMap eZ) n a b i (aA (by omega));obtain⟨h,j,e,o,h1,B⟩:=R9 W Y Z F X n a b i k A l x _ S (T++C) i rfl hi (by simp;omega);obtain⟨p,q⟩:=Ws (qN Z) f e o h1;obtain⟨d,k1,r,D⟩:=NP n a b k A l C T (h++x::j) (i+1) p (by simp) (by rw[e]at hi;simp at hi ⊢;omega) (by omega) (by rw[e]at c;simp at c ⊢;omega);refine⟨d,k1,?_,?_⟩
  .have:=(q.append (qz.refl T)).trans r
   simpa using this
  .rw[show IntKind.i64.wrap ((i:Int)+1)=((i+1:Nat):Int)by rw[dW (by omega) (by omega)];omega]at B
   have s:A++S++x::(T++C)=A++S++x::T++C:=by simp
   have t:A++h++x::j++(T++C)=A++(h++x::j)++T++C:=by simp
   rw[s,t]at B;exact eG.of A1 (eG.of B D)
theorem WC(A U C:List (EF Z))(a b:Nat)(g:A.length=a)(f:A.length+U.length=b)(h:(A++U++C).length=n)(i:n<=268435456):∃d,o8 kP d∧qz kP U d∧
 DC Z 174 [.sl 0 0 n none,zI a,zI b,.fn 29 [] []] (aC (jP (A++U++C))) (.bV []) (aC (jP (A++d++C))):=by
 have c:=h;simp at c;have A1:=agt W Y Z F X ((A++U++C).flatMap eZ) n a b;rw[show IntKind.i64.wrap ((a:Int)+1)=((a+1:Nat):Int)by rw[dW (by omega) (by omega)];omega]at A1;cases U with
 |nil=>
  refine⟨[],List.Pairwise.nil,qz.refl _,?_⟩;have j:=aei W Y Z F X ((A++[]++C).flatMap eZ) n a b ((a+1:Nat):Int) (aD (by simp at f;omega));exact DoesC.VW X (by kernel_rfl) (eG.of A1 (eG.it j (by kernel_rfl) rfl rfl)) (jB _) (jB _) rfl rfl
 |cons x U=>
  obtain⟨k,k1,l,D⟩:=NP W Y Z F X n a b i A g C U [x] (a+1) (mI ..) (by simp) rfl (by simp at f;omega) (by simp at c ⊢;omega);have e:A++[x]++U++C=A++x::U++C:=by simp
  rw[e]at D;exact⟨k,k1,l,DoesC.VW X (by kernel_rfl) (eG.of A1 D) (jB _) (jB _) rfl rfl⟩
end
end
noncomputable def agB(eb n:Nat)(k:Int):AF:=(Sz eb k n)
noncomputable def agA(eb n:Nat)(p:Nat)(k a:Int):AF:=(Sy a eb k n p)
def I7:List AV:=[.str [],.aM]
theorem aay(eb n:Nat):AV.dX 1 [.sl 0 0 n none,.fn 61 [] [.ptr (OLD+eb) 0]]=true:=by
 show(true&&((true&&((Nat.blt (OLD+eb) 1||Nat.ble OLD (OLD+eb))&&true))&&true))=true;rw[aW (dZ _ _),jm];rfl
section
variable(V:Fe)(Y:Ge)(Z:Old)(F:Fw Z)(W:Gw Z)(X:Nat)(U:Z X 0=some (.fn 29 [] []))
include V Y F W
theorem WH(x y:EF Z):AV.dX 0 [.agg (eZ x),.agg (eZ y),.ptr (OLD+X) 0]=true:=by
 show(_&&(_&&((Nat.blt (OLD+X) 0||Nat.ble OLD (OLD+X))&&true)))=true;rw[aW (dZ _ _),jm];rfl
include U
theorem c61(x y:EF Z):DC Z 61 [.agg (eZ x),.agg (eZ y),.ptr (OLD+X) 0] eH (.bool (kP x y==0)) eH:=by
 have b:∀h:AH,loadT (E.wo Z) h 76 (OLD+X) 0=some (.fn 29 [] []):=λh=>gB (by kernel_rfl) U;cases h:kP x y==0
 .exact DoesC.drop (DoesC.ent W (by kernel_rfl) (adi V Y Z F W X x.1.a y.1.a x.1.r.args.length x.1.c y.1.r.args.length y.1.c x.1.r.rel y.1.r.rel _ b (c29 V Y Z F W x y) h)) [] (by kernel_rfl) (by kernel_rfl) (by kernel_rfl) rfl (by kernel_rfl) (WH V Y Z F W X x y) (by kernel_rfl)
 .exact DoesC.drop (DoesC.ent W (by kernel_rfl) (adj V Y Z F W X x.1.a y.1.a x.1.r.args.length x.1.c y.1.r.args.length y.1.c x.1.r.rel y.1.r.rel _ b (c29 V Y Z F W x y) h)) [] (by kernel_rfl) (by kernel_rfl) (by kernel_rfl) rfl (by kernel_rfl) (WH V Y Z F W X x y) (by kernel_rfl)
theorem Zp(x y:EF Z):∀h:AH,Nat.ble h.nx OLD=true->h.df=0->DC Z 61 [.agg (eZ x),.agg (eZ y),.ptr (OLD+X) 0] h (.bool (kP x y==0)) h:=λ_ a b=>DoesC.ov (c61 V Y Z F W X U x y) (WH V Y Z F W X x y) rfl b a
theorem acd(n p:Nat)(r:n<=268435456):∀(R O J:List (EF Z)) (k b:Nat) (a:EF Z),O.length=k->O.length+J.length+1=p+b->1<=b->0<k->(O++(J++a::R)).length=n->
 eG prog (E.wo Z) (agA X n p k b) (jP (O++(J++a::R))) (.sl 0 0 (O++xX kP a R).length none) (.cells ((O++xX kP a R).flatMap eZ++rep (n - (O++xX kP a R).length) I7) 25 true false)
 |[],O,J,k,b,a,h1,t,u,h,i=>by
  simp at i;have d:xX kP a []=[]:=rfl;rw[d,bD];have e:=Tk (enc:=eZ (old:=Z)) (z:=2) CW (zs:=I7) rfl rfl O (J++[a]) (el:=25) (g:=true) (k:=k) (m:=n - k) h1 (by simp;omega);have A1:=ael V Y Z F W X ((O++(J++[a])).flatMap eZ) _ n p k k b rfl h (by omega) (by omega) e (aD (by omega));rw[h1];exact eG.it A1 (by kernel_rfl) rfl rfl
 |x::R,O,J,k,b,a,h1,t,u,h,i=>by
  have o:=i;simp at o;have v:(O++(J++a::x::R))[p+b - 1]? =some a:=by
   rw[show O++(J++a::x::R)=(O++J)++a::x::R by simp,show p+b - 1=(O++J).length by simp;omega,nK]
  have w:(O++(J++a::x::R))[p+b]? =some x:=by
   rw[show O++(J++a::x::R)=(O++J++[a])++x::R by simp,show p+b=(O++J++[a]).length by simp;omega,nK]
  have H:=FE Z w v;have w1:IntKind.i64.wrap ((b:Int) - 1)=((b - 1:Nat):Int):=by rw[dW (by omega) (by omega)];omega
  have w2:IntKind.i64.wrap ((b:Int)+1)=((b+1:Nat):Int):=by rw[dW (by omega) (by omega)];omega
  have y:IntKind.i64.wrap ((k:Int)+1)=((k+1:Nat):Int):=by rw[dW (by omega) (by omega)];omega
  have e:=Bj (enc:=eZ (old:=Z)) (z:=2) CW (l:=O++(J++a::x::R)) (x:=k) x (by simp;omega) (JJ x) (el:=25) (g:=true);cases q:(kP x a==0)
  .have d:xX kP a (x::R)=x::xX kP x R:=WS q
   have A1:=ab8 V Y Z F W X _ _ _ _ _ n p (p+b) (p+b - 1) k k b (kP x a==0) (by omega) (by rw[w1];omega) (by omega) (by omega) (by omega) (by omega) rfl (by omega) H _ e (Zp V Y Z F W X U x a) (aA (by omega)) (by rw[q];rfl);rw[w2,y]at A1;obtain⟨j,c,s⟩:∃j c,J++[a]=j::c:=by
    cases J with
    |nil=>exact⟨a,[],rfl⟩
    |cons j J=>exact⟨j,J++[a],rfl⟩
   have A:c.length=J.length:=by have:=fZ List.length s;simp at this;omega
   have e1:O++(J++a::x::R)=O++j::(c++x::R):=by
    have:J++a::x::R=(J++[a])++x::R:=by simp
    rw[this,s];simp
   have e2:(O++(J++a::x::R)).set k x=(O++[x])++(c++x::R):=by
    rw[e1,← h1,set_mid];simp
   rw[e2]at A1;have f:=acd n p r R (O++[x]) c (k+1) (b+1) x (by simp;omega) (by simp;omega) (by omega) (by omega) (by simp;omega);have B:O++xX kP a (x::R)=O++[x]++xX kP x R:=by rw[d];simp
   rw[B];exact eG.of A1 f
  .have d:xX kP a (x::R)=xX kP x R:=WQ q
   have A1:=ab9 V Y Z F W X _ _ _ _ _ n p (p+b) (p+b - 1) k k b (kP x a==0) (by omega) (by rw[w1];omega) (by omega) (by omega) (by omega) (by omega) rfl (by omega) H _ e (Zp V Y Z F W X U x a) (aA (by omega)) (by rw[q];rfl);rw[w2]at A1;have f:=acd n p r R O (J++[a]) k (b+1) x h1 (by simp;omega) (by omega) h (by simp;omega);have C:O++(J++[a]++x::R)=O++(J++a::x::R):=by simp
   rw[d];rw[C]at f;exact eG.of A1 f
theorem aep(n:Nat)(h:n<=268435456):∀(R P:List (EF Z)) (k:Nat) (a:EF Z),P.length+1=k->(P++a::R).length=n->
 eG prog (E.wo Z) (agB X n k) (jP (P++a::R)) (.sl 0 0 (P++a::xX kP a R).length none) (.cells ((P++a::xX kP a R).flatMap eZ++rep (n - (P++a::xX kP a R).length) I7) 25 true false)
 |[],P,k,a,h1,d=>by
  have b:xX kP a []=[]:=rfl;have A1:=aem V Y Z F W X ((P++[a]).flatMap eZ) n k (aD (by simp at d;omega));rw[b,d,oN];show eG _ _ _ _ _ (.cells ((P++[a]).flatMap eZ++[]) 25 true false);rw[bD];exact eG.it A1 (by kernel_rfl) rfl rfl
 |x::R,P,k,a,h1,d=>by
  have e:=d;simp at e;have i:(P++a::x::R)[k - 1]? =some a:=by rw[show k - 1=P.length by omega,nK]
  have j:(P++a::x::R)[k]? =some x:=by
   rw[show P++a::x::R=(P++[a])++x::R by simp,show k=(P++[a]).length by simp;omega,nK]
  have H:=FE Z j i;have w1:IntKind.i64.wrap ((k:Int) - 1)=((k - 1:Nat):Int):=by rw[dW (by omega) (by omega)];omega
  have l:IntKind.i64.wrap ((k:Int)+1)=((k+1:Nat):Int):=by rw[dW (by omega) (by omega)];omega
  cases q:(kP x a==0)
  .have b:xX kP a (x::R)=x::xX kP x R:=WS q
   have A1:=aeo V Y Z F W X _ _ _ _ _ n k (k - 1) k (kP x a==0) rfl w1 (by omega) (by omega) (by omega) H (Zp V Y Z F W X U x a) (aA (by omega)) (by rw[q]);rw[l]at A1;have c:=aep n h R (P++[a]) (k+1) x (by simp;omega) (by simp;omega);have f:P++[a]++x::xX kP x R=P++a::xX kP a (x::R):=by rw[b];simp
   have g:P++[a]++x::R=P++a::x::R:=by simp
   rw[f,g]at c;exact eG.of A1 c
  .have b:xX kP a (x::R)=xX kP x R:=WQ q
   have A1:=aen V Y Z F W X _ _ _ _ _ n k (k - 1) k (kP x a==0) rfl w1 (by omega) (by omega) (by omega) H (Zp V Y Z F W X U x a) (aA (by omega)) (by rw[q]);have c:=acd V Y Z F W X U n k h R (P++[a]) [] k 1 x (by simp;omega) (by simp;omega) (by omega) (by omega) (by simp;omega);have f:P++[a]++xX kP x R=P++a::xX kP a (x::R):=by rw[b];simp
   have g:P++[a]++([]++x::R)=P++a::x::R:=by simp
   rw[f,g]at c;exact eG.of A1 c
theorem aar(l:List (EF Z))(m:Nat):fH 1 (zL (.cells (l.flatMap eZ++rep m I7) 25 true false))=true:=by
 show(true&&AV.dX 1 (l.flatMap eZ++rep m I7)&&true)=true;rw[kU λa b=>?_];rfl;rcases bF.1 b with b|b
 .obtain⟨x,_,c⟩:=oQ.1 b
  exact zi 1 x a c
 .exact KD (λa b=>by
   simp only[I7,ay,aB,bn]at b;rcases b with rfl|rfl<;>rfl) m a b
theorem agu(l:List (EF Z))(n:Nat)(c:l.length=n)(d:n<=268435456):
 DC Z 60 [.sl 0 0 n none,.fn 61 [] [.ptr (OLD+X) 0]] ⟨zL (jP l),1,0⟩ (.sl 0 0 (dd kP l).length none) ⟨zL (.cells ((dd kP l).flatMap eZ++rep (n - (dd kP l).length) I7) 25 true false),1,0⟩:=by
 by_cases g:n<2
 .have e:dd kP l=l:=by
   match l,c with
   |[],_=>rfl
   |[a],_=>rfl
   |a::b::l,c=>simp at c;omega
  have A1:=aek V Y Z F W X (l.flatMap eZ) n (aA (by omega));rw[e,c,oN];refine DoesC.VW (o:=jP l) (o2:= .cells (l.flatMap eZ++rep 0 I7) 25 true false) W (by kernel_rfl) ?_ (jB _) (aar V Y Z F W X U l 0) (aay X n) rfl;show eG _ _ _ _ _ (.cells (l.flatMap eZ++[]) 25 true false);rw[bD];exact eG.it A1 (by kernel_rfl) rfl rfl
 .cases l with
  |nil=>simp at c;omega
  |cons x r=>
   have A1:=aej V Y Z F W X ((x::r).flatMap eZ) n (aD (by omega));exact DoesC.VW W (by kernel_rfl) (eG.of A1 (aep V Y Z F W X U n d r [] 1 x rfl c)) (jB _) (aar V Y Z F W X U _ _) (aay X n) rfl
end
section
variable(Y:Fe)(Z:Ge)
include Y Z
section
variable(X:Old)(F:Fw X)(W:Gw X)
include X F W
theorem afZ(cs:List AV)(n:Nat)(m:Int):DS X (ent (E.wo X) 113 [.sl 0 0 n none,zI m,.fn 29 [] []]) (aC (aV cs)) (OB (zI 0) (zI m) (.sl 0 0 n none) (zI 20) (zI 20)) (aC (aV cs)):=
 jK F W [0,1,2,6,7,8] (Qn 13) (by kernel_rfl)
theorem ad7(cs c:List AV)(n:Nat)(m k a b:Int)(d:DC X 174 [.sl 0 0 n none,zI (a),zI (b),.fn 29 [] []] (aC (aV cs)) (.bV []) (aC (aV c)))(e:(decide (b<=m))=true):DS X (OB (zI a) (zI m) (.sl 0 0 n none) (zI b) (zI k)) (aC (aV cs)) (OB (zI b) (zI m) (.sl 0 0 n none) (zI (IntKind.i64.wrap (b+k))) (zI k)) (aC (aV c)):=
 jK F W [0,1,2,6,7,8] (Qb 5 e (Qk 10 d (Qn 14))) (by kernel_rfl)
theorem aav(cs c:List AV)(n:Nat)(m k a b:Int)(d:DC X 174 [.sl 0 0 n none,zI (a),zI (m),.fn 29 [] []] (aC (aV cs)) (.bV []) (aC (aV c)))(e:(decide (b<=m))=false):DS X (OB (zI a) (zI m) (.sl 0 0 n none) (zI b) (zI k)) (aC (aV cs)) (J5 (zI m) (.sl 0 0 n none) (zI k)) (aC (aV c)):=
 jK F W [0,1,2,6] (Qb 5 e (Qk 9 d (Qn 3))) (by kernel_rfl)
theorem ad6(cs:List AV)(n:Nat)(m k a b:Int)(c:(decide (k<m))=true):DS X (J5 (zI m) (.sl 0 0 n none) (zI k)) (aC (aV cs)) (J4 (zI 0) (zI m) (.sl 0 0 n none) (zI (IntKind.i64.wrap (2*k))) (zI k)) (aC (aV cs)):=
 jK F W [0,1,2,6,7,8] (Qb 5 c (Qn 14)) (by kernel_rfl)
theorem aau(cs:List AV)(n:Nat)(m k a b:Int)(c:(decide (k<m))=false):DR X (J5 (zI m) (.sl 0 0 n none) (zI k)) (aC (aV cs)) (.bV []) (aC (aV cs)):=
 prt F W (Qb 5 c (Qn 4)) (by kernel_rfl)
theorem ad5(cs c:List AV)(n:Nat)(m k a b:Int)(d:DC X 175 [.sl 0 0 n none,zI (a),zI (IntKind.i64.wrap (a+k)),zI (b),.fn 29 [] []] (aC (aV cs)) (.bV []) (aC (aV c)))(e:(decide (b<=m))=true):DS X (J4 (zI a) (zI m) (.sl 0 0 n none) (zI b) (zI k)) (aC (aV cs)) (J4 (zI b) (zI m) (.sl 0 0 n none) (zI (IntKind.i64.wrap (b+IntKind.i64.wrap (2*k)))) (zI k)) (aC (aV c)):=
 jK F W [0,1,2,6,7,8] (Qb 5 e (Qk 13 d (Qn 15))) (by kernel_rfl)
theorem aat(cs:List AV)(n:Nat)(m k a b:Int)(c:(decide (b<=m))=false)(o2:(decide (IntKind.i64.wrap (a+k)<m))=false):DS X (J4 (zI a) (zI m) (.sl 0 0 n none) (zI b) (zI k)) (aC (aV cs)) (J5 (zI m) (.sl 0 0 n none) (zI (IntKind.i64.wrap (k*2)))) (aC (aV cs)):=
 jK F W [0,1,2,6] (Qb 5 c (Qb 15 o2 (Qn 10))) (by kernel_rfl)
theorem ad4(cs c:List AV)(n:Nat)(m k a b:Int)(d:DC X 175 [.sl 0 0 n none,zI (a),zI (IntKind.i64.wrap (a+k)),zI (m),.fn 29 [] []] (aC (aV cs)) (.bV []) (aC (aV c)))(e:(decide (b<=m))=false)(o2:(decide (IntKind.i64.wrap (a+k)<m))=true):DS X (J4 (zI a) (zI m) (.sl 0 0 n none) (zI b) (zI k)) (aC (aV cs)) (J5 (zI m) (.sl 0 0 n none) (zI (IntKind.i64.wrap (k*2)))) (aC (aV c)):=
 jK F W [0,1,2,6] (Qb 5 e (Qb 15 o2 (Qk 8 d (Qn 8)))) (by kernel_rfl)
end
end
section
variable(Y:Fe)(Z:Ge)
include Y Z
section
variable(X:Old)(F:Fw X)(V:Gw X)(W:List AV)(n:Nat)(a b m:Int)
include X F V W n a b m
theorem adU(o1:(IntKind.i64.wrap (m - a)==1)=true):DS X (ent (E.wo X) 175 [.sl 0 0 n none,zI a,zI m,zI b,.fn 29 [] []]) (aC (aV W)) (Iy (zI b) (zI b) (zI a) (.sl 0 0 n none) (zI m) (zI m)) (aC (aV W)):=
 jK F V [0,1,2,3,4,10,11] (Qb 6 o1 (Qn 15)) (by kernel_rfl)
theorem adT(o1:(IntKind.i64.wrap (m - a)==1)=false)(o2:(IntKind.i64.wrap (b - m)==1)=true):DS X (ent (E.wo X) 175 [.sl 0 0 n none,zI a,zI m,zI b,.fn 29 [] []]) (aC (aV W)) (Iw (zI m) (zI b) (zI a) (.sl 0 0 n none) (zI m) (zI a)) (aC (aV W)):=
 jK F V [0,1,2,3,4,14,15] (Qb 6 o1 (Qb 9 o2 (Qn 15))) (by kernel_rfl)
theorem adS(o1:(IntKind.i64.wrap (m - a)==1)=false)(o2:(IntKind.i64.wrap (b - m)==1)=false)(c:(decide (m>IntKind.i64.wrap ((IntKind.u64.wrap (IntKind.i64.wrap (a+b))).fdiv 2)))=true):DS X (ent (E.wo X) 175 [.sl 0 0 n none,zI a,zI m,zI b,.fn 29 [] []]) (aC (aV W)) (OA (zI b) (zI (IntKind.i64.wrap (IntKind.i64.wrap ((IntKind.u64.wrap (IntKind.i64.wrap (a+b))).fdiv 2)+m))) (zI a) (zI (IntKind.i64.wrap ((IntKind.u64.wrap (IntKind.i64.wrap (a+b))).fdiv 2))) (.sl 0 0 n none) (zI (IntKind.i64.wrap (IntKind.i64.wrap (IntKind.i64.wrap ((IntKind.u64.wrap (IntKind.i64.wrap (a+b))).fdiv 2)+m) - b))) (zI m) (zI (IntKind.i64.wrap ((IntKind.u64.wrap (IntKind.i64.wrap (a+b))).fdiv 2))) (zI (IntKind.i64.wrap (IntKind.i64.wrap (IntKind.i64.wrap ((IntKind.u64.wrap (IntKind.i64.wrap (a+b))).fdiv 2)+m) - 1)))) (aC (aV W)):=
 jK F V [0,1,2,3,4,18,19,20,21,22] (Qb 6 o1 (Qb 9 o2 (Qb 30 c (Qn 22)))) (by kernel_rfl)
theorem adR(o1:(IntKind.i64.wrap (m - a)==1)=false)(o2:(IntKind.i64.wrap (b - m)==1)=false)(c:(decide (m>IntKind.i64.wrap ((IntKind.u64.wrap (IntKind.i64.wrap (a+b))).fdiv 2)))=false):DS X (ent (E.wo X) 175 [.sl 0 0 n none,zI a,zI m,zI b,.fn 29 [] []]) (aC (aV W)) (OA (zI b) (zI (IntKind.i64.wrap (IntKind.i64.wrap ((IntKind.u64.wrap (IntKind.i64.wrap (a+b))).fdiv 2)+m))) (zI a) (zI m) (.sl 0 0 n none) (zI a) (zI m) (zI (IntKind.i64.wrap ((IntKind.u64.wrap (IntKind.i64.wrap (a+b))).fdiv 2))) (zI (IntKind.i64.wrap (IntKind.i64.wrap (IntKind.i64.wrap ((IntKind.u64.wrap (IntKind.i64.wrap (a+b))).fdiv 2)+m) - 1)))) (aC (aV W)):=
 jK F V [0,1,2,3,4,18,19,20,21,22] (Qb 6 o1 (Qb 9 o2 (Qb 30 c (Qn 20)))) (by kernel_rfl)
end
section
variable(X:Old)(F:Fw X)(L:Gw X)(W U V S T:List AV)(n x y:Nat)(a b m i j z:Int)(N:IntKind.i64.wrap ((IntKind.u64.wrap (IntKind.i64.wrap (i+j))).fdiv 2)=(↑x:Int))(O:a=(↑y:Int))(P:x<n)(Q:y<n)(H:X5 (E.wo X) 25 2 W x y U V S T)(M:RX X 29 [.agg U,.agg V] (zI z))(R:(decide (i<j))=true)
include X F L W U V S T n x y a b m i j z N O P Q H M R
theorem ab1(o2:(decide (z<0))=true):DS X (Iy (zI b) (zI j) (zI a) (.sl 0 0 n none) (zI m) (zI i)) (aC (aV W)) (Iy (zI b) (zI j) (zI a) (.sl 0 0 n none) (zI m) (zI (IntKind.i64.wrap (IntKind.i64.wrap ((IntKind.u64.wrap (IntKind.i64.wrap (i+j))).fdiv 2)+1)))) (aC (aV W)):=
 jK F L [0,1,2,3,4,10,11] (Qb 5 R (Qd 15 [.c,.c,.c,.v (zP 0 (x*2)),.v (.agg U),.c,.c,.v (zP 0 (y*2)),.v (.agg V),.k (zI z) (aC (aV W)),.v (.bool true)] (Qq (yF X 0 none N P) (Qq (H.L (aC (aV W)) rfl) (Qq (yF X 0 none O Q) (Qq (H.M (aC (aV W)) rfl) (Qp (M (aC (aV W)) (by kernel_rfl) rfl) (Qq (Qc o2) (Qp (H.M (aC (aV W)) rfl) (Qp (H.L (aC (aV W)) rfl) (Qn 8))))))))))) (by kernel_rfl)
theorem ab0(o2:(decide (z<0))=false):DS X (Iy (zI b) (zI j) (zI a) (.sl 0 0 n none) (zI m) (zI i)) (aC (aV W)) (Iy (zI b) (zI (IntKind.i64.wrap ((IntKind.u64.wrap (IntKind.i64.wrap (i+j))).fdiv 2))) (zI a) (.sl 0 0 n none) (zI m) (zI i)) (aC (aV W)):=
 jK F L [0,1,2,3,4,10,11] (Qb 5 R (Qd 15 [.c,.c,.c,.v (zP 0 (x*2)),.v (.agg U),.c,.c,.v (zP 0 (y*2)),.v (.agg V),.k (zI z) (aC (aV W)),.v (.bool false)] (Qq (yF X 0 none N P) (Qq (H.L (aC (aV W)) rfl) (Qq (yF X 0 none O Q) (Qq (H.M (aC (aV W)) rfl) (Qp (M (aC (aV W)) (by kernel_rfl) rfl) (Qq (Qc o2) (Qp (H.M (aC (aV W)) rfl) (Qp (H.L (aC (aV W)) rfl) (Qn 7))))))))))) (by kernel_rfl)
end
section
variable(X:Old)(F:Fw X)(W:Gw X)
include X F W
theorem abZ(cs:List AV)(n:Nat)(a b m i j:Int)(o1:(decide (i<j))=false):DS X (Iy (zI b) (zI j) (zI a) (.sl 0 0 n none) (zI m) (zI i)) (aC (aV cs)) (Oz (zI b) (zI a) (zI a) (.sl 0 0 n none) (zI m) (zI i)) (aC (aV cs)):=
 jK F W [0,1,2,3,4,10,13] (Qb 5 o1 (Qn 11)) (by kernel_rfl)
theorem abP(cs cx cy cs1 cs2:List AV)(n x y:Nat)(a b m i k:Int)(hx:k=(↑x:Int))(hy:IntKind.i64.wrap (k+1)=(↑y:Int))(lx:x<n)(ly:y<n)(H:X5 (E.wo X) 25 2 cs x y cx cy cs1 cs2)(o1:(decide (k<IntKind.i64.wrap (i - 1)))=true):DS X (Oz (zI b) (zI a) (zI k) (.sl 0 0 n none) (zI m) (zI i)) (aC (aV cs)) (Oz (zI b) (zI a) (zI (IntKind.i64.wrap (k+1))) (.sl 0 0 n none) (zI m) (zI i)) (aC (aV cs2)):=
 jK F W [0,1,2,3,4,10,13] (Qb 6 o1 (Qd 5 [.c,.c,.c,.c,.c,.c,.c,.c,.v (zP 0 (y*2)),.v (.agg cy),.c,.c,.v (zP 0 (x*2)),.v (.agg cx),.v (zP 0 (x*2)),.l (.bV []) (aC (aV cs1)),.v (zP 0 (y*2)),.l (.bV []) (aC (aV cs2))] (Qq (yF X 0 none hy ly) (Qq (H.M (aC (aV cs)) rfl) (Qq (yF X 0 none hx lx) (Qq (H.L (aC (aV cs)) rfl) (Qq (yF X 0 none hx lx) (Qz (Qp (jR (by kernel_rfl) H.ly H.S:fU (E.wo X) (aC (aV cs)) 25 (zP 0 (x*2)) (.agg cy)=some (.val (.bV []) (aC (aV cs1)))) (Qq (yF X 0 none hy ly) (Qz (Qp (jR (by kernel_rfl) H.lx H.T:fU (E.wo X) (aC (aV cs1)) 25 (zP 0 (y*2)) (.agg cx)=some (.val (.bV []) (aC (aV cs2)))) (Qp (H.L (aC (aV cs)) rfl) (Qp (H.M (aC (aV cs)) rfl) (Qn 7))))))))))))))) (by kernel_rfl)
theorem abO(cs:List AV)(n:Nat)(a b m i k:Int)(o1:(decide (k<IntKind.i64.wrap (i - 1)))=false):DR X (Oz (zI b) (zI a) (zI k) (.sl 0 0 n none) (zI m) (zI i)) (aC (aV cs)) (.bV []) (aC (aV cs)):=
 prt F W (Qb 6 o1 (Qn 4)) (by kernel_rfl)
end
section
variable(X:Old)(F:Fw X)(L:Gw X)(W U V S T:List AV)(n x y:Nat)(a b m i j z:Int)(N:m=(↑x:Int))(O:IntKind.i64.wrap ((IntKind.u64.wrap (IntKind.i64.wrap (i+j))).fdiv 2)=(↑y:Int))(P:x<n)(Q:y<n)(H:X5 (E.wo X) 25 2 W x y U V S T)(M:RX X 29 [.agg U,.agg V] (zI z))(R:(decide (i<j))=true)
include X F L W U V S T n x y a b m i j z N O P Q H M R
theorem abY(o2:(decide (z<0))=true):DS X (Iw (zI j) (zI b) (zI a) (.sl 0 0 n none) (zI m) (zI i)) (aC (aV W)) (Iw (zI (IntKind.i64.wrap ((IntKind.u64.wrap (IntKind.i64.wrap (i+j))).fdiv 2))) (zI b) (zI a) (.sl 0 0 n none) (zI m) (zI i)) (aC (aV W)):=
 jK F L [0,1,2,3,4,14,15] (Qb 5 R (Qd 15 [.c,.c,.c,.v (zP 0 (x*2)),.v (.agg U),.c,.c,.v (zP 0 (y*2)),.v (.agg V),.k (zI z) (aC (aV W)),.v (.bool true),.c] (Qq (yF X 0 none N P) (Qq (H.L (aC (aV W)) rfl) (Qq (yF X 0 none O Q) (Qq (H.M (aC (aV W)) rfl) (Qp (M (aC (aV W)) (by kernel_rfl) rfl) (Qq (Qc o2) (Qp (H.M (aC (aV W)) rfl) (Qp (H.L (aC (aV W)) rfl) (Qn 7))))))))))) (by kernel_rfl)
theorem abX(o2:(decide (z<0))=false):DS X (Iw (zI j) (zI b) (zI a) (.sl 0 0 n none) (zI m) (zI i)) (aC (aV W)) (Iw (zI j) (zI b) (zI a) (.sl 0 0 n none) (zI m) (zI (IntKind.i64.wrap (IntKind.i64.wrap ((IntKind.u64.wrap (IntKind.i64.wrap (i+j))).fdiv 2)+1)))) (aC (aV W)):=
 jK F L [0,1,2,3,4,14,15] (Qb 5 R (Qd 15 [.c,.c,.c,.v (zP 0 (x*2)),.v (.agg U),.c,.c,.v (zP 0 (y*2)),.v (.agg V),.k (zI z) (aC (aV W)),.v (.bool false),.c] (Qq (yF X 0 none N P) (Qq (H.L (aC (aV W)) rfl) (Qq (yF X 0 none O Q) (Qq (H.M (aC (aV W)) rfl) (Qp (M (aC (aV W)) (by kernel_rfl) rfl) (Qq (Qc o2) (Qp (H.M (aC (aV W)) rfl) (Qp (H.L (aC (aV W)) rfl) (Qn 8))))))))))) (by kernel_rfl)
end
section
variable(X:Old)(F:Fw X)(W:Gw X)
include X F W
theorem abW(cs:List AV)(n:Nat)(a b m i j:Int)(o1:(decide (i<j))=false):DS X (Iw (zI j) (zI b) (zI a) (.sl 0 0 n none) (zI m) (zI i)) (aC (aV cs)) (Oy (zI b) (zI a) (zI m) (.sl 0 0 n none) (zI m) (zI i)) (aC (aV cs)):=
 jK F W [0,1,2,3,4,14,17] (Qb 5 o1 (Qn 11)) (by kernel_rfl)
theorem abN(cs cx cy cs1 cs2:List AV)(n x y:Nat)(a b m i k:Int)(hx:k=(↑x:Int))(hy:IntKind.i64.wrap (k - 1)=(↑y:Int))(lx:x<n)(ly:y<n)(H:X5 (E.wo X) 25 2 cs x y cx cy cs1 cs2)(o1:(decide (k>i))=true):DS X (Oy (zI b) (zI a) (zI k) (.sl 0 0 n none) (zI m) (zI i)) (aC (aV cs)) (Oy (zI b) (zI a) (zI (IntKind.i64.wrap (k - 1))) (.sl 0 0 n none) (zI m) (zI i)) (aC (aV cs2)):=
 jK F W [0,1,2,3,4,14,17] (Qb 5 o1 (Qd 5 [.c,.c,.c,.c,.c,.c,.c,.c,.v (zP 0 (y*2)),.v (.agg cy),.c,.c,.v (zP 0 (x*2)),.v (.agg cx),.v (zP 0 (x*2)),.l (.bV []) (aC (aV cs1)),.v (zP 0 (y*2)),.l (.bV []) (aC (aV cs2))] (Qq (yF X 0 none hy ly) (Qq (H.M (aC (aV cs)) rfl) (Qq (yF X 0 none hx lx) (Qq (H.L (aC (aV cs)) rfl) (Qq (yF X 0 none hx lx) (Qz (Qp (jR (by kernel_rfl) H.ly H.S:fU (E.wo X) (aC (aV cs)) 25 (zP 0 (x*2)) (.agg cy)=some (.val (.bV []) (aC (aV cs1)))) (Qq (yF X 0 none hy ly) (Qz (Qp (jR (by kernel_rfl) H.lx H.T:fU (E.wo X) (aC (aV cs1)) 25 (zP 0 (y*2)) (.agg cx)=some (.val (.bV []) (aC (aV cs2)))) (Qp (H.L (aC (aV cs)) rfl) (Qp (H.M (aC (aV cs)) rfl) (Qn 7))))))))))))))) (by kernel_rfl)
theorem abM(cs:List AV)(n:Nat)(a b m i k:Int)(o1:(decide (k>i))=false):DR X (Oy (zI b) (zI a) (zI k) (.sl 0 0 n none) (zI m) (zI i)) (aC (aV cs)) (.bV []) (aC (aV cs)):=
 prt F W (Qb 5 o1 (Qn 4)) (by kernel_rfl)
end
section
variable(X:Old)(F:Fw X)(J:Gw X)(W S T Q R:List AV)(n x y:Nat)(a b m V U s r p z:Int)(L:IntKind.i64.wrap (p - IntKind.i64.wrap ((IntKind.u64.wrap (IntKind.i64.wrap (s+r))).fdiv 2))=(↑x:Int))(M:IntKind.i64.wrap ((IntKind.u64.wrap (IntKind.i64.wrap (s+r))).fdiv 2)=(↑y:Int))(N:x<n)(O:y<n)(H:X5 (E.wo X) 25 2 W x y S T Q R)(K:RX X 29 [.agg S,.agg T] (zI z))(P:(decide (s<r))=true)
include X F J W S T Q R n x y a b m V U s r p z L M N O H K P
theorem abV(o2:(decide (z<0))=true):DS X (J2 b U a r n s m V p) (aC (aV W)) (OA (zI b) (zI U) (zI a) (zI (IntKind.i64.wrap ((IntKind.u64.wrap (IntKind.i64.wrap (s+r))).fdiv 2))) (.sl 0 0 n none) (zI s) (zI m) (zI V) (zI p)) (aC (aV W)):=
 jK F J [0,1,2,3,4,18,19,20,21,22] (Qb 5 P (Qd 15 [.c,.c,.c,.c,.c,.v (zP 0 (x*2)),.v (.agg S),.c,.c,.v (zP 0 (y*2)),.v (.agg T),.k (zI z) (aC (aV W)),.v (.bool true),.c] (Qq (yF X 0 none L N) (Qq (H.L (aC (aV W)) rfl) (Qq (yF X 0 none M O) (Qq (H.M (aC (aV W)) rfl) (Qp (K (aC (aV W)) (by kernel_rfl) rfl) (Qq (Qc o2) (Qp (H.M (aC (aV W)) rfl) (Qp (H.L (aC (aV W)) rfl) (Qn 7))))))))))) (by kernel_rfl)
theorem abU(o2:(decide (z<0))=false):DS X (J2 b U a r n s m V p) (aC (aV W)) (OA (zI b) (zI U) (zI a) (zI r) (.sl 0 0 n none) (zI (IntKind.i64.wrap (IntKind.i64.wrap ((IntKind.u64.wrap (IntKind.i64.wrap (s+r))).fdiv 2)+1))) (zI m) (zI V) (zI p)) (aC (aV W)):=
 jK F J [0,1,2,3,4,18,19,20,21,22] (Qb 5 P (Qd 15 [.c,.c,.c,.c,.c,.v (zP 0 (x*2)),.v (.agg S),.c,.c,.v (zP 0 (y*2)),.v (.agg T),.k (zI z) (aC (aV W)),.v (.bool false),.c] (Qq (yF X 0 none L N) (Qq (H.L (aC (aV W)) rfl) (Qq (yF X 0 none M O) (Qq (H.M (aC (aV W)) rfl) (Qp (K (aC (aV W)) (by kernel_rfl) rfl) (Qq (Qc o2) (Qp (H.M (aC (aV W)) rfl) (Qp (H.L (aC (aV W)) rfl) (Qn 8))))))))))) (by kernel_rfl)
end
section
variable(X:Old)(F:Fw X)(W:Gw X)
include X F W
theorem adQ(cs:List AV)(n:Nat)(a b m mid nn s r p e:Int)(o1:(decide (s<r))=false)(o2:(decide (s<m))=false):DS X (J2 b nn a r n s m mid p) (aC (aV cs)) (Iu (zI b) (zI a) (.sl 0 0 n none) (zI (IntKind.i64.wrap (nn - s))) (zI s) (zI m) (zI mid)) (aC (aV cs)):=
 jK F W [0,1,2,3,4,18,20,24] (Qb 5 o1 (Qb 15 o2 (Qn 8))) (by kernel_rfl)
theorem adP(cs:List AV)(n:Nat)(a b m mid nn s r p e:Int)(o1:(decide (s<r))=false)(o2:(decide (s<m))=true)(c:(decide (m<IntKind.i64.wrap (nn - s)))=false):DS X (J2 b nn a r n s m mid p) (aC (aV cs)) (Iu (zI b) (zI a) (.sl 0 0 n none) (zI (IntKind.i64.wrap (nn - s))) (zI s) (zI m) (zI mid)) (aC (aV cs)):=
 jK F W [0,1,2,3,4,18,20,24] (Qb 5 o1 (Qb 15 o2 (Qb 3 c (Qn 4)))) (by kernel_rfl)
theorem adO(cs cs1:List AV)(n:Nat)(a b m mid nn s r p e:Int)(c:DC X 250 [.sl 0 0 n none,zI (s),zI (m),zI (IntKind.i64.wrap (nn - s)),.fn 29 [] []] (aC (aV cs)) (.bV []) (aC (aV cs1)))(o1:(decide (s<r))=false)(o2:(decide (s<m))=true)(d:(decide (m<IntKind.i64.wrap (nn - s)))=true):DS X (J2 b nn a r n s m mid p) (aC (aV cs)) (Iu (zI b) (zI a) (.sl 0 0 n none) (zI (IntKind.i64.wrap (nn - s))) (zI s) (zI m) (zI mid)) (aC (aV cs1)):=
 jK F W [0,1,2,3,4,18,20,24] (Qb 5 o1 (Qb 15 o2 (Qb 3 d (Qk 9 c (Qn 1))))) (by kernel_rfl)
theorem adN(cs:List AV)(n:Nat)(a b m mid nn s r p e:Int)(o1:(decide (a<s))=false):DS X (Iu (zI b) (zI a) (.sl 0 0 n none) (zI e) (zI s) (zI m) (zI mid)) (aC (aV cs)) (Iq b a n e m mid) (aC (aV cs)):=
 jK F W [0,1,2,3,4,18,24] (Qb 5 o1 (Qn 8)) (by kernel_rfl)
theorem adM(cs:List AV)(n:Nat)(a b m mid nn s r p e:Int)(o1:(decide (a<s))=true)(o2:(decide (s<mid))=false):DS X (Iu (zI b) (zI a) (.sl 0 0 n none) (zI e) (zI s) (zI m) (zI mid)) (aC (aV cs)) (Iq b a n e m mid) (aC (aV cs)):=
 jK F W [0,1,2,3,4,18,24] (Qb 5 o1 (Qb 3 o2 (Qn 4))) (by kernel_rfl)
theorem adL(cs cs1:List AV)(n:Nat)(a b m mid nn s r p e:Int)(c:DC X 175 [.sl 0 0 n none,zI (a),zI (s),zI (mid),.fn 29 [] []] (aC (aV cs)) (.bV []) (aC (aV cs1)))(o1:(decide (a<s))=true)(o2:(decide (s<mid))=true):DS X (Iu (zI b) (zI a) (.sl 0 0 n none) (zI e) (zI s) (zI m) (zI mid)) (aC (aV cs)) (Iq b a n e m mid) (aC (aV cs1)):=
 jK F W [0,1,2,3,4,18,24] (Qb 5 o1 (Qb 3 o2 (Qk 9 c (Qn 1)))) (by kernel_rfl)
theorem adK(cs:List AV)(n:Nat)(a b m mid nn s r p e:Int)(o1:(decide (mid<e))=false):DR X (Iq b a n e m mid) (aC (aV cs)) (.bV []) (aC (aV cs)):=
 prt F W (Qb 4 o1 (Qn 9)) (by kernel_rfl)
theorem adJ(cs:List AV)(n:Nat)(a b m mid nn s r p e:Int)(o1:(decide (mid<e))=true)(o2:(decide (e<b))=false):DR X (Iq b a n e m mid) (aC (aV cs)) (.bV []) (aC (aV cs)):=
 prt F W (Qb 4 o1 (Qb 3 o2 (Qn 5))) (by kernel_rfl)
theorem adI(cs cs1:List AV)(n:Nat)(a b m mid nn s r p e:Int)(c:DC X 175 [.sl 0 0 n none,zI (mid),zI (e),zI (b),.fn 29 [] []] (aC (aV cs)) (.bV []) (aC (aV cs1)))(o1:(decide (mid<e))=true)(o2:(decide (e<b))=true):DR X (Iq b a n e m mid) (aC (aV cs)) (.bV []) (aC (aV cs1)):=
 prt F W (Qb 4 o1 (Qb 3 o2 (Qk 9 c (Qn 2)))) (by kernel_rfl)
end
end
section
variable(Y:Fe)(Z:Ge)
include Y Z
section
variable(X:Old)(F:Fw X)(W:Gw X)
include X F W
theorem af7(cs:List AV)(n:Nat)(a b m:Int):DS X (ent (E.wo X) 250 [.sl 0 0 n none,zI a,zI m,zI b,.fn 29 [] []]) (aC (aV cs)) (Ir (zI b) (zI (IntKind.i64.wrap (b - m))) (zI a) (.sl 0 0 n none) (zI m) (zI (IntKind.i64.wrap (m - a)))) (aC (aV cs)):=
 jK F W [0,1,2,3,4,10,11] (Qn 17) (by kernel_rfl)
theorem af9(cs c:List AV)(n:Nat)(a b m i j:Int)(d:DC X 310 [.sl 0 0 n none,zI (IntKind.i64.wrap (m - i)),zI (m),zI (j),.fn 29 [] []] (aC (aV cs)) (.bV []) (aC (aV c)))(e:(i !=j)=true)(o2:(decide (i>j))=true):DS X (Ir (zI b) (zI j) (zI a) (.sl 0 0 n none) (zI m) (zI i)) (aC (aV cs)) (Ir (zI b) (zI j) (zI a) (.sl 0 0 n none) (zI m) (zI (IntKind.i64.wrap (i - j)))) (aC (aV c)):=
 jK F W [0,1,2,3,4,10,11] (Qb 5 e (Qb 8 o2 (Qk 11 d (Qn 9)))) (by kernel_rfl)
theorem af8(cs c:List AV)(n:Nat)(a b m i j:Int)(d:DC X 310 [.sl 0 0 n none,zI (IntKind.i64.wrap (m - i)),zI (IntKind.i64.wrap (IntKind.i64.wrap (m+j) - i)),zI (i),.fn 29 [] []] (aC (aV cs)) (.bV []) (aC (aV c)))(e:(i !=j)=true)(o2:(decide (i>j))=false):DS X (Ir (zI b) (zI j) (zI a) (.sl 0 0 n none) (zI m) (zI i)) (aC (aV cs)) (Ir (zI b) (zI (IntKind.i64.wrap (j - i))) (zI a) (.sl 0 0 n none) (zI m) (zI i)) (aC (aV c)):=
 jK F W [0,1,2,3,4,10,11] (Qb 5 e (Qb 8 o2 (Qk 15 d (Qn 9)))) (by kernel_rfl)
theorem aga(cs c:List AV)(n:Nat)(a b m i j:Int)(d:DC X 310 [.sl 0 0 n none,zI (IntKind.i64.wrap (m - i)),zI (m),zI (i),.fn 29 [] []] (aC (aV cs)) (.bV []) (aC (aV c)))(e:(i !=j)=false):DR X (Ir (zI b) (zI j) (zI a) (.sl 0 0 n none) (zI m) (zI i)) (aC (aV cs)) (.bV []) (aC (aV c)):=
 prt F W (Qb 5 e (Qk 11 d (Qn 2))) (by kernel_rfl)
end
end
section
variable{n:Nat}
noncomputable def ad2(n:Nat)(a b m i j:Int):AF:=(Ir (zI b) (zI j) (zI a) (.sl 0 0 n none) (zI m) (zI i))
section
variable(W:Fe)(Y:Ge)(Z:Old)(F:Fw Z)(X:Gw Z)
include W Y F X
theorem EA(n:Nat)(a b m:Nat)(d:n<=268435456):∀(k:Nat) (A U V C:List (EF Z)) (i j:Nat),U.length+V.length<=k->0<U.length->0<V.length->U.length=i->V.length=j->A.length+i=m->(A++U++V++C).length=n->
 eG prog (E.wo Z) (ad2 n a b m i j) (jP (A++U++V++C)) (.bV []) (jP (A++V++U++C))
 |0,A,U,V,C,i,j,h0,h1,s,f,h,r,l=>by omega
 |k+1,A,U,V,C,i,j,h0,h1,s,f,h,r,l=>by
  have c:=l;simp at c;have hp:A.length+U.length+(V.length+C.length)<=268435456:=by omega
  have w1:IntKind.i64.wrap ((m:Int) - i)=((A.length:Nat):Int):=by rw[dW (by omega) (by omega)];omega
  by_cases e:i=j
  .have S:=ab2 W Y Z F X A U [] V C (n:=n) A.length m i (by omega) rfl (by simp;omega) f (by simpa using l) d
   rw[bD,bD]at S;have A1:=aga W Y Z F X ((A++U++V++C).flatMap eZ) ((A++V++U++C).flatMap eZ) n a b m i j (by rw[w1];exact S) (by simp;omega);exact eG.it A1 (by kernel_rfl) rfl rfl
  .by_cases g:i>j
   .obtain⟨P,Q,rfl,o⟩:∃P Q,U=P++Q∧P.length=j:=⟨U.take j,U.drop j,(fq ..).symm,by simp;omega⟩
    simp at f c h0;have S:=ab2 W Y Z F X A P Q V C (n:=n) A.length m j (by omega) rfl (by omega) (by omega) (by simp;omega) d;have A1:=af9 W Y Z F X ((A++(P++Q)++V++C).flatMap eZ) ((A++V++Q++P++C).flatMap eZ) n a b m i j (by rw[w1];rw[fC A P Q]at S;exact S) (by simp;omega) (aA (by omega));have p:=EA n a b m d k (A++V) Q P C (i - j) j (by omega) (by omega) (by omega) (by omega) o (by simp;omega) (by simp;omega);rw[show IntKind.i64.wrap ((i:Int) - j)=((i - j:Nat):Int)by rw[dW (by omega) (by omega)];omega]at A1;have q:A++V++(P++Q)++C=A++V++P++Q++C:=by simp
    rw[q];exact eG.of A1 p
   .obtain⟨P,Q,rfl,o,t⟩:∃P Q,V=P++Q∧P.length=j - i∧Q.length=i:=⟨V.take (j - i),V.drop (j - i),(fq ..).symm,by simp;omega,by simp;omega⟩
    simp at c h0;have S:=ab2 W Y Z F X A U P Q C (n:=n) A.length (m+j - i) i (by omega) rfl (by omega) (by omega) (by simp;omega) d;have w2:IntKind.i64.wrap (IntKind.i64.wrap ((m:Int)+j) - i)=((m+j - i:Nat):Int):=by
     simp at h;rw[dW (z:=(m:Int)+j) (by omega) (by omega),dW (by omega) (by omega)];omega
    have A1:=af8 W Y Z F X ((A++U++(P++Q)++C).flatMap eZ) ((A++Q++P++U++C).flatMap eZ) n a b m i j (by rw[w1,w2];rw[fC (A++U) P Q]at S;exact S) (by simp;omega) (aD (by omega));simp at h;have p:=EA n a b m d k A Q P (U++C) i (j - i) (by omega) (by omega) (by omega) t o r (by simp;omega);rw[show IntKind.i64.wrap ((j:Int) - i)=((j - i:Nat):Int)by rw[dW (by omega) (by omega)];omega]at A1;have q:A++(P++Q)++U++C=A++P++Q++(U++C):=by simp
    have u:A++Q++P++U++C=A++Q++P++(U++C):=by simp
    rw[q];rw[u]at A1;exact eG.of A1 p
theorem af6(A U V C:List (EF Z))(a m b:Nat)(e:U≠[])(f:V≠[])(i:A.length=a)(g:A.length+U.length=m)(j:A.length+U.length+V.length=b)(d:(A++U++V++C).length=n)(h:n<=268435456):
 DC Z 250 [.sl 0 0 n none,zI a,zI m,zI b,.fn 29 [] []] (aC (jP (A++U++V++C))) (.bV []) (aC (jP (A++V++U++C))):=by
 have c:=d;simp at c;have A1:=af7 W Y Z F X ((A++U++V++C).flatMap eZ) n a b m;rw[show IntKind.i64.wrap ((m:Int) - a)=((U.length:Nat):Int)by rw[dW (by omega) (by omega)];omega,show IntKind.i64.wrap ((b:Int) - m)=((V.length:Nat):Int)by rw[dW (by omega) (by omega)];omega]at A1;exact DoesC.VW X (by kernel_rfl) (eG.of A1 (EA W Y Z F X n a b m h _ A U V C _ _ (ah _) (bY.2 e) (bY.2 f) rfl rfl g d)) (jB _) (jB _) rfl rfl
end
end
section
variable{n x:Nat}
noncomputable def aex(n:Nat)(a b m i j:Int):AF:=(Iy (zI b) (zI j) (zI a) (.sl 0 0 n none) (zI m) (zI i))
noncomputable def aew(n:Nat)(a b m i k:Int):AF:=(Oz (zI b) (zI a) (zI k) (.sl 0 0 n none) (zI m) (zI i))
noncomputable def aev(n:Nat)(a b m i j:Int):AF:=(Iw (zI j) (zI b) (zI a) (.sl 0 0 n none) (zI m) (zI i))
noncomputable def aeu(n:Nat)(a b m i k:Int):AF:=(Oy (zI b) (zI a) (zI k) (.sl 0 0 n none) (zI m) (zI i))
noncomputable def WI(n:Nat)(a b m mid c s r p:Int):AF:=(J2 b c a r n s m mid p)
noncomputable def aes(n:Nat)(a b m mid s e:Int):AF:=(Iu (zI b) (zI a) (.sl 0 0 n none) (zI e) (zI s) (zI m) (zI mid))
noncomputable def aer(n:Nat)(a b m mid e:Int):AF:=(Iq b a n e m mid)
section
variable(Q:Fe)(Y:Ge)(Z:Old)(F:Fw Z)(X:Gw Z)
def Li(D:List (EF Z))(x y:Nat):Bool:=match D[x]?,D[y]? with |some a,some b=>decide (kP a b<0)|_,_=>false
theorem kV{D:List (EF Z)}{y:Nat}{a b:EF Z}(c:D[x]? =some a)(d:D[y]? =some b):Li Z D x y=decide (kP a b<0):=by unfold Li;rw[c,d]
include Q Y F X
theorem R6(n:Nat)(a b m:Nat)(g:n<=268435456)(i:Nat)(u:EF Z):∀(W A R:List (EF Z)) (k:Nat),A.length=k->k+W.length+1=i->(A++u::W++R).length=n->
 eG prog (E.wo Z) (aew n a b m i k) (jP (A++u::W++R)) (.bV []) (jP (A++W++u::R))
 |[],A,R,k,h1,c,d=>by
  have w1:IntKind.i64.wrap ((i:Int) - 1)=((i - 1:Nat):Int):=by simp at c d;rw[dW (by omega) (by omega)];omega
  have:=abO Q Y Z F X ((A++[u]++R).flatMap eZ) n a b m i k (aD (by rw[w1];simp at c;omega));have e:A++[]++u::R=A++[u]++R:=by simp
  rw[e];exact eG.it this (by kernel_rfl) rfl rfl
 |w::W,A,R,k,h1,c,d=>by
  simp at c d;have w1:IntKind.i64.wrap ((i:Int) - 1)=((i - 1:Nat):Int):=by rw[dW (by omega) (by omega)];omega
  have w2:IntKind.i64.wrap ((k:Int)+1)=((k+1:Nat):Int):=by rw[dW (by omega) (by omega)];omega
  have f:A++u::w::W++R=A++u::(w::W++R):=by simp
  have h:(A++u::w::W++R)[k]? =some u:=by rw[f,← h1,nK]
  have e1:A++u::w::W++R=(A++[u])++w::(W++R):=by simp
  have j:(A++u::w::W++R)[k+1]? =some w:=by rw[e1,show k+1=(A++[u]).length by simp;omega,nK]
  have A1:=abP Q Y Z F X _ _ _ _ _ n k (k+1) a b m i k rfl w2 (by omega) (by omega) (FE Z h j) (aA (by rw[w1];omega));have e2:((A++u::w::W++R).set k w).set (k+1) u=(A++[w])++u::W++R:=by
   rw[f,← h1,set_mid,show A++w::(w::W++R)=(A++[w])++w::(W++R)by simp,show A.length+1=(A++[w]).length by simp,set_mid];simp
  rw[e2,w2]at A1;have l:=R6 n a b m g i u W (A++[w]) R (k+1) (by simp;omega) (by omega) (by simp;omega);have o:A++w::W++u::R=A++[w]++W++u::R:=by simp
  rw[o];exact eG.of A1 l
theorem R5(n:Nat)(a b m:Nat)(h:n<=268435456)(i:Nat)(v:EF Z):∀(q:Nat) (W A R:List (EF Z)) (k:Nat),W.length=q->A.length=i->i+W.length=k->(A++W++v::R).length=n->
 eG prog (E.wo Z) (aeu n a b m i k) (jP (A++W++v::R)) (.bV []) (jP (A++v::W++R))
 |0,W,A,R,k,c,h1,d,f=>by
  obtain rfl:=bB.1 c;have:=abM Q Y Z F X ((A++[]++v::R).flatMap eZ) n a b m i k (aD (by simp at d;omega));have e:A++v::[]++R=A++[]++v::R:=by simp
  rw[e];exact eG.it this (by kernel_rfl) rfl rfl
 |q+1,W,A,R,k,c,h1,d,f=>by
  obtain⟨W,w,rfl⟩:∃W' w,W=W'++[w]:=by
   rcases List.eq_nil_or_concat W with rfl|⟨q,p,rfl⟩
   .cases c
   .exact⟨q,p,by simp⟩
  simp at d f c;have w2:IntKind.i64.wrap ((k:Int) - 1)=((k - 1:Nat):Int):=by rw[dW (by omega) (by omega)];omega
  have g:A++(W++[w])++v::R=(A++W++[w])++v::R:=by simp
  have j:(A++(W++[w])++v::R)[k]? =some v:=by rw[g,show k=(A++W++[w]).length by simp;omega,nK]
  have e1:A++(W++[w])++v::R=(A++W)++w::v::R:=by simp
  have l:(A++(W++[w])++v::R)[k - 1]? =some w:=by rw[e1,show k - 1=(A++W).length by simp;omega,nK]
  have A1:=abN Q Y Z F X _ _ _ _ _ n k (k - 1) a b m i k rfl w2 (by omega) (by omega) (FE Z j l) (aA (by omega));have e2:((A++(W++[w])++v::R).set k w).set (k - 1) v=A++W++v::(w::R):=by
   rw[g,show k=(A++W++[w]).length by simp;omega,set_mid,show A++W++[w]++w::R=(A++W)++w::(w::R)by simp,show(A++W++[w]).length - 1=(A++W).length by simp,set_mid]
  rw[e2,w2]at A1;have o:=R5 n a b m h i v q W A (w::R) (k - 1) (by omega) h1 (by omega) (by simp;omega);have r:A++v::(W++[w])++R=A++v::W++w::R:=by simp
  rw[r];exact eG.of A1 o
theorem vM{D:List (EF Z)}(h:D.length=n)(a:x<n):∃e,D[x]? =some e:=⟨D[x]'(by omega),aK _⟩
theorem Zg(n:Nat)(a b m:Nat)(J:n<=268435456)(u:EF Z)(A V C:List (EF Z))(D:o8 kP V)(G:A.length=a)(hm:a+1=m)(hb:m+V.length=b)(l:(A++[u]++V++C).length=n):
 ∃M,o8 kP M∧qz kP ([u]++V) M∧eG prog (E.wo Z) (aex n a b m m b) (jP (A++[u]++V++C)) (.bV []) (jP (A++M++C)):=by
 have p:=l;simp at p;have T:=qN Z;have d:(A++[u]++V++C)[a]? =some u:=by rw[show A++[u]++V++C=A++u::(V++C)by simp,← G,nK]
 have o:∀x,m<=x->x<b->(A++[u]++V++C)[x]? =V[x - m]? :=λx h h'=>by
  rw[F9 (A++[u]) V C (by simp;omega) (by simp;omega)];congr 1;simp;omega
 obtain⟨k,k1,k2,K,L,N⟩:=bsearch (P:=prog) (E:=E.wo Z) (St:=λi j=>aex n a b m i j) (hp:=⟨zL (jP (A++[u]++V++C)),1,0⟩) (λx=>Li Z (A++[u]++V++C) x a) m b
  (λi j h1 H q f=>by
   obtain⟨e,c⟩:=vM Q Y Z F X l (x:=(i+j) / 2) (by omega);have A1:=ab1 Q Y Z F X _ _ _ _ _ n ((i+j) / 2) a a b m i j (kP e u) (Ei (by omega) (by omega)) rfl (by omega) (by omega) (FE Z c d) (EZ Q Y Z F X e u) (aA (by omega)) (by rw[← kV Z c d];exact f);rw[Ei (by omega) (by omega),dW (z:=(((i+j) / 2:Nat):Int)+1) (by omega) (by omega)]at A1;exact A1)
  (λi j h1 H q f=>by
   obtain⟨e,c⟩:=vM Q Y Z F X l (x:=(i+j) / 2) (by omega);have A1:=ab0 Q Y Z F X _ _ _ _ _ n ((i+j) / 2) a a b m i j (kP e u) (Ei (by omega) (by omega)) rfl (by omega) (by omega) (FE Z c d) (EZ Q Y Z F X e u) (aA (by omega)) (by rw[← kV Z c d];exact f);rw[Ei (by omega) (by omega)]at A1;exact A1)
  (λx y h1 H q f=>by
   obtain⟨e,c⟩:=vM Q Y Z F X l (x:=x) (by omega);obtain⟨g,r⟩:=vM Q Y Z F X l (x:=y) (by omega);simp only[kV Z c d,kV Z r d]at f ⊢;rw[o x h1 (by omega)]at c;rw[o y (by omega) q]at r;exact aA (T.EU (D.get T (by omega) c r) (bZ f)))
  (b - m) m b (ah _) (ah _) (by omega) (ah _) (λx h h'=>by omega) (λx h h'=>by omega)
 have s:V=V.take (k - m)++V.drop (k - m):=(fq ..).symm;have O:(V.take (k - m)).length=k - m:=by simp;omega
 obtain⟨R,I⟩:=Y8 (V1:=V.take (k - m)) (V2:=V.drop (k - m)) (u:=u) T (by rw[← s];exact D)
  (λv t=>by
   obtain⟨x,S,e⟩:=tT t;have w:(A++[u]++V++C)[m+x]? =some v:=by rw[o _ (by omega) (by omega),show m+x - m=x by omega,e]
   have:=K (m+x) (by omega) (by omega);simp only[kV Z w d]at this;exact bZ this)
  (λv t=>by
   obtain⟨x,S,e⟩:=tV t;have U:x<V.length:=(aJ.1 e).1;have w:(A++[u]++V++C)[m+x]? =some v:=by rw[o _ (by omega) (by omega),show m+x - m=x by omega,e]
   have:=L (m+x) (by omega) (by omega);simp only[kV Z w d]at this;exact of_decide_eq_false this)
 rw[← s]at I;refine⟨_,R,I,?_⟩;have W:=abZ Q Y Z F X ((A++[u]++V++C).flatMap eZ) n a b m k k (aD (by omega));have B:=R6 Q Y Z F X n a b m J k u (V.take (k - m)) A (V.drop (k - m)++C) a G (by rw[O];omega) (by simp;omega);have e1:A++u::V.take (k - m)++(V.drop (k - m)++C)=A++[u]++V++C:=by
  have:A++[u]++V++C=A++[u]++(V.take (k - m)++V.drop (k - m))++C:=by rw[← s]
  rw[this];simp only[fC,oU,nA]
 have e2:A++V.take (k - m)++u::(V.drop (k - m)++C)=A++(V.take (k - m)++u::V.drop (k - m))++C:=by simp
 rw[e1,e2]at B;exact eG.of N (eG.of W B)
theorem Zf(n:Nat)(a b m:Nat)(I:n<=268435456)(v:EF Z)(A U C:List (EF Z))(D:o8 kP U)(J:A.length=a)(W:a+U.length=m)(hb:m+1=b)(l:(A++U++[v]++C).length=n):
 ∃M,o8 kP M∧qz kP (U++[v]) M∧eG prog (E.wo Z) (aev n a b m a m) (jP (A++U++[v]++C)) (.bV []) (jP (A++M++C)):=by
 have p:=l;simp at p;have T:=qN Z;have f:(A++U++[v]++C)[m]? =some v:=by rw[show A++U++[v]++C=(A++U)++v::C by simp,show m=(A++U).length by simp;omega,nK]
 have o:∀x,a<=x->x<m->(A++U++[v]++C)[x]? =U[x - a]? :=λx h h'=>by
  rw[show A++U++[v]++C=A++U++([v]++C)by simp,F9 A U _ (by omega) (by omega),J]
 obtain⟨k,k1,k2,K,L,N⟩:=bsearch (P:=prog) (E:=E.wo Z) (St:=λi j=>aev n a b m i j) (hp:=⟨zL (jP (A++U++[v]++C)),1,0⟩) (λx=> !Li Z (A++U++[v]++C) m x) a m
  (λi j h1 G q c=>by
   obtain⟨e,d⟩:=vM Q Y Z F X l (x:=(i+j) / 2) (by omega);have c:Li Z (A++U++[v]++C) m ((i+j) / 2)=false:=by simpa using c
   have A1:=abX Q Y Z F X _ _ _ _ _ n m ((i+j) / 2) a b m i j (kP v e) rfl (Ei (by omega) (by omega)) (by omega) (by omega) (FE Z f d) (EZ Q Y Z F X v e) (aA (by omega)) (by rw[← kV Z f d];exact c);rw[Ei (by omega) (by omega),dW (z:=(((i+j) / 2:Nat):Int)+1) (by omega) (by omega)]at A1;exact A1)
  (λi j h1 G q c=>by
   obtain⟨e,d⟩:=vM Q Y Z F X l (x:=(i+j) / 2) (by omega);have c:Li Z (A++U++[v]++C) m ((i+j) / 2)=true:=by simpa using c
   have A1:=abY Q Y Z F X _ _ _ _ _ n m ((i+j) / 2) a b m i j (kP v e) rfl (Ei (by omega) (by omega)) (by omega) (by omega) (FE Z f d) (EZ Q Y Z F X v e) (aA (by omega)) (by rw[← kV Z f d];exact c);rw[Ei (by omega) (by omega)]at A1;exact A1)
  (λx y h1 G q c=>by
   obtain⟨e,d⟩:=vM Q Y Z F X l (x:=x) (by omega);obtain⟨g,r⟩:=vM Q Y Z F X l (x:=y) (by omega);simp only[kV Z f d,kV Z f r,Bool.not_eq_true',gQ]at c ⊢;rw[o x h1 (by omega)]at d;rw[o y (by omega) q]at r;exact λh=>c (T.AJ h (D.get T (by omega) d r)))
  (m - a) a m (ah _) (ah _) (by omega) (ah _) (λx h h'=>by omega) (λx h h'=>by omega)
 have s:U=U.take (k - a)++U.drop (k - a):=(fq ..).symm;have lT:(U.take (k - a)).length=k - a:=by simp;omega
 obtain⟨O,H⟩:=Y7 (U1:=U.take (k - a)) (U2:=U.drop (k - a)) (v:=v) T (by rw[← s];exact D)
  (λu t=>by
   obtain⟨x,R,e⟩:=tT t;have w:(A++U++[v]++C)[a+x]? =some u:=by rw[o _ (by omega) (by omega),show a+x - a=x by omega,e]
   have:=K (a+x) (by omega) (by omega);simp only[kV Z f w,Bool.not_eq_true',gQ]at this;exact this)
  (λu t=>by
   obtain⟨x,R,e⟩:=tV t;have S:x<U.length:=(aJ.1 e).1;have w:(A++U++[v]++C)[a+x]? =some u:=by rw[o _ (by omega) (by omega),show a+x - a=x by omega,e]
   have:=L (a+x) (by omega) (by omega);simp only[kV Z f w,Bool.not_eq_false',gM]at this;exact this)
 rw[← s]at H;refine⟨_,O,H,?_⟩;have V:=abW Q Y Z F X ((A++U++[v]++C).flatMap eZ) n a b m k k (aD (by omega));have B:=R5 Q Y Z F X n a b m I k v _ (U.drop (k - a)) (A++U.take (k - a)) C m rfl (by simp;omega) (by simp;omega) (by simp;omega);have e1:A++U.take (k - a)++U.drop (k - a)++v::C=A++U++[v]++C:=by
  have:A++U++[v]++C=A++(U.take (k - a)++U.drop (k - a))++[v]++C:=by rw[← s]
  rw[this];simp only[fC,oU,nA]
 have e2:A++U.take (k - a)++v::U.drop (k - a)++C=A++(U.take (k - a)++v::U.drop (k - a))++C:=by simp
 rw[e1,e2]at B;exact eG.of N (eG.of V B)
theorem Wx(n:Nat)(a b m mid k:Nat)(h:n<=268435456)(A U1 U2 V1 V2 C:List (EF Z))(j:A.length=a)(h1:a+U1.length=k)(c:k+U2.length=m)(f:k+V1.length=mid)(p:Int)(i:(A++(U1++U2)++(V1++V2)++C).length=n):
 DS Z (WI n a b m mid ((mid+m:Nat):Int) k k p) ⟨zL (jP (A++(U1++U2)++(V1++V2)++C)),1,0⟩ (aes n a b m mid k ((mid+m - k:Nat):Int)) ⟨zL (jP (A++U1++V1++(U2++V2++C))),1,0⟩:=by
 have d:=i;simp at d;have w1:IntKind.i64.wrap (((mid+m:Nat):Int) - k)=((mid+m - k:Nat):Int):=by rw[dW (by omega) (by omega)];omega
 have g:decide ((k:Int)<k)=false:=aD (by omega);cases U2 with
 |nil=>
  have A1:=adQ Q Y Z F X ((A++(U1++[])++(V1++V2)++C).flatMap eZ) n a b m mid ((mid+m:Nat):Int) k k p 0 g (aD (by simp at c;omega));rw[w1]at A1;have e:A++U1++V1++([]++V2++C)=A++(U1++[])++(V1++V2)++C:=by simp
  rw[e];exact A1
 |cons u U2=>
  cases V1 with
  |nil=>
   have A1:=adP Q Y Z F X ((A++(U1++u::U2)++([]++V2)++C).flatMap eZ) n a b m mid ((mid+m:Nat):Int) k k p 0 g (aA (by simp at c;omega)) (aD (by rw[w1];simp at f;omega));rw[w1]at A1;have e:A++U1++[]++(u::U2++V2++C)=A++(U1++u::U2)++([]++V2)++C:=by simp
   rw[e];exact A1
  |cons v V1=>
   have S:=af6 Q Y Z F X (A++U1) (u::U2) (v::V1) (V2++C) (n:=n) k m (mid+m - k) (by simp) (by simp) (by simp;omega) (by simp at c ⊢;omega) (by simp at c f ⊢;omega) (by simp at d ⊢;omega) h;have e1:A++U1++u::U2++v::V1++(V2++C)=A++(U1++u::U2)++(v::V1++V2)++C:=by simp
   have e2:A++U1++v::V1++u::U2++(V2++C)=A++U1++v::V1++(u::U2++V2++C):=by simp
   rw[e1,e2]at S;have A1:=adO Q Y Z F X ((A++(U1++u::U2)++(v::V1++V2)++C).flatMap eZ) ((A++U1++v::V1++(u::U2++V2++C)).flatMap eZ) n a b m mid ((mid+m:Nat):Int) k k p 0 (by rw[w1];exact S) g (aA (by simp at c;omega)) (aA (by rw[w1];simp at f;omega));rw[w1]at A1;exact A1
def Wy(d:Nat):Prop:=∀(A U V C:List (EF Z)) (n a m b:Nat),U.length+V.length<=d->U≠[]->V≠[]->o8 kP U->o8 kP V->A.length=a->a+U.length=m->m+V.length=b->(A++U++V++C).length=n->n<=268435456->
 ∃M,o8 kP M∧qz kP (U++V) M∧DC Z 175 [.sl 0 0 n none,zI a,zI m,zI b,.fn 29 [] []] ⟨zL (jP (A++U++V++C)),1,0⟩ (.bV []) ⟨zL (jP (A++M++C)),1,0⟩
theorem abR(d:Nat)(h:Wy Z d)(n:Nat)(a b m mid k e:Nat)(i:n<=268435456)(A U1 V1 C:List (EF Z))(f:o8 kP U1)(g:o8 kP V1)(j:A.length=a)(h1:a+U1.length=k)(c:k+V1.length=mid)(l:U1.length+V1.length<=d)(o:(A++U1++V1++C).length=n):
 ∃M,o8 kP M∧qz kP (U1++V1) M∧DS Z (aes n a b m mid k e) ⟨zL (jP (A++U1++V1++C)),1,0⟩ (aer n a b m mid e) ⟨zL (jP (A++M++C)),1,0⟩:=by
 cases U1 with
 |nil=>
  have A1:=adN Q Y Z F X ((A++[]++V1++C).flatMap eZ) n a b m mid 0 k 0 0 e (aD (by simp at h1;omega));refine⟨V1,g,qz.refl _,?_⟩;have e:A++V1++C=A++[]++V1++C:=by simp
  rw[e];exact A1
 |cons u U1=>
  cases V1 with
  |nil=>
   have A1:=adM Q Y Z F X ((A++u::U1++[]++C).flatMap eZ) n a b m mid 0 k 0 0 e (aA (by simp at h1;omega)) (aD (by simp at c;omega));refine⟨u::U1,f,by rw[bD];exact qz.refl _,?_⟩;have e:A++u::U1++C=A++u::U1++[]++C:=by simp
   rw[e];exact A1
  |cons v V1=>
   obtain⟨M,p,q,r⟩:=h A (u::U1) (v::V1) C n a k mid l (by simp) (by simp) f g j h1 c o i;exact⟨M,p,q,adL Q Y Z F X ((A++u::U1++v::V1++C).flatMap eZ) ((A++M++C).flatMap eZ) n a b m mid 0 k 0 0 e r (aA (by simp at h1;omega)) (aA (by simp at c;omega))⟩
theorem abQ(d:Nat)(h:Wy Z d)(n:Nat)(a b m mid e:Nat)(i:n<=268435456)(A U2 V2 C:List (EF Z))(f:o8 kP U2)(g:o8 kP V2)(j:A.length=mid)(h1:mid+U2.length=e)(c:e+V2.length=b)(k:U2.length+V2.length<=d)(l:(A++U2++V2++C).length=n):
 ∃M,o8 kP M∧qz kP (U2++V2) M∧eG prog (E.wo Z) (aer n a b m mid e) (jP (A++U2++V2++C)) (.bV []) (jP (A++M++C)):=by
 cases U2 with
 |nil=>
  have A1:=adK Q Y Z F X ((A++[]++V2++C).flatMap eZ) n a b m mid 0 0 0 0 e (aD (by simp at h1;omega));refine⟨V2,g,qz.refl _,?_⟩;have e:A++V2++C=A++[]++V2++C:=by simp
  rw[e];exact eG.it A1 (by kernel_rfl) rfl rfl
 |cons u U1=>
  cases V2 with
  |nil=>
   have A1:=adJ Q Y Z F X ((A++u::U1++[]++C).flatMap eZ) n a b m mid 0 0 0 0 e (aA (by simp at h1;omega)) (aD (by simp at c;omega));refine⟨u::U1,f,by rw[bD];exact qz.refl _,?_⟩;have e:A++u::U1++C=A++u::U1++[]++C:=by simp
   rw[e];exact eG.it A1 (by kernel_rfl) rfl rfl
  |cons v V1=>
   obtain⟨M,o,p,q⟩:=h A (u::U1) (v::V1) C n mid e b k (by simp) (by simp) f g j h1 c l i;exact⟨M,o,p,eG.it (adI Q Y Z F X ((A++u::U1++v::V1++C).flatMap eZ) ((A++M++C).flatMap eZ) n a b m mid 0 0 0 0 e q (aA (by simp at h1;omega)) (aA (by simp at c;omega))) (by kernel_rfl) rfl rfl⟩
theorem abS(A U V C:List (EF Z))(n a m b:Nat)(r:U.length≠1)(s:V.length≠1)(h1:a+U.length=m)(t:m+V.length=b)(c:U≠[])(d:V≠[])(u:A.length=a)(l:(A++U++V++C).length=n)(v:n<=268435456):
 ∃e f:Nat,e<=f∧f=min m ((a+b) / 2)∧e=max a ((a+b) / 2+m - b)∧DS Z (Ev.ent (E.wo Z) 175 [.sl 0 0 n none,zI a,zI m,zI b,.fn 29 [] []]) ⟨zL (jP (A++U++V++C)),1,0⟩
  (WI n a b m ((((a+b) / 2:Nat)):Int) (((a+b) / 2+m:Nat):Int) e f (((a+b) / 2+m - 1:Nat):Int)) ⟨zL (jP (A++U++V++C)),1,0⟩:=by
 have h:=l;simp at h;have o:=bY.2 c;have p:=bY.2 d;have w0:=Ei (i:=a) (j:=b) (by omega) (by omega);have w1:IntKind.i64.wrap ((((a+b) / 2:Nat):Int)+m)=(((a+b) / 2+m:Nat):Int):=by rw[dW (by omega) (by omega)];omega
 have w2:IntKind.i64.wrap ((((a+b) / 2+m:Nat):Int) - 1)=(((a+b) / 2+m - 1:Nat):Int):=by rw[dW (by omega) (by omega)];omega
 have k:(IntKind.i64.wrap ((m:Int) - a)==1)=false:=by rw[dW (by omega) (by omega)];simp;omega
 have o2:(IntKind.i64.wrap ((b:Int) - m)==1)=false:=by rw[dW (by omega) (by omega)];simp;omega
 by_cases g:m>(a+b) / 2
 .have q:IntKind.i64.wrap ((((a+b) / 2+m:Nat):Int) - b)=(((a+b) / 2+m - b:Nat):Int):=by rw[dW (by omega) (by omega)];omega
  have A1:=adS Q Y Z F X ((A++U++V++C).flatMap eZ) n a b m k o2 (aA (by rw[w0];omega));rw[w0,w1,w2,q]at A1;exact⟨_,_,by omega,by omega,by omega,A1⟩
 .have A1:=adR Q Y Z F X ((A++U++V++C).flatMap eZ) n a b m k o2 (aD (by rw[w0];omega))
  rw[w0,w1,w2]at A1;exact⟨_,_,by omega,by omega,by omega,A1⟩
end
end
section
variable(W:Fe)(Y:Ge)(Z:Old)(F:Fw Z)(X:Gw Z)
include W Y F X
theorem abT(A U V C:List (EF Z))(n a m b:Nat)(M:o8 kP U)(N:o8 kP V)(h1:a+U.length=m)(O:m+V.length=b)(hA:A.length=a)(hl:(A++U++V++C).length=n)(hn:n<=268435456)(Q:U≠[])(R:V≠[])(mid t w:Nat)(em:(a+b) / 2=mid)(g1:t<=w)(g2:w=min m mid)(g3:t=max a (mid+m - b)):
 ∃k U1 U2 V1 V2,U=U1++U2∧V=V1++V2∧a+U1.length=k∧k+U2.length=m∧k+V1.length=mid∧(∀v∈V1,∀u∈U2,kP v u<0)∧(∀u∈U1,∀v∈V2,kP u v<=0)∧
  DS Z (WI n a b m mid ((mid+m:Nat):Int) t w ((mid+m - 1:Nat):Int)) ⟨zL (jP (A++U++V++C)),1,0⟩ (WI n a b m mid ((mid+m:Nat):Int) k k ((mid+m - 1:Nat):Int)) ⟨zL (jP (A++U++V++C)),1,0⟩:=by
 have S:=hl;simp at S;have hU1:=bY.2 Q;have hV1:=bY.2 R;have T:=qN Z;have G:∀x,a<=x->x<m->(A++U++V++C)[x]? =U[x - a]? :=λx h h'=>by
  rw[show A++U++V++C=A++U++(V++C)by simp,F9 A U _ (by omega) (by omega),hA]
 have H:∀x,m<=x->x<b->(A++U++V++C)[x]? =V[x - m]? :=λx h h'=>by
  rw[F9 (A++U) V C (by simp;omega) (by simp;omega)];congr 1;simp;omega
 have I:∀x,a<=x->x<m->∃e,U[x - a]? =some e:=λx h h'=>⟨U[x - a]'(by omega),aK _⟩;have J:∀x,m<=x->x<b->∃e,V[x - m]? =some e:=λx h h'=>⟨V[x - m]'(by omega),aK _⟩;have K:∀c,t<=c->c<w->a<=c∧c<m∧m<=mid+m - 1 - c∧mid+m - 1 - c<b:=λc h h'=>by omega
 obtain⟨k,k1,k2,k3,k4,k5⟩:=bsearch (P:=prog) (E:=E.wo Z) (St:=λi j=>WI n a b m mid ((mid+m:Nat):Int) i j ((mid+m - 1:Nat):Int)) (hp:=⟨zL (jP (A++U++V++C)),1,0⟩) (λc=> !Li Z (A++U++V++C) (mid+m - 1 - c) c) t w
  (λi j h1 O h3 s=>by
   obtain⟨l,o,p,r⟩:=K ((i+j) / 2) (by omega) (by omega);obtain⟨e,d⟩:=I _ l o;obtain⟨g,f⟩:=J _ p r;rw[← G _ l o]at d;rw[← H _ p r]at f;have s:Li Z (A++U++V++C) (mid+m - 1 - (i+j) / 2) ((i+j) / 2)=false:=by simpa using s
   have w0:=Ei (i:=i) (j:=j) (by omega) (by omega);have A1:=abU W Y Z F X _ _ _ _ _ n (mid+m - 1 - (i+j) / 2) ((i+j) / 2) a b m mid ((mid+m:Nat):Int) i j ((mid+m - 1:Nat):Int) (kP g e) (by rw[w0,dW (by omega) (by omega)];omega) w0 (by omega) (by omega) (FE Z f d) (EZ W Y Z F X g e) (aA (by omega)) (by rw[← kV Z f d];exact s);rw[w0,dW (z:=(((i+j) / 2:Nat):Int)+1) (by omega) (by omega)]at A1;exact A1)
  (λi j h1 O h3 s=>by
   obtain⟨l,o,p,r⟩:=K ((i+j) / 2) (by omega) (by omega);obtain⟨e,d⟩:=I _ l o;obtain⟨g,f⟩:=J _ p r;rw[← G _ l o]at d;rw[← H _ p r]at f;have s:Li Z (A++U++V++C) (mid+m - 1 - (i+j) / 2) ((i+j) / 2)=true:=by simpa using s
   have w0:=Ei (i:=i) (j:=j) (by omega) (by omega);have A1:=abV W Y Z F X _ _ _ _ _ n (mid+m - 1 - (i+j) / 2) ((i+j) / 2) a b m mid ((mid+m:Nat):Int) i j ((mid+m - 1:Nat):Int) (kP g e) (by rw[w0,dW (by omega) (by omega)];omega) w0 (by omega) (by omega) (FE Z f d) (EZ W Y Z F X g e) (aA (by omega)) (by rw[← kV Z f d];exact s);rw[w0]at A1;exact A1)
  (λx y h1 O h3 s=>by
   obtain⟨l,o,p,r⟩:=K x (by omega) (by omega);obtain⟨d1,d2,d3,d4⟩:=K y (by omega) (by omega);obtain⟨e,d⟩:=I _ l o;obtain⟨g,f⟩:=J _ p r;obtain⟨e',B⟩:=I _ d1 d2;obtain⟨g',D⟩:=J _ d3 d4;have t1:=M.get T (by omega) d B;have t2:=N.get T (by omega) D f;rw[← G _ l o]at d;rw[← H _ p r]at f;rw[← G _ d1 d2]at B;rw[← H _ d3 d4]at D;simp only[kV Z f d,kV Z D B,Bool.not_eq_true',gQ]at s ⊢;exact λh=>s (T.EU t2 (T.AJ h t1)))
  (w - t) t w (ah _) (ah _) g1 (ah _) (λx h h'=>by omega) (λx h h'=>by omega)
 refine⟨k,U.take (k - a),U.drop (k - a),V.take (mid - k),V.drop (mid - k),(fq ..).symm,(fq ..).symm,by simp;omega,by simp;omega,by simp;omega,?_,?_,k5⟩
 .intro v hv u hu
  obtain⟨x,hx,ex⟩:=tT hv;obtain⟨y,hy,L⟩:=tV hu;have hyl:y<U.length:=(aJ.1 L).1;obtain⟨l,o,p,r⟩:=K k (by omega) (by omega);obtain⟨e,d⟩:=I _ l o;obtain⟨g,f⟩:=J _ p r;have q:=k4 k (ah _) (by omega);have t1:=M.get T (by omega) d L;have t2:=N.get T (by omega) ex f;rw[← G _ l o]at d;rw[← H _ p r]at f;simp only[kV Z f d,Bool.not_eq_false',gM]at q;exact T.EU t2 (T.AJ q t1)
 .intro u hu v hv
  obtain⟨x,hx,ex⟩:=tT hu;obtain⟨y,hy,L⟩:=tV hv;have hyl:y<V.length:=(aJ.1 L).1;obtain⟨l,o,p,r⟩:=K (k - 1) (by omega) (by omega);obtain⟨e,d⟩:=I _ l o;obtain⟨g,f⟩:=J _ p r;have q:=k3 (k - 1) (by omega) (by omega);have t1:=M.get T (by omega) ex d;have t2:=N.get T (by omega) f L;rw[← G _ l o]at d;rw[← H _ p r]at f;simp only[kV Z f d,Bool.not_eq_true',gQ]at q;exact T.trans t1 (T.trans (T.not_lt q) t2)
theorem Zh:∀d,Wy Z d
 |0,A,U,V,C,n,a,m,b,w,c,e,j,l,g,h1,h,i,f=>aP (bY.2 c) (by omega)
 |d+1,A,U,V,C,n,a,m,b,w,c,e,j,l,g,h1,h,i,f=>by
  have q:=i;simp at q;have T:=qN Z;by_cases u1:U.length=1
  .obtain⟨u,rfl⟩:=List.length_eq_one_iff.1 u1
   simp at h1;obtain⟨M,r,o,s⟩:=Zg W Y Z F X n a b m f u A V C l g h1 h i;have A1:=adU W Y Z F X ((A++[u]++V++C).flatMap eZ) n a b m (by rw[dW (by omega) (by omega)];simp;omega);exact⟨M,r,o,DoesC.VW X (by kernel_rfl) (eG.of A1 s) (jB _) (jB _) rfl rfl⟩
  .by_cases v1:V.length=1
   .obtain⟨v,rfl⟩:=List.length_eq_one_iff.1 v1
    simp at h;obtain⟨M,r,o,s⟩:=Zf W Y Z F X n a b m f v A U C j g h1 h i;have A1:=adT W Y Z F X ((A++U++[v]++C).flatMap eZ) n a b m (by rw[dW (by omega) (by omega)];simp;omega) (by rw[dW (by omega) (by omega)];simp;omega);exact⟨M,r,o,DoesC.VW X (by kernel_rfl) (eG.of A1 s) (jB _) (jB _) rfl rfl⟩
   .obtain⟨z,B,D,E,G,A1⟩:=abS W Y Z F X A U V C n a m b u1 v1 h1 h c e g i f
    obtain⟨k,U1,U2,V1,V2,rfl,rfl,x,H,y,I,J,K⟩:=abT W Y Z F X A U V C n a m b j l h1 h g i f c e _ z B rfl D E G;have L:=Wx W Y Z F X n a b m ((a+b) / 2) k f A U1 U2 V1 V2 C g x H y (((a+b) / 2+m - 1:Nat):Int) i;simp at w q h1 h;have N:=bY.2 c;have O:=bY.2 e;simp at N O u1 v1;obtain⟨p,r,o,P⟩:=abR W Y Z F X d (Zh d) n a b m ((a+b) / 2) k ((a+b) / 2+m - k) f A U1 V1 (U2++V2++C) j.left l.left g x y (by omega) (by simp;omega);have Q:=o8.rV T o;simp at Q;obtain⟨t,s,R,S⟩:=abQ W Y Z F X d (Zh d) n a b m ((a+b) / 2) ((a+b) / 2+m - k) f (A++p) U2 V2 C j.right l.right (by simp;omega) (by omega) (by omega) (by omega) (by simp;omega);obtain⟨z1,z2⟩:=aaW T j l I J r o s R;refine⟨p++t,z1,z2,DoesC.VW X (by kernel_rfl) (eG.of A1 (eG.of K (eG.of L (eG.of P ?_)))) (jB _) (jB _) rfl rfl⟩;have e1:A++p++(U2++V2++C)=A++p++U2++V2++C:=by simp
    have e2:A++(p++t)++C=A++p++t++C:=by simp
    rw[e1,e2];exact S
end
noncomputable def agx(n:Nat)(m k a b:Int):AF:=(OB (zI a) (zI m) (.sl 0 0 n none) (zI b) (zI k))
noncomputable def ace(n:Nat)(m k:Int):AF:=(J5 (zI m) (.sl 0 0 n none) (zI k))
noncomputable def agw(n:Nat)(m k a b:Int):AF:=(J4 (zI a) (zI m) (.sl 0 0 n none) (zI b) (zI k))
section
variable(W:Fe)(Y:Ge)(Z:Old)(F:Fw Z)(X:Gw Z)
include W Y F X
theorem adZ(n k:Nat)(l:n<=268435456)(r:0<k)(o:k<=268435456):∀(d:Nat) (A R:List (EF Z)) (a:Nat),R.length<=d->A.length=a->(A++R).length=n->
 ∃b,U4 kP k b∧qz kP R b∧DS Z (agx n n k a ((a+k:Nat):Int)) ⟨zL (jP (A++R)),1,0⟩ (ace n n k) ⟨zL (jP (A++b)),1,0⟩:=by
 intro d;induction d with
 |zero=>
  intro A R a m j h;have c:=h;simp at c;obtain⟨b,r1,r2,f⟩:=WC W Y Z F X A R [] a n j (by omega) (by simpa using h) l;rw[bD,bD]at f;refine⟨b,.last (by rw[← o8.rV (qN Z) r2];omega) r1,r2,?_⟩;exact aav W Y Z F X ((A++R).flatMap eZ) ((A++b).flatMap eZ) n n k a ((a+k:Nat):Int) f (aD (by omega))
 |succ d p=>
  intro A R a m j h;have c:=h;simp at c;by_cases g:a+k<=n
  .obtain⟨U,e,rfl,s⟩:∃U e,R=U++e∧U.length=k:=⟨R.take k,R.drop k,(fq ..).symm,by simp;omega⟩
   simp at m c;obtain⟨i,u1,u2,u3⟩:=WC W Y Z F X A U e a (a+k) j (by omega) (by simpa using h) l;have q:=o8.rV (qN Z) u2;obtain⟨b,r1,r2,f⟩:=p (A++i) e (a+k) (by omega) (by simp;omega) (by simp;omega);have A1:=ad7 W Y Z F X ((A++U++e).flatMap eZ) ((A++i++e).flatMap eZ) n n k a ((a+k:Nat):Int) u3 (aA (by omega));rw[show IntKind.i64.wrap (((a+k:Nat):Int)+k)=((a+k+k:Nat):Int)by rw[dW (by omega) (by omega)];omega]at A1;have e1:A++(U++e)=A++U++e:=by simp
   have e2:A++(i++b)=A++i++b:=by simp
   refine⟨i++b,.more (by omega) u1 r1,u2.append r2,?_⟩;rw[e1,e2];exact DoesS.trans A1 f
  .obtain⟨b,r1,r2,f⟩:=WC W Y Z F X A R [] a n j (by omega) (by simpa using h) l
   rw[bD,bD]at f;refine⟨b,.last (by rw[← o8.rV (qN Z) r2];omega) r1,r2,?_⟩;exact aav W Y Z F X ((A++R).flatMap eZ) ((A++b).flatMap eZ) n n k a ((a+k:Nat):Int) f (aD (by omega))
theorem adX(n k:Nat)(s:n<=268435456)(z:0<k)(t:k<n):∀(d:Nat) (A R:List (EF Z)) (a:Nat),R.length<=d->U4 kP k R->A.length=a->(A++R).length=n->
 ∃c,U4 kP (k*2) c∧qz kP R c∧DS Z (agw n n k a ((a+k*2:Nat):Int)) ⟨zL (jP (A++R)),1,0⟩ (ace n n ((k*2:Nat):Int)) ⟨zL (jP (A++c)),1,0⟩:=by
 intro d;induction d with
 |zero=>
  intro A R a i f l m;have b:=m;simp at b;have w2:IntKind.i64.wrap ((k:Int)*2)=((k*2:Nat):Int):=by rw[dW (by omega) (by omega)];omega
  have A1:=aat W Y Z F X ((A++R).flatMap eZ) n n k a ((a+k*2:Nat):Int) (aD (by omega)) (aD (by rw[dW (by omega) (by omega)];omega));rw[w2]at A1;exact⟨R,.last (by omega) (f.small (by omega)),qz.refl _,A1⟩
 |succ d u=>
  intro A R a i f l m;have b:=m;simp at b;have w1:IntKind.i64.wrap ((a:Int)+k)=((a+k:Nat):Int):=by rw[dW (by omega) (by omega)];omega
  have w2:IntKind.i64.wrap ((k:Int)*2)=((k*2:Nat):Int):=by rw[dW (by omega) (by omega)];omega
  by_cases g:a+k*2<=n
  .obtain⟨U,R1,rfl,v,o,p⟩:=f.split (by omega)
   simp at b i;obtain⟨V,e,rfl,B,w,x⟩:=p.split (by omega);simp at b i;obtain⟨M,q,h,j⟩:=Zh W Y Z F X _ A U V e n a (a+k) (a+k*2) (ah _) (bY.1 (by omega)) (bY.1 (by omega)) o w l (by omega) (by omega) (by simp;omega) s;have r:=o8.rV (qN Z) h;simp at r;obtain⟨c,r1,r2,y⟩:=u (A++M) e (a+k*2) (by omega) x (by simp;omega) (by simp;omega);have A1:=ad5 W Y Z F X ((A++U++V++e).flatMap eZ) ((A++M++e).flatMap eZ) n n k a ((a+k*2:Nat):Int) (by rw[w1];exact j) (aA (by omega));rw[show IntKind.i64.wrap (2*(k:Int))=((k*2:Nat):Int)by rw[dW (by omega) (by omega)];omega,show IntKind.i64.wrap (((a+k*2:Nat):Int)+((k*2:Nat):Int))=((a+k*2+k*2:Nat):Int)by rw[dW (by omega) (by omega)];omega]at A1;have e1:A++(U++(V++e))=A++U++V++e:=by simp
   have e2:A++(M++c)=A++M++c:=by simp
   refine⟨M++c,.more (by omega) q r1,?_,?_⟩
   .have:=h.append r2
    simpa using this
   .rw[e1,e2]
    exact DoesS.trans A1 y
  .by_cases C:a+k<n
   .obtain⟨U,V,rfl,v,o,p⟩:=f.split (by omega)
    simp at b i;obtain⟨M,q,h,j⟩:=Zh W Y Z F X _ A U V [] n a (a+k) n (ah _) (bY.1 (by omega)) (bY.1 (by omega)) o (p.small (by omega)) l (by omega) (by omega) (by simp;omega) s;have r:=o8.rV (qN Z) h;simp at r;rw[bD,bD]at j;have A1:=ad4 W Y Z F X ((A++U++V).flatMap eZ) ((A++M).flatMap eZ) n n k a ((a+k*2:Nat):Int) (by rw[w1];exact j) (aD (by omega)) (aA (by rw[w1];omega));rw[w2]at A1;have e1:A++(U++V)=A++U++V:=by simp
    refine⟨M,.last (by omega) q,h,?_⟩;rw[e1];exact A1
   .have A1:=aat W Y Z F X ((A++R).flatMap eZ) n n k a ((a+k*2:Nat):Int) (aD (by omega)) (aD (by rw[w1];omega))
    rw[w2]at A1;exact⟨R,.last (by omega) (f.small (by omega)),qz.refl _,A1⟩
theorem adY(n:Nat)(f:n<=268435456):∀(d k:Nat) (R:List (EF Z)),n - k<=d->0<k->U4 kP k R->R.length=n->
 ∃a,o8 kP a∧qz kP R a∧eG prog (E.wo Z) (ace n n k) (jP R) (.bV []) (jP a):=by
 intro d;induction d with
 |zero=>
  intro k R h e b c;exact⟨R,b.small (by omega),qz.refl _,eG.it (aau W Y Z F X (R.flatMap eZ) n n k 0 0 (aD (by omega))) (by kernel_rfl) rfl rfl⟩
 |succ d i=>
  intro k R h e b c;by_cases g:k<n
  .have A1:=ad6 W Y Z F X (R.flatMap eZ) n n k 0 0 (aA (by omega))
   obtain⟨R1,r1,r2,j⟩:=adX W Y Z F X n k f e g _ [] R 0 (ah _) b rfl (by simpa using c);obtain⟨a,l,m,o⟩:=i (k*2) R1 (by omega) (by omega) r1 (by rw[← o8.rV (qN Z) r2];exact c);rw[show IntKind.i64.wrap (2*(k:Int))=((0+k*2:Nat):Int)by rw[dW (by omega) (by omega)];omega]at A1;exact⟨a,l,r2.trans m,eG.of A1 (eG.of j o)⟩
  .exact⟨R,b.small (by omega),qz.refl _,eG.it (aau W Y Z F X (R.flatMap eZ) n n k 0 0 (aD (by omega))) (by kernel_rfl) rfl rfl⟩
theorem af0(R:List (EF Z))(n:Nat)(b:R.length=n)(c:n<=268435456):∃a,o8 kP a∧qz kP R a∧
 DC Z 113 [.sl 0 0 n none,zI n,.fn 29 [] []] ⟨zL (jP R),1,0⟩ (.bV []) ⟨zL (jP a),1,0⟩:=by
 have A1:=afZ W Y Z F X (R.flatMap eZ) n n;obtain⟨R1,r1,r2,d⟩:=adZ W Y Z F X n 20 c (by omega) (by omega) _ [] R 0 (ah _) rfl (by simpa using b);obtain⟨a,e,f,g⟩:=adY W Y Z F X n c _ 20 R1 (ah _) (by omega) r1 (by rw[← o8.rV (qN Z) r2];exact b);exact⟨a,e,r2.trans f,DoesC.VW X (by kernel_rfl) (eG.of A1 (eG.of d g)) (jB _) (jB _) rfl rfl⟩
end
section
variable{b n:Nat}
def cfP(x y:FC):Int:=FK x.r y.r
theorem HZ:TO cfP:=xY.pull FC.r
theorem okF.mono{old old':Old}(h:Old.le old old'){x:FC}(H:okF old x):okF old' x:=⟨H.1.mono h,H.2⟩
def afF(old:Old)(v:AV)(l:List FC):Prop:=vv old v l.length 2 (l.flatMap FC.cells)∧∀x∈l,okF old x
theorem afG{old:Old}{l:List FC}(h:∀x∈l,okF old x):∃L:List (EF old),L.map (·.1)=l∧L.flatMap eZ=l.flatMap FC.cells:=by
 induction l with
 |nil=>exact⟨[],rfl,rfl⟩
 |cons x l a=>
  obtain⟨L,h1,b⟩:=a λy c=>h y (bg _ c);exact⟨⟨x,h x (bK ..)⟩::L,by simp[h1],by simp[b,eZ]⟩
theorem afP{old:Old}(L:List (EF old)):(∀x∈L.map (·.1),okF old x)∧L.flatMap eZ=(L.map (·.1)).flatMap FC.cells:=by
 refine⟨λx a=>?_,?_⟩
 .obtain⟨y,_,rfl⟩:=bP.1 a;exact y.2
 .induction L with
  |nil=>rfl
  |cons x l b=>simp[b,eZ]
section
variable{X Y:Type}{Z:X->X->Int}{f:Y->X}
theorem NK(T:TO Z){x:X}{a:Y}(h:Z x (f a)=0)(M:List Y):tY Z x (M.map f)=(tY (λa b=>Z (f a) (f b)) a M).map f:=by
 unfold tY cls;rw[List.filter_map,List.head?_map];congr 2;apply List.filter_congr;intro y _;show(Z x (f y)==0)=(Z (f a) (f y)==0);rw[nC];simp only[fK];exact⟨λe=>T.eq_trans (T.zero h) e,λe=>T.eq_trans h e⟩
theorem Zi(T:TO Z){L M:List Y}(h:∀a,tY (λa b=>Z (f a) (f b)) a M=tY (λa b=>Z (f a) (f b)) a L)(x:X):tY Z x (M.map f)=tY Z x (L.map f):=by
 by_cases d:∃a:Y,Z x (f a)=0
 .obtain⟨a,e⟩:=d
  rw[NK T e,NK T e,h a]
 .have key:∀N:List Y,tY Z x (N.map f)=none:=λN=>by
   cases g:tY Z x (N.map f)with
   |none=>rfl
   |some c=>
    obtain⟨i,j⟩:=Lf g;obtain⟨a,_,rfl⟩:=bP.1 i;exact aP ⟨a,j⟩ d
  rw[key,key]
end
def acu(l a:List FC):Prop:=ZY cfP a∧∀x,tY cfP x a=tY cfP x l
theorem PW(n:Nat)(l:List FC):∀a∈l.flatMap FC.cells,AV.low n a=true:=by
 intro a c;obtain⟨x,_,b⟩:=oQ.1 c;simp only[FC.cells,ay,aB,bn]at b;rcases b with rfl|rfl<;>rfl
section
variable(W:Fe)(Y:Ge)(Z:Old)(F:Fw Z)(X:Gw Z)
include W Y F X
theorem Xg{o c:Nat}{l:List FC}(a:l.length=n)(h0:0<n)(d:n<=268435456)(e:iI Z b o (n*2)=some (l.flatMap FC.cells)):
 DC Z 57 [.aO (some (b,o)) n c] eH (.sl 0 0 n none) ⟨zL (.cells (l.flatMap FC.cells) 25 true false),1,0⟩:=by
 have a:=kU (PW 0 l);have hr:AV.jC (yG 1) (l.flatMap FC.cells)=l.flatMap FC.cells:=AV.kZ (λi h=>qC h) a;exact DoesC.sel (k:=1) (DoesC.ent X (by kernel_rfl) (agv W Y Z F X b o n c _ h0 d e)) (by kernel_rfl) (by kernel_rfl) rfl rfl (by show AO.cells _ _ _ _=_;rw[hr]) (by show(AV.dX 1 (l.flatMap FC.cells)&&true)=true;rw[AV.qK a];rfl) rfl (by rfl)
theorem ab3(l:List (EF Z))(n:Nat)(b:l.length=n)(c:n<=268435456):∃a,o8 kP a∧qz kP l a∧DC Z 58 [.sl 0 0 n none,.fn 29 [] []] ⟨zL (jP l),1,0⟩ (.bV []) ⟨zL (jP a),1,0⟩:=by
 obtain⟨a,h1,d,e⟩:=af0 W Y Z F X l n b c;exact⟨a,h1,d,DoesC.ent X (by kernel_rfl) (af2 W Y Z F X (l.flatMap eZ) (a.flatMap eZ) n e)⟩
end
section
variable(X:Fe)(Z:Ge)(W:∀old,Fw old)(Y:∀old,Gw old)
include X Z W Y
theorem Tq{old:Old}{c:Nat}{l:List FC}(I:iI old b 0 (l.length*2)=some (l.flatMap FC.cells))(J:∀x∈l,okF old x)(h0:l≠[])(t:l.length<=268435456):
 dU prog E old 28 [.aO (some (b,0)) l.length c,.fn 29 [] []] (λold' K=>∃B,afF old' K B∧acu l B):=by
 have M:0<l.length:=bY.2 h0;refine dU.KT (Y old) (by kernel_rfl) (bO.of (so1 X Z old (W old) (Y old) b l.length c) (aT rfl) ?_);refine bO.Zk (k:=3) (id:=0) (off:=0) (vs:=[.fn 29 [] []]) (h':=⟨.e,1,0⟩) rfl (λa j=>by simp only[ay,aB,bn]at j;subst j;rfl) rfl (λi o e _=>by rw[show(Tr.e:Tr AO).get i=none from Tr.dN i]at e;cases e) rfl rfl ?_;intro d eb m u;have C:=u 0 (.fn 29 [] []) rfl;refine bO.low (n:=0) (bT _) (AF.jd (by show((true&&((((true&&(Nat.blt (OLD+eb) 0||Nat.ble OLD (OLD+eb))&&true))&&true&&true))&&true&&true)&&true)=true;rw[oI];rfl)) rfl (λi o e _=>by rw[show(Tr.e:Tr AO).get i=none from Tr.dN i]at e;cases e) ?_;have RX:=mE m I;have v:∀x∈l,okF d x:=λx q=>(J x q).mono m;have F:=W d;have FF:=Y d;obtain⟨L,r,w⟩:=afG v;have s:L.length=l.length:=by rw[← r];simp
 have G:=Xg X Z d F FF (b:=b) (o:=0) (c:=c) rfl M t RX;obtain⟨p,N,H,O⟩:=ab3 X Z d F FF L l.length s t;have y:p.length=l.length:=by rw[← o8.rV (qN d) H];exact s
 have P:=agu X Z d F FF eb C p l.length y t;rw[← w]at G;have D:=so2 X Z d F FF b l.length c eb _ _ _ _ (λh=>gB (by kernel_rfl) C) G O P;obtain⟨Q,R⟩:=aez (qN d) N;obtain⟨e1,e2⟩:=afP (dd kP p);refine bO.does D (aT rfl) rfl ?_;refine qh.slice (id:=0) (vs:=(dd kP p).flatMap eZ++rep (l.length - (dd kP p).length) I7) (el:=25) (g:=true) (z:=false) rfl (λa j=>?_) λold' b' S A _ T=>⟨(dd kP p).map (·.1),⟨.inl ⟨b',0,S,by simp,?_⟩,λx q=>(e1 x q).mono A⟩,?_,λx=>?_⟩
 .rcases bF.1 j with j|j
  .obtain⟨x,_,q⟩:=oQ.1 j
   exact zi 0 x a q
  .exact KD (λa j=>by
    simp only[I7,ay,aB,bn]at j;rcases j with rfl|rfl<;>rfl) _ a j
 .have:=F7 (old:=old') (b:=b') (o:=0) (cs:=(dd kP p).flatMap eZ) λi a e=>by
   rw[gF];refine T i a ?_;rw[aU (aJ.1 e).1];exact e
  rw[vQ CW]at this;rw[bH,← e2];exact this
 .exact List.pairwise_map.2 Q
 .rw[← r]
  refine Zi HZ (f:=λa:EF d=>a.1) (λa=>?_) x;exact(R a).trans (H.fst a).symm
end
end
section
variable{Q:Old->AV->Prop}{cs:List AV}{v:AV}
theorem LU.fc{old:Old}{L:List PF}(h:LU old cs L)(e:∀x∈L,x.args.length<=268435456):∃l:List FC,l.map FC.r=L∧cs=l.flatMap FC.cells∧∀x∈l,okF old x:=by
 induction h with
 |nil=>exact⟨[],rfl,rfl,λx d=>by cases d⟩
 |@cons a cs r L h1 _ f=>
  obtain⟨l,e1,e2,g⟩:=f λx d=>e x (bg _ d);obtain⟨p,c,rfl⟩:∃p c,a= .aO p r.args.length c:=by
   rcases h1 with⟨b,o,c,rfl,_⟩|⟨rfl,h0,_⟩
   .exact⟨some (b,o),c,rfl⟩
   .exact⟨none,0,by rw[h0]⟩
  refine⟨⟨p,c,r⟩::l,by simp[e1],by simp[e2,FC.cells],λx d=>?_⟩;rcases ay.1 d with rfl|d
  .exact⟨h1,e r (bK ..)⟩
  .exact g x d
def SY(L:List PF)(old:Old)(v:AV):Prop:=∃l a:List FC,l.map FC.r=L∧afF old v a∧acu l a
theorem SY.shape{L:List PF}{old:Old}(h:SY L old v):∃a n c,v= .aO a n c:=by
 obtain⟨l,d,_,⟨h,_⟩,_⟩:=h;rcases h with⟨b,o,c,rfl,_⟩|⟨rfl,_⟩
 .exact⟨_,_,_,rfl⟩
 .exact⟨_,_,_,rfl⟩
section
variable(W:Fe)(Y:Ge)(X:∀old,Fw old)(Z:∀old,Gw old)
include W Y X Z
theorem Gy(old:Old)(a:∀old,Q old (.aO none 0 0)):dU prog E old 28 [.aM,.fn 29 [] []] Q:=by
 refine dU.KT (Z old) (by kernel_rfl) (bO.does (so0 W Y old (X old) (Z old)) (aT (by kernel_rfl)) (by kernel_rfl) (qh.nil (a _)))
theorem c9(old:Old){t:T}(q:wI old v t)(r:t.size<=65536)(j:∀u∈Db t.size [t],u.args≠[]∧u.args.length<=268435456):
 dU prog E old 9 [v] (SY (((Db t.size [t]).filter nW).map qZ)):=by
 obtain⟨cs,rfl,h⟩:=q;have e:=h.len;obtain⟨a,s,y,ks,rfl,K,L,M⟩:=h.one;refine dU.KT (Z old) (by kernel_rfl) (bO.of (le1 W Y old (X old) (Z old) t.rel a t.rule s t.kids.length y) (aT rfl) ?_);refine bO.box h rfl rfl (λb=>AF.jd (by show(((true&&(Nat.blt (OLD+b) 0||Nat.ble OLD (OLD+b))&&true)&&true&&true)&&true)=true;rw[oI];rfl)) λold' b z hp=>?_;refine bO.ku (X old') (Z old') (lv0 W Y old' (X old') (Z old') b) (lC b) rfl (aT rfl) (c18 W Y X Z old' hp r) ?_
 rintro d w k ⟨m,n,ps,rfl,h1,A⟩
 have p:=Lv t.size [t] (by show t.size+0=_;omega);refine bO.of (lv1 W Y d (X d) (Z d) old' b m (Db t.size [t]).length n) (aT rfl) ?_;have key:=vJ W Y X Z (Q:=SY (((Db t.size [t]).filter nW).map qZ)) (((Db t.size [t]).filter nW).map qZ) (Db t.size [t]) (by omega) j (λ_ _ h=>h.shape)
  (λold B=>Gy W Y X Z old λo=>⟨[],[],by rw[B];rfl,⟨.inr ⟨rfl,rfl,rfl⟩,λx f=>by cases f⟩,List.Pairwise.nil,λ_=>rfl⟩)
  (λold b c cs g C i=>by
   have D:∀x∈((Db t.size [t]).filter nW).map qZ,x.args.length<=268435456:=λx f=>by
    obtain⟨u,F,rfl⟩:=bP.1 f;exact(j u (fB.1 F).1).2
   obtain⟨l,e1,e2,G⟩:=C.fc D;have e:l.length=(((Db t.size [t]).filter nW).map qZ).length:=by rw[← e1,bH]
   rw[← e]at g ⊢;rw[e2]at g;refine dU.mono (Tq W Y X Z g G (λh=>i (by rw[← e1,h];rfl)) (by rw[e,bH];have:=List.length_filter_le nW (Db t.size [t]);omega)) λold' N _ ⟨H,I,J⟩=>⟨l,H,e1,I,J⟩)
  (Db t.size [t]).length 0 d m n ps [] (by omega) h1 A (by rw[fP];rfl) (bT _)
 exact key.1 rfl
theorem c9x(old:Old){t:T}(g:wI old v t)(i:65536<=t.kids.length)(hs2:t.kids.length<=268435456):dU prog E old 9 [v] (λ_ w=>w= .aO none 0 0):=by
 obtain⟨cs,rfl,h⟩:=g;obtain⟨a,j,k,ks,rfl,m,n,o⟩:=h.one;refine dU.KT (Z old) (by kernel_rfl) (bO.of (le1 W Y old (X old) (Z old) t.rel a t.rule j t.kids.length k) (aT rfl) ?_);refine bO.box h rfl rfl (λb=>AF.jd (by show(((true&&(Nat.blt (OLD+b) 0||Nat.ble OLD (OLD+b))&&true)&&true&&true)&&true)=true;rw[oI];rfl)) λold' b l hp=>?_;refine bO.ku (X old') (Z old') (lv0 W Y old' (X old') (Z old') b) (lC b) rfl (aT rfl) (Xp W Y X Z old' hp i hs2) ?_
 rintro c w e rfl
 refine bO.of (lv2 W Y c (X c) (Z c) old' b) (aT rfl) ?_;refine bO.ku (X c) (Z c) (lf7 W Y c (X c) (Z c)) rfl rfl (aT rfl) (Gy W Y X Z (Q:=λ_ w=>w= .aO none 0 0) c λ_=>rfl) ?_
 rintro d w f rfl
 exact bO.does (lg7 W Y d (X d) (Z d) c none 0 0) (aT rfl) rfl (qh.low rfl rfl)
end
end
section
variable(Y:Fe)(Z:Ge)
include Y Z
theorem he3 (old : Old) (F : Fw old) (FF : Gw old) (a : Old) (b q m c : Nat) (d : m ≤ 65536) (h0 : 0 < m)  : AtCall prog (E.wo old) [.n 10, .l (.sl 0 0 m (some m)) (aC (.cells (rep m [AV.int IntKind.i64 0]) 3 false false)), .n 14, .k (.fn 56 [] [zP 3 0]) (iK (Av q m c) (zA m) (.cells (rep m [AV.int IntKind.i64 0]) 3 false false) (XM m)), .n 2] ((gX prog (E.wo a) [.n 1] (((OH (.ptr (OLD + b) 0)) : AF)) (⟨.e, 0, 0⟩) (ZW q m c))) (⟨.e, 0, 0⟩) 56 [.yield 5, zP 3 0] (lX (Av q m c) (zA m) (AO.loop LoopState.ready none 8 67 (((((Tr.e.n (some (AV.int IntKind.i64 (↑m : Int))) Tr.e).n none Tr.e).n (some (AV.aO (some (q, 0)) m c)) ((Tr.e.n (some (AV.aO (some (q, 0)) m c)) Tr.e).n (some (AV.bV [AV.aO (some (q, 0)) m c, AV.bool true])) Tr.e)).n (some (AV.ptr (1152921504606846976 + b) 0)) (((Tr.e.n (some (AV.aO (some (q, 0)) m c)) Tr.e).n none Tr.e).n (some (AV.ptr 1 0)) (Tr.e.n (some (AV.bool true)) Tr.e))).n none ((((Tr.e.n (some (AV.sl 0 0 m (some m))) Tr.e).n none Tr.e).n (some (AV.bool true)) ((Tr.e.n (some (AV.fn 56 [] [AV.ptr 3 0])) Tr.e).n (some (AV.aO (some (q, 0)) m c)) Tr.e)).n (some (AV.int IntKind.i64 0)) (((Tr.e.n (some (AV.int IntKind.i64 (↑m : Int))) Tr.e).n (some (AV.bV [AV.aO (some (q, 0)) m c, AV.bool true])) Tr.e).n (some (AV.ptr 2 0)) (Tr.e.n (some (AV.aO (some (q, 0)) m c)) Tr.e)))) [21, 22] ((Code.region 5 #[{ dst := some 7, op := Op.assign (Operand.tmp 21), type := 3, pos := "proof.go:223", after := #[], guard := none }] false).seq (Code.region 6 #[{ dst := some 8, op := Op.assign (Operand.tmp 22), type := 54, pos := "proof.go:223", after := #[], guard := none }] false)) (Code.block 1 (((Code.region 7 #[{ dst := some 23, op := Op.move (Operand.tmp 8), type := 54, pos := "proof.go:224", after := #[], guard := none }, { dst := some 24, op := Op.call { callee := Callee.value (Operand.func 27), args := #[Operand.tmp 23], argTypes := #[54] }, type := 4, pos := "proof.go:224", after := #[{ on := 0, ground := Ground.data }], guard := none }, { dst := some 25, op := Op.unOp UnOp.not 4 (Operand.tmp 24), type := 4, pos := "proof.go:224", after := #[{ on := 1, ground := Ground.data }], guard := none }] false).seq (Code.cond (Operand.tmp 25) (Code.region 8 #[{ dst := some 26, op := Op.load 55 (Operand.tmp 5), type := 55, pos := "proof.go:225", after := #[], guard := none }, { dst := some 27, op := Op.move (Operand.tmp 7), type := 3, pos := "proof.go:225", after := #[], guard := none }, { dst := some 28, op := Op.indexAddr 55 (Operand.tmp 26) (Operand.tmp 27), type := 0, pos := "proof.go:225", after := #[{ on := 0, ground := Ground.data }, { on := 1, ground := Ground.data }, { on := 0, ground := Ground.phase }, { on := 1, ground := Ground.phase }], guard := none }, { dst := none, op := Op.store 3 (Operand.tmp 28) (Operand.const (Value.int IntKind.i64 1)), type := 0, pos := "proof.go:225", after := #[{ on := 2, ground := Ground.data }, { on := 0, ground := Ground.phase }, { on := 1, ground := Ground.phase }], guard := none }] false) Code.skip)).seq (((Code.region 9 #[{ dst := some 29, op := Op.load 3 (Operand.tmp 6), type := 3, pos := "proof.go:227", after := #[], guard := none }, { dst := some 30, op := Op.move (Operand.tmp 8), type := 54, pos := "proof.go:227", after := #[], guard := none }, { dst := some 31, op := Op.nilCheck (Operand.tmp 30), type := 0, pos := "proof.go:227", after := #[{ on := 1, ground := Ground.data }], guard := none }, { dst := some 32, op := Op.fieldAddr 28 (Operand.tmp 31) 2, type := 0, pos := "proof.go:227", after := #[{ on := 2, ground := Ground.data }], guard := none }, { dst := some 33, op := Op.load 26 (Operand.tmp 32), type := 26, pos := "proof.go:227", after := #[{ on := 3, ground := Ground.data }], guard := none }, { dst := some 34, op := Op.call { callee := Callee.builtin Builtin.len, args := #[Operand.tmp 33], argTypes := #[26] }, type := 3, pos := "proof.go:227", after := #[{ on := 4, ground := Ground.data }], guard := none }, { dst := some 35, op := Op.binOp BinOp.sub 3 (Operand.tmp 29) (Operand.tmp 34) 3, type := 3, pos := "proof.go:227", after := #[{ on := 0, ground := Ground.data }, { on := 5, ground := Ground.data }], guard := none }, { dst := some 9, op := Op.assign (Operand.tmp 35), type := 3, pos := "proof.go:227", after := #[{ on := 6, ground := Ground.data }, { on := 0, ground := Ground.phase }, { on := 1, ground := Ground.phase }, { on := 2, ground := Ground.phase }, { on := 3, ground := Ground.phase }, { on := 4, ground := Ground.phase }, { on := 5, ground := Ground.phase }, { on := 6, ground := Ground.phase }], guard := none }] true).seq (Code.block 2 (((Code.region 10 #[{ dst := some 36, op := Op.move (Operand.tmp 9), type := 3, pos := "proof.go:227", after := #[], guard := none }, { dst := some 37, op := Op.load 3 (Operand.tmp 6), type := 3, pos := "proof.go:227", after := #[], guard := none }, { dst := some 38, op := Op.binOp BinOp.lss 3 (Operand.tmp 36) (Operand.tmp 37) 3, type := 4, pos := "proof.go:227", after := #[{ on := 0, ground := Ground.data }, { on := 1, ground := Ground.data }], guard := none }] false).seq (Code.cond (Operand.tmp 38) Code.skip (Code.exit 2))).seq ((Code.block 3 (Code.region 12 #[{ dst := some 41, op := Op.load 55 (Operand.tmp 5), type := 55, pos := "proof.go:228", after := #[], guard := none }, { dst := some 42, op := Op.move (Operand.tmp 7), type := 3, pos := "proof.go:228", after := #[], guard := none }, { dst := some 43, op := Op.load 55 (Operand.tmp 5), type := 55, pos := "proof.go:228", after := #[], guard := none }, { dst := some 44, op := Op.move (Operand.tmp 7), type := 3, pos := "proof.go:228", after := #[], guard := none }, { dst := some 45, op := Op.indexAddr 55 (Operand.tmp 43) (Operand.tmp 44), type := 0, pos := "proof.go:228", after := #[{ on := 2, ground := Ground.data }, { on := 3, ground := Ground.data }], guard := none }, { dst := some 46, op := Op.load 3 (Operand.tmp 45), type := 3, pos := "proof.go:228", after := #[{ on := 4, ground := Ground.data }], guard := none }, { dst := some 47, op := Op.load 55 (Operand.tmp 5), type := 55, pos := "proof.go:228", after := #[], guard := none }, { dst := some 48, op := Op.move (Operand.tmp 9), type := 3, pos := "proof.go:228", after := #[], guard := none }, { dst := some 49, op := Op.indexAddr 55 (Operand.tmp 47) (Operand.tmp 48), type := 0, pos := "proof.go:228", after := #[{ on := 6, ground := Ground.data }, { on := 7, ground := Ground.data }], guard := none }, { dst := some 50, op := Op.load 3 (Operand.tmp 49), type := 3, pos := "proof.go:228", after := #[{ on := 8, ground := Ground.data }], guard := none }, { dst := some 51, op := Op.binOp BinOp.add 3 (Operand.tmp 50) (Operand.const (Value.int IntKind.i64 1)) 3, type := 3, pos := "proof.go:228", after := #[{ on := 9, ground := Ground.data }], guard := none }, { dst := some 52, op := Op.call { callee := Callee.builtin Builtin.max, args := #[Operand.tmp 46, Operand.tmp 51], argTypes := #[3, 3] }, type := 3, pos := "proof.go:228", after := #[{ on := 5, ground := Ground.data }, { on := 10, ground := Ground.data }], guard := none }, { dst := some 53, op := Op.indexAddr 55 (Operand.tmp 41) (Operand.tmp 42), type := 0, pos := "proof.go:228", after := #[{ on := 0, ground := Ground.data }, { on := 1, ground := Ground.data }, { on := 0, ground := Ground.phase }, { on := 1, ground := Ground.phase }, { on := 2, ground := Ground.phase }, { on := 3, ground := Ground.phase }, { on := 4, ground := Ground.phase }, { on := 5, ground := Ground.phase }, { on := 6, ground := Ground.phase }, { on := 7, ground := Ground.phase }, { on := 8, ground := Ground.phase }, { on := 9, ground := Ground.phase }, { on := 10, ground := Ground.phase }, { on := 11, ground := Ground.phase }], guard := none }, { dst := none, op := Op.store 3 (Operand.tmp 53) (Operand.tmp 52), type := 0, pos := "proof.go:228", after := #[{ on := 12, ground := Ground.data }, { on := 11, ground := Ground.data }, { on := 0, ground := Ground.phase }, { on := 1, ground := Ground.phase }, { on := 2, ground := Ground.phase }, { on := 3, ground := Ground.phase }, { on := 4, ground := Ground.phase }, { on := 5, ground := Ground.phase }, { on := 6, ground := Ground.phase }, { on := 7, ground := Ground.phase }, { on := 8, ground := Ground.phase }, { on := 9, ground := Ground.phase }, { on := 10, ground := Ground.phase }, { on := 11, ground := Ground.phase }], guard := none }] true)).seq (Code.region 11 #[{ dst := some 39, op := Op.move (Operand.tmp 9), type := 3, pos := "proof.go:227", after := #[], guard := none }, { dst := some 40, op := Op.binOp BinOp.add 3 (Operand.tmp 39) (Operand.const (Value.int IntKind.i64 1)) 3, type := 3, pos := "proof.go:227", after := #[{ on := 0, ground := Ground.data }], guard := none }, { dst := some 9, op := Op.assign (Operand.tmp 40), type := 3, pos := "proof.go:227", after := #[{ on := 1, ground := Ground.data }, { on := 0, ground := Ground.phase }, { on := 1, ground := Ground.phase }], guard := none }] false))).loop)).seq (Code.region 13 #[{ dst := some 54, op := Op.load 3 (Operand.tmp 6), type := 3, pos := "proof.go:230", after := #[], guard := none }, { dst := some 55, op := Op.move (Operand.tmp 8), type := 54, pos := "proof.go:230", after := #[], guard := none }, { dst := some 56, op := Op.nilCheck (Operand.tmp 55), type := 0, pos := "proof.go:230", after := #[{ on := 1, ground := Ground.data }], guard := none }, { dst := some 57, op := Op.fieldAddr 28 (Operand.tmp 56) 2, type := 0, pos := "proof.go:230", after := #[{ on := 2, ground := Ground.data }], guard := none }, { dst := some 58, op := Op.load 26 (Operand.tmp 57), type := 26, pos := "proof.go:230", after := #[{ on := 3, ground := Ground.data }], guard := none }, { dst := some 59, op := Op.call { callee := Callee.builtin Builtin.len, args := #[Operand.tmp 58], argTypes := #[26] }, type := 3, pos := "proof.go:230", after := #[{ on := 4, ground := Ground.data }], guard := none }, { dst := some 60, op := Op.binOp BinOp.sub 3 (Operand.tmp 54) (Operand.tmp 59) 3, type := 3, pos := "proof.go:230", after := #[{ on := 0, ground := Ground.data }, { on := 5, ground := Ground.data }], guard := none }, { dst := none, op := Op.store 3 (Operand.tmp 6) (Operand.tmp 60), type := 0, pos := "proof.go:230", after := #[{ on := 6, ground := Ground.data }, { on := 0, ground := Ground.phase }, { on := 1, ground := Ground.phase }, { on := 2, ground := Ground.phase }, { on := 3, ground := Ground.phase }, { on := 4, ground := Ground.phase }, { on := 5, ground := Ground.phase }, { on := 6, ground := Ground.phase }], guard := none }] true)))) 4) (.cells (rep m [AV.int IntKind.i64 0]) 3 false false) (AO.rz false) (XM m)) :=
 ⟨[some true=some true,(none:Option AV)=none,eF (E.wo old) ⟨.e,0,0⟩ 55 (zI ((↑m:Int))) (zI ((↑m:Int)))=some (.val (.sl 0 0 m (some m)) (aC (.cells (rep m [AV.int IntKind.i64 0]) 3 false false))),DC old 26 [.aO (some (q,0)) m c] (bG (zA m) (.cells (rep m [AV.int IntKind.i64 0]) 3 false false) (XM m)) (.fn 56 [] [zP 3 0]) (iK (Av q m c) (zA m) (.cells (rep m [AV.int IntKind.i64 0]) 3 false false) (XM m))],by kernel_rfl,⟨rfl,rfl,wZ (e:=3) (by kernel_rfl) (by kernel_rfl) (by omega),DoesC.of_run F FF (n:=3000) (p:=((.fn 56 [] [zP 3 0]),(iK (Av q m c) (zA m) (.cells (rep m [AV.int IntKind.i64 0]) 3 false false) (XM m)))) (by kernel_rfl)⟩⟩
end
section
variable(Y:Fe)(Z:Ge)
include Y Z
section
variable(X:Old)(F:Fw X)(V:Gw X)(b q m c:Nat)(W:List AV)(e:Int)
include X F V b q m c W e
theorem it0:DS X (ent (E.wo X) 56 [.yield 5,.ptr 3 0]) (vS q m c b W e) (J3 (zI (IntKind.i64.wrap ((↑m:Int) - 1)))) (vS q m c b W e):=
 jK F V [0,1,3] (Qn 9) (by kernel_rfl)
theorem it3(i:Int)(a:(decide (i≥0))=false):DR X (J3 (zI i)) (vS q m c b W e) (.bV []) (vS q m c b W e):=
 prt F V (Qb 4 a (Qn 4)) (by kernel_rfl)
theorem it2(i:Int)(x d f:Nat)(a:List AV)(e2:Int):DS X (Xb prog (E.wo X) [.n 4,.v (.bool true),.n 11,.v (zP (1152921504606846976+q) (0+x*1)),.v (zP (1152921504606846976+d) f)] (J3 (zI i)) (vS q m c b W e) (.bool true)) (vS q m c b a e2) (J3 (zI (IntKind.i64.wrap (i - 1)))) (vS q m c b a e2):=
 jK F V [0,1,3] (Qn 11) (by kernel_rfl)
theorem he5(a:Old)(u:Int)(h0:0<m)(g:((↑m:Int)==0)=false)(d:∀h:AH,h.obj 0= .cells W 3 false false->loadT (E.wo X) h 3 0 (0*1)=some (zI u))(f:((↑m:Int)==0)=false):DR X (gX prog (E.wo X) [.n 10,.l (.sl 0 0 m (some m)) (aC (.cells (rep m [AV.int IntKind.i64 0]) 3 false false)),.n 14,.k (.fn 56 [] [zP 3 0]) (iK (Av q m c) (zA m) (.cells (rep m [AV.int IntKind.i64 0]) 3 false false) (.cells [zI (↑m:Int)] 3 false false)),.n 2] (gX prog (E.wo a) [.n 1] (OH (.ptr (OLD+b) 0)) ⟨.e,0,0⟩ (ZW q m c)) ⟨.e,0,0⟩ (.bV [])) (vS q m c b W e) (zI u) (lX (Av q m c) (zA m) (aaG m q c b) (oZ W) (AO.rz true) (pJ e)):=
 prt F V (Qb 7 f (Qv 6 (jf (e:=3) (z:=1) (j:=0) (x:=0) (by kernel_rfl) (by kernel_rfl) rfl h0:aR (E.wo X) 55 (l9 (E.wo X) (.sl 0 0 m (some m))) (zI 0)=some (zP 0 0)) (Qv 0 (d (lX (Av q m c) (zA m) (aaG m q c b) (oZ W) (AO.rz false) (pJ e)) rfl) (Qn 4)))) (by kernel_rfl)
end
theorem it1(old:Old)(F:Fw old)(FF:Gw old)(b q m c:Nat)(cs:List AV)(e:Int)(i:Int)(x:Nat)(f:i=(↑x:Int))(lx:x<m)(a d:Nat)(g:∀h:AH,loadT (E.wo old) h 54 (OLD+q) (0+x*1)=some (.ptr (OLD+a) d))(j:decide (i≥0)=true):
 Ta prog (E.wo old) [.n 4,.v (.bool true),.n 11,.v (zP (1152921504606846976+q) (0+x*1)),.v (zP (1152921504606846976+a) d)] (J3 (zI i)) (vS q m c b cs e) ⟨⟨8,false,some 5,67⟩,((((((Tr.e.n (some (AV.int IntKind.i64 (↑m:Int))) Tr.e).n none Tr.e).n (some (AV.aO (some (q,0)) m c)) ((Tr.e.n (some (AV.aO (some (q,0)) m c)) Tr.e).n (some (AV.bV [AV.aO (some (q,0)) m c,AV.bool true])) Tr.e)).n (some (AV.ptr (1152921504606846976+b) 0)) (((Tr.e.n (some (AV.aO (some (q,0)) m c)) Tr.e).n none Tr.e).n (some (AV.ptr 1 0)) (Tr.e.n (some (AV.bool true)) Tr.e))).n none ((((Tr.e.n (some (AV.sl 0 0 m (some m))) Tr.e).n none Tr.e).n (some (AV.bool true)) ((Tr.e.n (some (AV.fn 56 [] [AV.ptr 3 0])) Tr.e).n (some (AV.aO (some (q,0)) m c)) Tr.e)).n (some (AV.int IntKind.i64 0)) (((Tr.e.n (some (AV.int IntKind.i64 (↑m:Int))) Tr.e).n (some (AV.bV [AV.aO (some (q,0)) m c,AV.bool true])) Tr.e).n (some (AV.ptr 2 0)) (Tr.e.n (some (AV.aO (some (q,0)) m c)) Tr.e)))).set 21 (zI i)).set 22 (.ptr (OLD+a) d),Sw,[],false⟩ (vS q m c b cs e):=
 ⟨[some true=some true,some (AV.bool (decide (i≥0)))=some (AV.bool true),some true=some true,aR (E.wo old) 51 (l9 (E.wo old) (.aO (some (q,0)) m c)) (zI i)=some (zP (1152921504606846976+q) (0+x*1)),some true=some true,loadT (E.wo old) (vS q m c b cs e) 54 (1152921504606846976+q) (0+x*1)=some (.ptr (OLD+a) d)],by kernel_rfl,⟨rfl,fZ (λz=>some (AV.bool z)) j,rfl,gL (e:=54) (by kernel_rfl) (by kernel_rfl) rfl f lx,rfl,g _⟩⟩
end
section
variable(Y:Fe)(Z:Ge)
include Y Z
section
variable(X:Old)(F:Fw X)(T:Gw X)(b q m c:Nat)(W:List AV)(e i:Int)(U V:Nat)
include X F T b q m c W e i U V
theorem bdA(k:Option (Nat×Nat))(a f:Nat)(d:∀h:AH,loadT (E.wo X) h 26 (OLD+U) (V+3)=some (.aO k a f))(g:DC X 27 [.ptr (OLD+U) V] (nu q m c b W e) (.bool true) (nu q m c b W e))(j:(decide (IntKind.i64.wrap (e - (↑a:Int))<e))=false):DR X ⟨⟨8,false,some 5,67⟩,((((((Tr.e.n (some (AV.int IntKind.i64 (↑m:Int))) Tr.e).n none Tr.e).n (some (AV.aO (some (q,0)) m c)) ((Tr.e.n (some (AV.aO (some (q,0)) m c)) Tr.e).n (some (AV.bV [AV.aO (some (q,0)) m c,AV.bool true])) Tr.e)).n (some (AV.ptr (1152921504606846976+b) 0)) (((Tr.e.n (some (AV.aO (some (q,0)) m c)) Tr.e).n none Tr.e).n (some (AV.ptr 1 0)) (Tr.e.n (some (AV.bool true)) Tr.e))).n none ((((Tr.e.n (some (AV.sl 0 0 m (some m))) Tr.e).n none Tr.e).n (some (AV.bool true)) ((Tr.e.n (some (AV.fn 56 [] [AV.ptr 3 0])) Tr.e).n (some (AV.aO (some (q,0)) m c)) Tr.e)).n (some (AV.int IntKind.i64 0)) (((Tr.e.n (some (AV.int IntKind.i64 (↑m:Int))) Tr.e).n (some (AV.bV [AV.aO (some (q,0)) m c,AV.bool true])) Tr.e).n (some (AV.ptr 2 0)) (Tr.e.n (some (AV.aO (some (q,0)) m c)) Tr.e)))).set 21 (zI i)).set 22 (.ptr (OLD+U) V),Sw,[],false⟩ (vS q m c b W e) (.bool true) (lX (Av q m c) (zA m) (Xy m q c b) (oZ W) (AO.rz false) (.cells [zI (IntKind.i64.wrap (e - (↑a:Int)))] 3 false false)):=
 prt F T (Qk 13 g (Qd 6 [.c,.c,.c,.c,.v (.aO k a f),.c,.c,.c] (Qq (d (nu q m c b W e)) (Qs (zI (↑a:Int)) (Qp (d (nu q m c b W e)) (Qs (zI e) (Qb 7 j (Qd 3 [.c,.c,.c,.c,.v (.aO k a f),.c,.c,.c] (Qq (d (nu q m c b W e)) (Qs (zI (↑a:Int)) (Qp (d (nu q m c b W e)) (Qs (zI e) (Qn 1))))))))))))) (by kernel_rfl)
theorem bdB(k:Option (Nat×Nat))(d g:Nat)(j:∀h:AH,loadT (E.wo X) h 26 (OLD+U) (V+3)=some (.aO k d g))(f:DC X 27 [.ptr (OLD+U) V] (nu q m c b W e) (.bool false) (nu q m c b W e))(x:Nat)(l:i=(↑x:Int))(lx:x<m)(a:List AV)(o:dD (nu q m c b W e) 0 (x*1) [zI 1]=some (lX (Av q m c) (zA m) (JW m q c b) (.cells a 3 false false) (AO.rz false) (pJ e))):DS X ⟨⟨8,false,some 5,67⟩,((((((Tr.e.n (some (AV.int IntKind.i64 (↑m:Int))) Tr.e).n none Tr.e).n (some (AV.aO (some (q,0)) m c)) ((Tr.e.n (some (AV.aO (some (q,0)) m c)) Tr.e).n (some (AV.bV [AV.aO (some (q,0)) m c,AV.bool true])) Tr.e)).n (some (AV.ptr (1152921504606846976+b) 0)) (((Tr.e.n (some (AV.aO (some (q,0)) m c)) Tr.e).n none Tr.e).n (some (AV.ptr 1 0)) (Tr.e.n (some (AV.bool true)) Tr.e))).n none ((((Tr.e.n (some (AV.sl 0 0 m (some m))) Tr.e).n none Tr.e).n (some (AV.bool true)) ((Tr.e.n (some (AV.fn 56 [] [AV.ptr 3 0])) Tr.e).n (some (AV.aO (some (q,0)) m c)) Tr.e)).n (some (AV.int IntKind.i64 0)) (((Tr.e.n (some (AV.int IntKind.i64 (↑m:Int))) Tr.e).n (some (AV.bV [AV.aO (some (q,0)) m c,AV.bool true])) Tr.e).n (some (AV.ptr 2 0)) (Tr.e.n (some (AV.aO (some (q,0)) m c)) Tr.e)))).set 21 (zI i)).set 22 (.ptr (OLD+U) V),Sw,[],false⟩ (vS q m c b W e) (Ox (zI i) (zI (IntKind.i64.wrap (e - (↑d:Int)))) (zP (1152921504606846976+U) V)) (lX (Av q m c) (zA m) (JW m q c b) (.cells a 3 false false) (AO.rz false) (pJ e)):=
 jK F T [5,6,7,8,9] (Qk 13 f (Qv 6 (Yi X 0 (some m) l lx) (Ql 0 (F4 (by kernel_rfl) o:fU (E.wo X) (nu q m c b W e) 3 (zP 0 (x*1)) (zI 1)=some (.val (.bV []) (lX (Av q m c) (zA m) (JW m q c b) (.cells a 3 false false) (AO.rz false) (pJ e)))) (Qd 3 [.c,.c,.c,.c,.v (.aO k d g),.c,.c,.c] (Qq (j (lX (Av q m c) (zA m) (JW m q c b) (.cells a 3 false false) (AO.rz false) (pJ e))) (Qs (zI (↑d:Int)) (Qp (j (lX (Av q m c) (zA m) (JW m q c b) (.cells a 3 false false) (AO.rz false) (pJ e))) (Qs (zI e) (Qn 2))))))))) (by kernel_rfl)
theorem bdC(j:Int)(x y:Nat)(d:i=(↑x:Int))(lx:x<m)(k:j=(↑y:Int))(ly:y<m)(u v:Int)(f:∀h:AH,h.obj 0= .cells W 3 false false->loadT (E.wo X) h 3 0 (x*1)=some (zI u))(g:∀h:AH,h.obj 0= .cells W 3 false false->loadT (E.wo X) h 3 0 (y*1)=some (zI v))(a:List AV)(n:dD (nu q m c b W e) 0 (x*1) [zI (bif decide (IntKind.i64.wrap (v+1)>u)then IntKind.i64.wrap (v+1)else u)]=some (nu q m c b a e))(o:(decide (j<e))=true):DS X (Ox (zI i) (zI j) (.ptr (OLD+U) V)) (nu q m c b W e) (Ox (zI i) (zI (IntKind.i64.wrap (j+1))) (zP (1152921504606846976+U) V)) (nu q m c b a e):=
 jK F T [5,6,7,8,9] (Qb 5 o (Qd 5 [.c,.c,.c,.c,.v (zP 0 (x*1)),.v (zI u),.c,.c,.v (zP 0 (y*1)),.v (zI v),.c,.c,.v (zP 0 (x*1)),.l (.bV []) (nu q m c b a e)] (Qq (Yi X 0 (some m) d lx) (Qq (f (nu q m c b W e) rfl) (Qq (Yi X 0 (some m) k ly) (Qq (g (nu q m c b W e) rfl) (Qq (Yi X 0 (some m) d lx) (Qz (Qp (F4 (by kernel_rfl) n:fU (E.wo X) (nu q m c b W e) 3 (zP 0 (x*1)) (zI (bif decide (IntKind.i64.wrap (v+1)>u)then IntKind.i64.wrap (v+1)else u))=some (.val (.bV []) (nu q m c b a e))) (Qs (zI (bif decide (IntKind.i64.wrap (v+1)>u)then IntKind.i64.wrap (v+1)else u)) (Qp (g (nu q m c b W e) rfl) (Qs (.sl 0 0 m (some m)) (Qp (f (nu q m c b W e) rfl) (Qs (.sl 0 0 m (some m)) (Qs (.sl 0 0 m (some m)) (Qn 7)))))))))))))))) (by kernel_rfl)
theorem bdD(j:Int)(k:Option (Nat×Nat))(a d:Nat)(f:∀h:AH,loadT (E.wo X) h 26 (OLD+U) (V+3)=some (.aO k a d))(g:(decide (j<e))=false):DR X (Ox (zI i) (zI j) (.ptr (OLD+U) V)) (nu q m c b W e) (.bool true) (lX (Av q m c) (zA m) (Xy m q c b) (oZ W) (AO.rz false) (.cells [zI (IntKind.i64.wrap (e - (↑a:Int)))] 3 false false)):=
 prt F T (Qb 5 g (Qd 3 [.c,.c,.c,.c,.v (.aO k a d),.c,.c,.c] (Qq (f (nu q m c b W e)) (Qs (zI (↑a:Int)) (Qp (f (nu q m c b W e)) (Qs (zI e) (Qn 1))))))) (by kernel_rfl)
end
end
end Go.Ev
