/- A part of the proof that ProofBack returns true. -/
import Derived.Test.YtencnjmceojnjaaGreatDoorMyGr1
import Derived.Test.YtencnjmceojnjaaGreatDoorMyEv4
import Derived.Test.YtencnjmceojnjaaGreatDoorMyGr2
import Derived.Test.YtencnjmceojnjaaGreatDoorMyEv5
set_option linter.all false
namespace Go.Ev
open Go.Proofs Go.Proofs.Tryz
set_option maxRecDepth 100000
section
variable(Y:Fe)(Z:Ge)
include Y Z
theorem ics(old:Old)(F:Fw old)(FF:Gw old)(a b:Option (Nat×Nat))(n c m d:Nat):DS old (ent (E.wo old) 54 (mG a n c b m d)) ⟨.e,0,0⟩ (Jc (zI 0) (.aO b m d) (.aO a n c) (.aO a n c) (zI (↑n:Int))) ⟨.e,0,0⟩:=
 qH F FF [0,1,9,10,11] (Qn 13) (by kernel_rfl)
theorem ic4(old:Old)(F:Fw old)(FF:Gw old)(a b f g:Nat)(n m c d:Nat)(i x y:Int)(h0:0<=i)(h1:i<n)(j:i<m)(l:∀h,loadT (E.wo old) h 3 (OLD+a) (b+i.toNat*1)=some (zI x))(o:∀h,loadT (E.wo old) h 3 (OLD+f) (g+i.toNat*1)=some (zI y))(p:(decide (i<(↑n:Int)))=true)(q:(decide (i≥(↑m:Int)))=false)(r:(aK x y !=0)=true):DR old (Jc (zI i) (.aO (some (f,g)) m d) (.aO (some (a,b)) n c) (.aO (some (a,b)) n c) (zI (↑n:Int))) ⟨.e,0,0⟩ (zI (aK x y)) ⟨.e,0,0⟩:=
 Rh F FF (obs:=[some true=some true,some (AV.bool (decide (i<(↑n:Int))))=some (AV.bool true),some true=some true,aZ (E.wo old) 56 (nP (E.wo old) (.aO (some (a,b)) n c)) (zI i)=some (zP (1152921504606846976+a) (b+i.toNat*1)),some true=some true,loadT (E.wo old) ⟨.e,0,0⟩ 3 (1152921504606846976+a) (b+i.toNat*1)=some (zI x),some true=some true,some (AV.bool (decide (i≥(↑m:Int))))=some (AV.bool false),some true=some true,aZ (E.wo old) 56 (nP (E.wo old) (.aO (some (f,g)) m d)) (zI i)=some (zP (1152921504606846976+f) (g+i.toNat*1)),some true=some true,loadT (E.wo old) ⟨.e,0,0⟩ 3 (1152921504606846976+f) (g+i.toNat*1)=some (zI y),DC old 53 [zI x,zI y] ⟨.e,0,0⟩ (zI (aK x y)) ⟨.e,0,0⟩,some true=some true,some (AV.bool (aK x y !=0))=some (AV.bool true)]) [.n 2,.v (.bool true),.n 9,.v (zP (1152921504606846976+a) (b+i.toNat*1)),.v (zI x),.n 9,.v (.bool false),.n 7,.v (zP (1152921504606846976+f) (g+i.toNat*1)),.v (zI y),.n 6,.k (zI (aK x y)) ⟨.e,0,0⟩,.n 5,.v (.bool true),.n 8] (by kernel_rfl) ⟨rfl,gu (λz=>some (AV.bool z)) p,rfl,Ah (e:=3) (by kernel_rfl) (by kernel_rfl) rfl h0 h1,rfl,l _,rfl,gu (λz=>some (AV.bool z)) q,rfl,Ah (e:=3) (by kernel_rfl) (by kernel_rfl) rfl h0 j,rfl,o _,DoesC.ov (Gg Y Z old F FF x y) rfl rfl rfl (by kernel_rfl),rfl,gu (λz=>some (AV.bool z)) r⟩
theorem ic5(old:Old)(F:Fw old)(FF:Gw old)(a b f g:Nat)(n m c d:Nat)(i x y:Int)(h0:0<=i)(h1:i<n)(j:i<m)(l:∀h,loadT (E.wo old) h 3 (OLD+a) (b+i.toNat*1)=some (zI x))(o:∀h,loadT (E.wo old) h 3 (OLD+f) (g+i.toNat*1)=some (zI y))(p:(decide (i<(↑n:Int)))=true)(q:(decide (i≥(↑m:Int)))=false)(r:(aK x y !=0)=false):DS old (Jc (zI i) (.aO (some (f,g)) m d) (.aO (some (a,b)) n c) (.aO (some (a,b)) n c) (zI (↑n:Int))) ⟨.e,0,0⟩ (Jc (zI (IntKind.i64.wrap (i+1))) (.aO (some (f,g)) m d) (.aO (some (a,b)) n c) (.aO (some (a,b)) n c) (zI (↑n:Int))) ⟨.e,0,0⟩:=
 W9 F FF (obs:=[some true=some true,some (AV.bool (decide (i<(↑n:Int))))=some (AV.bool true),some true=some true,aZ (E.wo old) 56 (nP (E.wo old) (.aO (some (a,b)) n c)) (zI i)=some (zP (1152921504606846976+a) (b+i.toNat*1)),some true=some true,loadT (E.wo old) ⟨.e,0,0⟩ 3 (1152921504606846976+a) (b+i.toNat*1)=some (zI x),some true=some true,some (AV.bool (decide (i≥(↑m:Int))))=some (AV.bool false),some true=some true,aZ (E.wo old) 56 (nP (E.wo old) (.aO (some (f,g)) m d)) (zI i)=some (zP (1152921504606846976+f) (g+i.toNat*1)),some true=some true,loadT (E.wo old) ⟨.e,0,0⟩ 3 (1152921504606846976+f) (g+i.toNat*1)=some (zI y),DC old 53 [zI x,zI y] ⟨.e,0,0⟩ (zI (aK x y)) ⟨.e,0,0⟩,some true=some true,some (AV.bool (aK x y !=0))=some (AV.bool false)]) [.n 2,.v (.bool true),.n 9,.v (zP (1152921504606846976+a) (b+i.toNat*1)),.v (zI x),.n 9,.v (.bool false),.n 7,.v (zP (1152921504606846976+f) (g+i.toNat*1)),.v (zI y),.n 6,.k (zI (aK x y)) ⟨.e,0,0⟩,.n 5,.v (.bool false),.n 9] [0,1,9,10,11] (by kernel_rfl) ⟨rfl,gu (λz=>some (AV.bool z)) p,rfl,Ah (e:=3) (by kernel_rfl) (by kernel_rfl) rfl h0 h1,rfl,l _,rfl,gu (λz=>some (AV.bool z)) q,rfl,Ah (e:=3) (by kernel_rfl) (by kernel_rfl) rfl h0 j,rfl,o _,DoesC.ov (Gg Y Z old F FF x y) rfl rfl rfl (by kernel_rfl),rfl,gu (λz=>some (AV.bool z)) r⟩
section
variable(X:Old)(F:Fw X)(W:Gw X)
include X F W
theorem ic3(a f:Nat)(b:Option (Nat×Nat))(n m c d:Nat)(i x:Int)(h0:0<=i)(h1:i<n)(l:(m:Int)<=i)(g:∀h,loadT (E.wo X) h 3 (OLD+a) (f+i.toNat*1)=some (zI x))(j:(decide (i<(↑n:Int)))=true)(k:(decide (i≥(↑m:Int)))=true):DR X (Jc (zI i) (.aO b m d) (.aO (some (a,f)) n c) (.aO (some (a,f)) n c) (zI (↑n:Int))) ⟨.e,0,0⟩ (zI 1) ⟨.e,0,0⟩:=
 prt F W (Qb 2 j (Qv 9 (x56 X a f c h0 h1) (Qv 0 (g ⟨.e,0,0⟩) (Qb 9 k (Qn 7))))) (by kernel_rfl)
theorem ic1(a b:Option (Nat×Nat))(n m c d:Nat)(i:Int)(f:(decide (i<(↑n:Int)))=false)(g:(decide ((↑n:Int)<(↑m:Int)))=true):DR X (Jc (zI i) (.aO b m d) (.aO a n c) (.aO a n c) (zI (↑n:Int))) ⟨.e,0,0⟩ (zI (-1)) ⟨.e,0,0⟩:=
 prt F W (Qb 2 f (Qb 11 g (Qn 7))) (by kernel_rfl)
theorem ic2(a b:Option (Nat×Nat))(n m c d:Nat)(i:Int)(f:(decide (i<(↑n:Int)))=false)(g:(decide ((↑n:Int)<(↑m:Int)))=false):DR X (Jc (zI i) (.aO b m d) (.aO a n c) (.aO a n c) (zI (↑n:Int))) ⟨.e,0,0⟩ (zI 0) ⟨.e,0,0⟩:=
 prt F W (Qb 2 f (Qb 11 g (Qn 8))) (by kernel_rfl)
end
end
section
variable{i:Nat}{v:AV}
def yC:List Int->List Int->Int
 |[],[]=>0
 |[],_::_=> -1
 |_::_,[]=>1
 |x::r,y::s=>dV (aK x y) (yC r s)
def Za(old:Old)(a:Option (Nat×Nat))(i:Nat)(r:List Int):Prop:=r=[]∨∃b o,a=some (b,o)∧iI old b (o+i) r.length=some (r.map zI)
theorem Za.next{old:Old}{a:Option (Nat×Nat)}{x:Int}{r:List Int}(h:Za old a i (x::r)):∃b o,a=some (b,o)∧old b (o+i)=some (zI x)∧Za old a (i+1) r:=by
 rcases h with h|⟨b,o,rfl,h⟩
 .cases h
 .have h1:old b (o+i)=some (zI x):=by have:=pK (j:=0) h rfl;simpa using this
  refine⟨b,o,rfl,h1,?_⟩;rw[fB,Nat.add_comm r.length 1]at h;obtain⟨c1,c2,e,c,e1,e2⟩:=ug h;obtain⟨f,d⟩:=List.append_inj (s₁:=[zI x]) (t₁:=r.map zI) (s₂:=c1) (t₂:=c2) e (by rw[c];rfl);subst d;exact .inr ⟨b,o,rfl,by rw[show o+(i+1)=o+i+1 by omega];exact e2⟩
theorem Ph{old:Old}{k:AV}{l:List Int}(h:xQ old k l.length 1 (l.map zI)):∃a c,k= .aO a l.length c∧Za old a 0 l:=by
 rcases h with⟨b,o,c,rfl,d⟩|⟨rfl,h0,h1⟩
 .exact⟨_,_,rfl,.inr ⟨b,o,rfl,by rw[Nat.add_zero,← bJ l.length];exact d⟩⟩
 .rw[h0];exact⟨_,_,rfl,.inl (bM.1 h0)⟩
noncomputable def ahr(a:Option (Nat×Nat))(n c:Nat)(b:Option (Nat×Nat))(m d:Nat)(i:Int):AF:=(Jc (zI i) (.aO b m d) (.aO a n c) (.aO a n c) (zI ((↑n:Int))))
section
variable(W:Fe)(Y:Ge)(Z:Old)(F:Fw Z)(X:Gw Z)
include W Y F X
theorem aax(a:Option (Nat×Nat))(n c:Nat)(b:Option (Nat×Nat))(m d:Nat)(r:n<=268435456):∀(r1 r2:List Int) (i:Nat),Za Z a i r1->Za Z b i r2->n=i+r1.length->m=i+r2.length->jD prog (E.wo Z) (ahr a n c b m d (↑i:Int)) (zI (yC r1 r2))
 |[],[],i,j,k,h1,e=>jD.it (ic2 W Y Z F X a b n m c d (↑i:Int) (aH (by simp at h1;omega)) (aH (by simp at h1 e;omega))) (by kernel_rfl) rfl
 |[],y::r2,i,j,k,h1,e=>jD.it (ic1 W Y Z F X a b n m c d (↑i:Int) (aH (by simp at h1;omega)) (aB (by simp at h1 e;omega))) (by kernel_rfl) rfl
 |x::r1,[],i,j,k,h1,e=>by
  obtain⟨f,g,rfl,e1,_⟩:=j.next
  exact jD.it (ic3 W Y Z F X f g b n m c d (↑i:Int) x (by omega) (by simp at h1;omega) (by simp at e;omega) (λh=>by rw[bZ,bJ];exact kT (by kernel_rfl) e1) (aB (by simp at h1;omega)) (aB (by simp at e;show(m:Int)<=i;omega))) (by kernel_rfl) rfl
 |x::r1,y::r2,i,j,k,h1,e=>by
  obtain⟨f,g,rfl,e1,s⟩:=j.next
  obtain⟨l,o,rfl,e2,t⟩:=k.next
  have l1:∀h,loadT (E.wo Z) h 3 (OLD+f) (g+(↑i:Int).toNat*1)=some (zI x):=λh=>by rw[bZ,bJ];exact kT (by kernel_rfl) e1
  have l2:∀h,loadT (E.wo Z) h 3 (OLD+l) (o+(↑i:Int).toNat*1)=some (zI y):=λh=>by rw[bZ,bJ];exact kT (by kernel_rfl) e2
  have p:(↑i:Int)<(↑n:Int):=by simp at h1;omega
  have g2:(↑i:Int)<(↑m:Int):=by simp at e;omega
  show jD _ _ _ (zI (dV (aK x y) (yC r1 r2)));by_cases q:aK x y=0
  .have A:=ic5 W Y Z F X f g l o n m c d (↑i:Int) x y (by omega) p g2 l1 l2 (aB p) (aH (by omega)) (rM q)
   rw[Zn (by simp at h1;omega)]at A;have B:=aax (some (f,g)) n c (some (l,o)) m d r r1 r2 (i+1) s t (by simp at h1;omega) (by simp at e;omega);rw[show dV (aK x y) (yC r1 r2)=yC r1 r2 by unfold dV;rw[aC q]];exact jD.of (A.agx rfl (by kernel_rfl) (AF.sJ (by kernel_rfl)) (AF.sJ (by kernel_rfl))) B
  .rw[show dV (aK x y) (yC r1 r2)=aK x y by unfold dV;rw[ah q]]
   exact jD.it (ic4 W Y Z F X f g l o n m c d (↑i:Int) x y (by omega) p g2 l1 l2 (aB p) (aH (by omega)) (BX q)) (by kernel_rfl) rfl
theorem c53{w:AV}{l m:List Int}(e:xQ Z v l.length 1 (l.map zI))(f:xQ Z w m.length 1 (m.map zI))(g:l.length<=268435456):DC Z 54 [v,w] eH (zI (yC l m)) eH:=by
 obtain⟨a,c,rfl,h⟩:=Ph e;obtain⟨b,d,rfl,i⟩:=Ph f;exact DoesC.Zh X (by kernel_rfl) (jD.of (ics W Y Z F X a b l.length c m.length d) (aax W Y Z F X a l.length c b m.length d g l m 0 h i (by omega) (by omega))) rfl rfl
end
end
section
variable(Y:Fe)(Z:Ge)
include Y Z
section
variable(V:Old)(F:Fw V)(O:Gw V)(a b j k:Option (Nat×Nat))(n c m d S R U T:Nat)(P Q:List UInt8)(W X z w:Int)(M:DC V 37 [l9 P a n c,l9 Q b m d] eH (zI z) eH)(N:DC V 54 (mG j S R k U T) eH (zI w) eH)
include V F O a b j k n c m d S R U T P Q W X z w M N
theorem Ru(e:(z !=0)=true):DR V (ent (E.wo V) 52 [.sl 2 0 3 (some 3)]) (dJ (dQ Q b m d X k U T) (dQ P a n c W j S R) (.cells [zI z,zI (aK W X),zI w] 3 false false)) (zI z) (dJ (dQ Q b m d X k U T) (dQ P a n c W j S R) (.cells [zI z,zI (aK W X),zI w] 3 false false)):=
 prt F O (Qb 36 e (Qn 8)) (by kernel_rfl)
theorem Rt(e:(z !=0)=false)(f:(aK W X !=0)=true):DR V (ent (E.wo V) 52 [.sl 2 0 3 (some 3)]) (dJ (dQ Q b m d X k U T) (dQ P a n c W j S R) (.cells [zI z,zI (aK W X),zI w] 3 false false)) (zI (aK W X)) (dJ (dQ Q b m d X k U T) (dQ P a n c W j S R) (.cells [zI z,zI (aK W X),zI w] 3 false false)):=
 prt F O (Qb 36 e (Qb 28 f (Qn 8))) (by kernel_rfl)
theorem Rq(e:(z !=0)=false)(f:(aK W X !=0)=false)(g:(w !=0)=true):DR V (ent (E.wo V) 52 [.sl 2 0 3 (some 3)]) (dJ (dQ Q b m d X k U T) (dQ P a n c W j S R) (.cells [zI z,zI (aK W X),zI w] 3 false false)) (zI w) (dJ (dQ Q b m d X k U T) (dQ P a n c W j S R) (.cells [zI z,zI (aK W X),zI w] 3 false false)):=
 prt F O (Qb 36 e (Qb 28 f (Qb 28 g (Qn 8)))) (by kernel_rfl)
theorem Ro(e:(z !=0)=false)(f:(aK W X !=0)=false)(g:(w !=0)=false):DR V (ent (E.wo V) 52 [.sl 2 0 3 (some 3)]) (dJ (dQ Q b m d X k U T) (dQ P a n c W j S R) (.cells [zI z,zI (aK W X),zI w] 3 false false)) (zI 0) (dJ (dQ Q b m d X k U T) (dQ P a n c W j S R) (.cells [zI z,zI (aK W X),zI w] 3 false false)):=
 prt F O (Qb 36 e (Qb 28 f (Qb 28 g (Qn 22)))) (by kernel_rfl)
theorem afT(f:(z !=0)=true):DR V (ent (E.wo V) 24 [kR P a n c W j S R,kR Q b m d X k U T]) ⟨.e,0,0⟩ (zI z) (dJ (dQ Q b m d X k U T) (dQ P a n c W j S R) (.cells [zI z,zI (aK W X),zI w] 3 false false)):=
 prt F O (Qd 7 [.c,.c,.c,.c,.k (zI z) (kC Q b m d X k U T P a n c W j S R),.c,.c,.c,.c,.k (zI (aK W X)) (kC Q b m d X k U T P a n c W j S R),.c,.c,.c,.c,.k (zI w) (kC Q b m d X k U T P a n c W j S R),.c,.k (zI z) (dJ (dQ Q b m d X k U T) (dQ P a n c W j S R) (.cells [zI z,zI (aK W X),zI w] 3 false false)),.c] (Qp (DoesC.ov M rfl rfl rfl (by kernel_rfl):DC V 37 [l9 P a n c,l9 Q b m d] (kC Q b m d X k U T P a n c W j S R) (zI z) (kC Q b m d X k U T P a n c W j S R)) (Qp (DoesC.ov (Gg Y Z V F O W X) rfl rfl rfl (by kernel_rfl):DC V 53 [zI W,zI X] (kC Q b m d X k U T P a n c W j S R) (zI (aK W X)) (kC Q b m d X k U T P a n c W j S R)) (Qp (DoesC.ov N rfl rfl rfl (by kernel_rfl):DC V 54 (mG j S R k U T) (kC Q b m d X k U T P a n c W j S R) (zI w) (kC Q b m d X k U T P a n c W j S R)) (Qp (DoesC.ent O (by kernel_rfl) (Ru Y Z V F O a b j k n c m d S R U T P Q W X z w M N f):DC V 52 [.sl 2 0 3 (some 3)] (dJ (dQ Q b m d X k U T) (dQ P a n c W j S R) (.cells [zI z,zI (aK W X),zI w] 3 false false)) (zI z) (dJ (dQ Q b m d X k U T) (dQ P a n c W j S R) (.cells [zI z,zI (aK W X),zI w] 3 false false))) (Qs (.aO k U T) (Qs (.aO k U T) (Qs (.aO k U T) (Qs (.aO j S R) (Qs (.aO j S R) (Qs (.aO j S R) (Qs (zI X) (Qs (zI X) (Qs (zI W) (Qs (zI W) (Qs (l9 Q b m d) (Qs (l9 P a n c) (Qn 1)))))))))))))))))) (by kernel_rfl)
end
theorem acA(old:Old)(F:Fw old)(FF:Gw old)(a b j k:Option (Nat×Nat))(n c m d jn jc kn kc:Nat)(r1 r2:List UInt8)(u1 u2 z w:Int)(hC:DC old 37 [l9 r1 a n c,l9 r2 b m d] eH (zI z) eH)(hD:DC old 54 (mG j jn jc k kn kc) eH (zI w) eH)(f:(z !=0)=true):DC old 24 [kR r1 a n c u1 j jn jc,kR r2 b m d u2 k kn kc] ⟨.e,0,0⟩ (zI z) ⟨.e,0,0⟩:=
 DoesC.drop (DoesC.ent FF (by kernel_rfl) (afT Y Z old F FF a b j k n c m d jn jc kn kc r1 r2 u1 u2 z w hC hD f)) [] (by kernel_rfl) (by kernel_rfl) (by kernel_rfl) rfl (by kernel_rfl) (by kernel_rfl) (by kernel_rfl)
theorem afS(old:Old)(F:Fw old)(FF:Gw old)(a b j k:Option (Nat×Nat))(n c m d jn jc kn kc:Nat)(r1 r2:List UInt8)(u1 u2 z w:Int)(hC:DC old 37 [l9 r1 a n c,l9 r2 b m d] eH (zI z) eH)(hD:DC old 54 (mG j jn jc k kn kc) eH (zI w) eH)(f:(z !=0)=false)(g:(aK u1 u2 !=0)=true):DR old (ent (E.wo old) 24 [kR r1 a n c u1 j jn jc,kR r2 b m d u2 k kn kc]) ⟨.e,0,0⟩ (zI (aK u1 u2)) (dJ (dQ r2 b m d u2 k kn kc) (dQ r1 a n c u1 j jn jc) (.cells [zI z,zI (aK u1 u2),zI w] 3 false false)):=
 prt F FF (Qd 7 [.c,.c,.c,.c,.k (zI z) (kC r2 b m d u2 k kn kc r1 a n c u1 j jn jc),.c,.c,.c,.c,.k (zI (aK u1 u2)) (kC r2 b m d u2 k kn kc r1 a n c u1 j jn jc),.c,.c,.c,.c,.k (zI w) (kC r2 b m d u2 k kn kc r1 a n c u1 j jn jc),.c,.k (zI (aK u1 u2)) (dJ (dQ r2 b m d u2 k kn kc) (dQ r1 a n c u1 j jn jc) (.cells [zI z,zI (aK u1 u2),zI w] 3 false false)),.c] (Qp (DoesC.ov hC rfl rfl rfl (by kernel_rfl):DC old 37 [l9 r1 a n c,l9 r2 b m d] (kC r2 b m d u2 k kn kc r1 a n c u1 j jn jc) (zI z) (kC r2 b m d u2 k kn kc r1 a n c u1 j jn jc)) (Qp (DoesC.ov (Gg Y Z old F FF u1 u2) rfl rfl rfl (by kernel_rfl):DC old 53 [zI u1,zI u2] (kC r2 b m d u2 k kn kc r1 a n c u1 j jn jc) (zI (aK u1 u2)) (kC r2 b m d u2 k kn kc r1 a n c u1 j jn jc)) (Qp (DoesC.ov hD rfl rfl rfl (by kernel_rfl):DC old 54 (mG j jn jc k kn kc) (kC r2 b m d u2 k kn kc r1 a n c u1 j jn jc) (zI w) (kC r2 b m d u2 k kn kc r1 a n c u1 j jn jc)) (Qp (DoesC.ent FF (by kernel_rfl) (Rt Y Z old F FF a b j k n c m d jn jc kn kc r1 r2 u1 u2 z w hC hD f g):DC old 52 [.sl 2 0 3 (some 3)] (dJ (dQ r2 b m d u2 k kn kc) (dQ r1 a n c u1 j jn jc) (.cells [zI z,zI (aK u1 u2),zI w] 3 false false)) (zI (aK u1 u2)) (dJ (dQ r2 b m d u2 k kn kc) (dQ r1 a n c u1 j jn jc) (.cells [zI z,zI (aK u1 u2),zI w] 3 false false))) (Qs (.aO k kn kc) (Qs (.aO k kn kc) (Qs (.aO k kn kc) (Qs (.aO j jn jc) (Qs (.aO j jn jc) (Qs (.aO j jn jc) (Qs (zI u2) (Qs (zI u2) (Qs (zI u1) (Qs (zI u1) (Qs (l9 r2 b m d) (Qs (l9 r1 a n c) (Qn 1)))))))))))))))))) (by kernel_rfl)
theorem acz(old:Old)(F:Fw old)(FF:Gw old)(a b j k:Option (Nat×Nat))(n c m d jn jc kn kc:Nat)(r1 r2:List UInt8)(u1 u2 z w:Int)(hC:DC old 37 [l9 r1 a n c,l9 r2 b m d] eH (zI z) eH)(hD:DC old 54 (mG j jn jc k kn kc) eH (zI w) eH)(f:(z !=0)=false)(g:(aK u1 u2 !=0)=true):DC old 24 [kR r1 a n c u1 j jn jc,kR r2 b m d u2 k kn kc] ⟨.e,0,0⟩ (zI (aK u1 u2)) ⟨.e,0,0⟩:=
 DoesC.drop (DoesC.ent FF (by kernel_rfl) (afS Y Z old F FF a b j k n c m d jn jc kn kc r1 r2 u1 u2 z w hC hD f g)) [] (by kernel_rfl) (by kernel_rfl) (by kernel_rfl) rfl (by kernel_rfl) (by kernel_rfl) (by kernel_rfl)
theorem afR(old:Old)(F:Fw old)(FF:Gw old)(a b j k:Option (Nat×Nat))(n c m d jn jc kn kc:Nat)(r1 r2:List UInt8)(u1 u2 z w:Int)(hC:DC old 37 [l9 r1 a n c,l9 r2 b m d] eH (zI z) eH)(hD:DC old 54 (mG j jn jc k kn kc) eH (zI w) eH)(f:(z !=0)=false)(g:(aK u1 u2 !=0)=false)(h:(w !=0)=true):DR old (ent (E.wo old) 24 [kR r1 a n c u1 j jn jc,kR r2 b m d u2 k kn kc]) ⟨.e,0,0⟩ (zI w) (dJ (dQ r2 b m d u2 k kn kc) (dQ r1 a n c u1 j jn jc) (.cells [zI z,zI (aK u1 u2),zI w] 3 false false)):=
 prt F FF (Qd 7 [.c,.c,.c,.c,.k (zI z) (kC r2 b m d u2 k kn kc r1 a n c u1 j jn jc),.c,.c,.c,.c,.k (zI (aK u1 u2)) (kC r2 b m d u2 k kn kc r1 a n c u1 j jn jc),.c,.c,.c,.c,.k (zI w) (kC r2 b m d u2 k kn kc r1 a n c u1 j jn jc),.c,.k (zI w) (dJ (dQ r2 b m d u2 k kn kc) (dQ r1 a n c u1 j jn jc) (.cells [zI z,zI (aK u1 u2),zI w] 3 false false)),.c] (Qp (DoesC.ov hC rfl rfl rfl (by kernel_rfl):DC old 37 [l9 r1 a n c,l9 r2 b m d] (kC r2 b m d u2 k kn kc r1 a n c u1 j jn jc) (zI z) (kC r2 b m d u2 k kn kc r1 a n c u1 j jn jc)) (Qp (DoesC.ov (Gg Y Z old F FF u1 u2) rfl rfl rfl (by kernel_rfl):DC old 53 [zI u1,zI u2] (kC r2 b m d u2 k kn kc r1 a n c u1 j jn jc) (zI (aK u1 u2)) (kC r2 b m d u2 k kn kc r1 a n c u1 j jn jc)) (Qp (DoesC.ov hD rfl rfl rfl (by kernel_rfl):DC old 54 (mG j jn jc k kn kc) (kC r2 b m d u2 k kn kc r1 a n c u1 j jn jc) (zI w) (kC r2 b m d u2 k kn kc r1 a n c u1 j jn jc)) (Qp (DoesC.ent FF (by kernel_rfl) (Rq Y Z old F FF a b j k n c m d jn jc kn kc r1 r2 u1 u2 z w hC hD f g h):DC old 52 [.sl 2 0 3 (some 3)] (dJ (dQ r2 b m d u2 k kn kc) (dQ r1 a n c u1 j jn jc) (.cells [zI z,zI (aK u1 u2),zI w] 3 false false)) (zI w) (dJ (dQ r2 b m d u2 k kn kc) (dQ r1 a n c u1 j jn jc) (.cells [zI z,zI (aK u1 u2),zI w] 3 false false))) (Qs (.aO k kn kc) (Qs (.aO k kn kc) (Qs (.aO k kn kc) (Qs (.aO j jn jc) (Qs (.aO j jn jc) (Qs (.aO j jn jc) (Qs (zI u2) (Qs (zI u2) (Qs (zI u1) (Qs (zI u1) (Qs (l9 r2 b m d) (Qs (l9 r1 a n c) (Qn 1)))))))))))))))))) (by kernel_rfl)
theorem acy(old:Old)(F:Fw old)(FF:Gw old)(a b j k:Option (Nat×Nat))(n c m d jn jc kn kc:Nat)(r1 r2:List UInt8)(u1 u2 z w:Int)(hC:DC old 37 [l9 r1 a n c,l9 r2 b m d] eH (zI z) eH)(hD:DC old 54 (mG j jn jc k kn kc) eH (zI w) eH)(f:(z !=0)=false)(g:(aK u1 u2 !=0)=false)(h:(w !=0)=true):DC old 24 [kR r1 a n c u1 j jn jc,kR r2 b m d u2 k kn kc] ⟨.e,0,0⟩ (zI w) ⟨.e,0,0⟩:=
 DoesC.drop (DoesC.ent FF (by kernel_rfl) (afR Y Z old F FF a b j k n c m d jn jc kn kc r1 r2 u1 u2 z w hC hD f g h)) [] (by kernel_rfl) (by kernel_rfl) (by kernel_rfl) rfl (by kernel_rfl) (by kernel_rfl) (by kernel_rfl)
theorem afQ(old:Old)(F:Fw old)(FF:Gw old)(a b j k:Option (Nat×Nat))(n c m d jn jc kn kc:Nat)(r1 r2:List UInt8)(u1 u2 z w:Int)(hC:DC old 37 [l9 r1 a n c,l9 r2 b m d] eH (zI z) eH)(hD:DC old 54 (mG j jn jc k kn kc) eH (zI w) eH)(f:(z !=0)=false)(g:(aK u1 u2 !=0)=false)(h:(w !=0)=false):DR old (ent (E.wo old) 24 [kR r1 a n c u1 j jn jc,kR r2 b m d u2 k kn kc]) ⟨.e,0,0⟩ (zI 0) (dJ (dQ r2 b m d u2 k kn kc) (dQ r1 a n c u1 j jn jc) (.cells [zI z,zI (aK u1 u2),zI w] 3 false false)):=
 prt F FF (Qd 7 [.c,.c,.c,.c,.k (zI z) (kC r2 b m d u2 k kn kc r1 a n c u1 j jn jc),.c,.c,.c,.c,.k (zI (aK u1 u2)) (kC r2 b m d u2 k kn kc r1 a n c u1 j jn jc),.c,.c,.c,.c,.k (zI w) (kC r2 b m d u2 k kn kc r1 a n c u1 j jn jc),.c,.k (zI 0) (dJ (dQ r2 b m d u2 k kn kc) (dQ r1 a n c u1 j jn jc) (.cells [zI z,zI (aK u1 u2),zI w] 3 false false)),.c] (Qp (DoesC.ov hC rfl rfl rfl (by kernel_rfl):DC old 37 [l9 r1 a n c,l9 r2 b m d] (kC r2 b m d u2 k kn kc r1 a n c u1 j jn jc) (zI z) (kC r2 b m d u2 k kn kc r1 a n c u1 j jn jc)) (Qp (DoesC.ov (Gg Y Z old F FF u1 u2) rfl rfl rfl (by kernel_rfl):DC old 53 [zI u1,zI u2] (kC r2 b m d u2 k kn kc r1 a n c u1 j jn jc) (zI (aK u1 u2)) (kC r2 b m d u2 k kn kc r1 a n c u1 j jn jc)) (Qp (DoesC.ov hD rfl rfl rfl (by kernel_rfl):DC old 54 (mG j jn jc k kn kc) (kC r2 b m d u2 k kn kc r1 a n c u1 j jn jc) (zI w) (kC r2 b m d u2 k kn kc r1 a n c u1 j jn jc)) (Qp (DoesC.ent FF (by kernel_rfl) (Ro Y Z old F FF a b j k n c m d jn jc kn kc r1 r2 u1 u2 z w hC hD f g h):DC old 52 [.sl 2 0 3 (some 3)] (dJ (dQ r2 b m d u2 k kn kc) (dQ r1 a n c u1 j jn jc) (.cells [zI z,zI (aK u1 u2),zI w] 3 false false)) (zI 0) (dJ (dQ r2 b m d u2 k kn kc) (dQ r1 a n c u1 j jn jc) (.cells [zI z,zI (aK u1 u2),zI w] 3 false false))) (Qs (.aO k kn kc) (Qs (.aO k kn kc) (Qs (.aO k kn kc) (Qs (.aO j jn jc) (Qs (.aO j jn jc) (Qs (.aO j jn jc) (Qs (zI u2) (Qs (zI u2) (Qs (zI u1) (Qs (zI u1) (Qs (l9 r2 b m d) (Qs (l9 r1 a n c) (Qn 1)))))))))))))))))) (by kernel_rfl)
theorem acw(old:Old)(F:Fw old)(FF:Gw old)(a b j k:Option (Nat×Nat))(n c m d jn jc kn kc:Nat)(r1 r2:List UInt8)(u1 u2 z w:Int)(hC:DC old 37 [l9 r1 a n c,l9 r2 b m d] eH (zI z) eH)(hD:DC old 54 (mG j jn jc k kn kc) eH (zI w) eH)(f:(z !=0)=false)(g:(aK u1 u2 !=0)=false)(h:(w !=0)=false):DC old 24 [kR r1 a n c u1 j jn jc,kR r2 b m d u2 k kn kc] ⟨.e,0,0⟩ (zI 0) ⟨.e,0,0⟩:=
 DoesC.drop (DoesC.ent FF (by kernel_rfl) (afQ Y Z old F FF a b j k n c m d jn jc kn kc r1 r2 u1 u2 z w hC hD f g h)) [] (by kernel_rfl) (by kernel_rfl) (by kernel_rfl) rfl (by kernel_rfl) (by kernel_rfl) (by kernel_rfl)
end
section
variable(Y:Fe)(Z:Ge)
include Y Z
section
variable(X:Old)(F:Fw X)(W:Gw X)
include X F W
theorem p23(eb ob a on p x:Nat)(i:Int)(r1:List UInt8)(d:Option (Nat×Nat))(f g:Nat)(u1:Int)(k1:Option (Nat×Nat))(l m:Nat)(r2:List UInt8)(b1:Option (Nat×Nat))(b2 b3:Nat)(u2:Int)(j1:Option (Nat×Nat))(j2 j3:Nat)(z:Int)(hi:i=(↑x:Int))(r:x<on)(q:∀h:AH,loadT (E.wo X) h 31 (OLD+eb) 0=some (.aO (some (ob,a)) on p))(hL:∀h:AH,loadT (E.wo X) h 65 (OLD+ob) (a+x*4)=some (kR r1 d f g u1 k1 l m))(hC:DC X 24 [kR r1 d f g u1 k1 l m,kR r2 b1 b2 b3 u2 j1 j2 j3] eH (zI z) eH):DR X (ent (E.wo X) 23 [zI i,kR r2 b1 b2 b3 u2 j1 j2 j3,.ptr (OLD+eb) 0]) ⟨.e,0,0⟩ (zI z) (kM r2 b1 b2 b3 u2 j1 j2 j3):=
 prt F W (Qd 6 [.v (.aO (some (ob,a)) on p),.c,.v (zP (1152921504606846976+ob) (a+x*4)),.v (kR r1 d f g u1 k1 l m),.c,.k (zI z) (kM r2 b1 b2 b3 u2 j1 j2 j3),.c] (Qq (q (kM r2 b1 b2 b3 u2 j1 j2 j3)) (Qq (jB (e:=65) (by kernel_rfl) (by kernel_rfl) rfl hi r:aZ (E.wo X) 31 (nP (E.wo X) (.aO (some (ob,a)) on p)) (zI i)=some (zP (1152921504606846976+ob) (a+x*4))) (Qq (hL (kM r2 b1 b2 b3 u2 j1 j2 j3)) (Qp (DoesC.ov hC rfl rfl rfl (by kernel_rfl):DC X 24 [kR r1 d f g u1 k1 l m,kR r2 b1 b2 b3 u2 j1 j2 j3] (kM r2 b1 b2 b3 u2 j1 j2 j3) (zI z) (kM r2 b1 b2 b3 u2 j1 j2 j3)) (Qs (kR r2 b1 b2 b3 u2 j1 j2 j3) (Qp (hL (kM r2 b1 b2 b3 u2 j1 j2 j3)) (Qp (q (kM r2 b1 b2 b3 u2 j1 j2 j3)) (Qn 1))))))))) (by kernel_rfl)
theorem fs0(eb b o n c:Nat)(r2:List UInt8)(b1:Option (Nat×Nat))(b2 b3:Nat)(u2:Int)(j1:Option (Nat×Nat))(j2 j3:Nat):DS X (ent (E.wo X) 22 [.aO (some (b,o)) n c,kR r2 b1 b2 b3 u2 j1 j2 j3,.fn 23 [] [.ptr (OLD+eb) 0]]) ⟨.e,0,0⟩ (Uu (zI 0) (.aO (some (b,o)) n c) (zI (↑n:Int)) (.fn 23 [] [zP (1152921504606846976+eb) 0]) (zI (↑n:Int))) (kM r2 b1 b2 b3 u2 j1 j2 j3):=
 qH F W [0,2,4,8,9,10] (Qn 21) (by kernel_rfl)
theorem fsn(eb:Nat)(r2:List UInt8)(b1:Option (Nat×Nat))(b2 b3:Nat)(u2:Int)(j1:Option (Nat×Nat))(j2 j3:Nat):DR X (ent (E.wo X) 22 [.aO none 0 0,kR r2 b1 b2 b3 u2 j1 j2 j3,.fn 23 [] [.ptr (OLD+eb) 0]]) ⟨.e,0,0⟩ (.gI [zI 0,.bool false]) (kM r2 b1 b2 b3 u2 j1 j2 j3):=
 prt F W (Qd 31 [.c,.c,.c,.c,.c,.c,.c,.c,.c,.c,.c,.c,.c,.c,.c,.c] (Qn 1)) (by kernel_rfl)
end
section
variable(X:Old)(F:Fw X)(H:Gw X)(O b o n c:Nat)(V:List UInt8)(P:Option (Nat×Nat))(Q R:Nat)(W:Int)(S:Option (Nat×Nat))(T U:Nat)(i j z w:Int)(J:0<=(IntKind.i64.wrap ((IntKind.u64.wrap (IntKind.i64.wrap (i+j))).fdiv 2)))(K:(IntKind.i64.wrap ((IntKind.u64.wrap (IntKind.i64.wrap (i+j))).fdiv 2))<n)(N:∀h,loadT (E.wo X) h 3 (OLD+b) (o+(IntKind.i64.wrap ((IntKind.u64.wrap (IntKind.i64.wrap (i+j))).fdiv 2)).toNat*1)=some (zI w))(L:Qu X 23 [zI w,kR V P Q R W S T U,.ptr (OLD+O) 0] (zI z))(M:(decide (i<j))=true)
include X F H O b o n c V P Q R W S T U i j z w J K N L M
theorem ahE(o2:(decide (z<0))=true):DS X (Ul i b o n c O j) (kM V P Q R W S T U) (Uu (zI (IntKind.i64.wrap (IntKind.i64.wrap ((IntKind.u64.wrap (IntKind.i64.wrap (i+j))).fdiv 2)+1))) (.aO (some (b,o)) n c) (zI (↑n:Int)) (.fn 23 [] [zP (1152921504606846976+O) 0]) (zI j)) (kM V P Q R W S T U):=
 qH F H [0,2,4,8,9,10] (Qb 5 M (Qd 15 [.c,.c,.c,.v (zP (1152921504606846976+b) (o+(IntKind.i64.wrap ((IntKind.u64.wrap (IntKind.i64.wrap (i+j))).fdiv 2)).toNat*1)),.v (zI w),.c,.k (zI z) (kM V P Q R W S T U),.v (.bool true)] (Qq (x56 X b o c J K) (Qq (N (kM V P Q R W S T U)) (Qp (L (kM V P Q R W S T U) (by kernel_rfl) rfl) (Qq (Qc o2) (Qs (kR V P Q R W S T U) (Qp (N (kM V P Q R W S T U)) (Qn 8))))))))) (by kernel_rfl)
theorem ahD(o2:(decide (z<0))=false):DS X (Ul i b o n c O j) (kM V P Q R W S T U) (Uu (zI i) (.aO (some (b,o)) n c) (zI (↑n:Int)) (.fn 23 [] [zP (1152921504606846976+O) 0]) (zI (IntKind.i64.wrap ((IntKind.u64.wrap (IntKind.i64.wrap (i+j))).fdiv 2)))) (kM V P Q R W S T U):=
 qH F H [0,2,4,8,9,10] (Qb 5 M (Qd 15 [.c,.c,.c,.v (zP (1152921504606846976+b) (o+(IntKind.i64.wrap ((IntKind.u64.wrap (IntKind.i64.wrap (i+j))).fdiv 2)).toNat*1)),.v (zI w),.c,.k (zI z) (kM V P Q R W S T U),.v (.bool false)] (Qq (x56 X b o c J K) (Qq (N (kM V P Q R W S T U)) (Qp (L (kM V P Q R W S T U) (by kernel_rfl) rfl) (Qq (Qc o2) (Qs (kR V P Q R W S T U) (Qp (N (kM V P Q R W S T U)) (Qn 7))))))))) (by kernel_rfl)
end
theorem fsx(old:Old)(F:Fw old)(FF:Gw old)(eb b o n c:Nat)(r2:List UInt8)(b1:Option (Nat×Nat))(b2 b3:Nat)(u2:Int)(j1:Option (Nat×Nat))(j2 j3:Nat)(i j:Int)(o1:(decide (i<j))=false)(o2:(decide (i<(↑n:Int)))=false):DR old (Ul i b o n c eb j) (kM r2 b1 b2 b3 u2 j1 j2 j3) (.gI [zI i,.bool false]) (kM r2 b1 b2 b3 u2 j1 j2 j3):=
 prt F FF (Qb 5 o1 (Qd 4 [.c,.c,.c,.v (.bool false),.c,.c,.c,.c,.c,.c,.c,.c,.c,.c,.c,.c] (Qq (Qc o2) (Qn 1)))) (by kernel_rfl)
section
variable(X:Old)(F:Fw X)(G:Gw X)(N b o n c:Nat)(V:List UInt8)(P:Option (Nat×Nat))(Q R:Nat)(W:Int)(S:Option (Nat×Nat))(T U:Nat)(i j z w:Int)(H:0<=i)(J:i<n)(O:∀h,loadT (E.wo X) h 3 (OLD+b) (o+(i).toNat*1)=some (zI w))(K:Qu X 23 [zI w,kR V P Q R W S T U,.ptr (OLD+N) 0] (zI z))(L:(decide (i<j))=false)(M:(decide (i<(↑n:Int)))=true)
include X F G N b o n c V P Q R W S T U i j z w H J O K L M
theorem agc(a:(z==0)=true):DR X (Ul i b o n c N j) (kM V P Q R W S T U) (.gI [zI i,.bool true]) (kM V P Q R W S T U):=
 prt F G (Qb 5 L (Qd 4 [.c,.c,.c,.v (.bool true),.c,.c,.c,.c,.v (zP (1152921504606846976+b) (o+i.toNat*1)),.v (zI w),.c,.k (zI z) (kM V P Q R W S T U),.v (.bool true),.c,.c,.c] (Qq (Qc M) (Qq (x56 X b o c H J) (Qq (O (kM V P Q R W S T U)) (Qp (K (kM V P Q R W S T U) (by kernel_rfl) rfl) (Qq (Qc a) (Qs (kR V P Q R W S T U) (Qp (O (kM V P Q R W S T U)) (Qn 1)))))))))) (by kernel_rfl)
theorem agb(a:(z==0)=false):DR X (Ul i b o n c N j) (kM V P Q R W S T U) (.gI [zI i,.bool false]) (kM V P Q R W S T U):=
 prt F G (Qb 5 L (Qd 4 [.c,.c,.c,.v (.bool true),.c,.c,.c,.c,.v (zP (1152921504606846976+b) (o+i.toNat*1)),.v (zI w),.c,.k (zI z) (kM V P Q R W S T U),.v (.bool false),.c,.c,.c] (Qq (Qc M) (Qq (x56 X b o c H J) (Qq (O (kM V P Q R W S T U)) (Qp (K (kM V P Q R W S T U) (by kernel_rfl) rfl) (Qq (Qc a) (Qs (kR V P Q R W S T U) (Qp (O (kM V P Q R W S T U)) (Qn 1)))))))))) (by kernel_rfl)
end
end
structure PF where
 rel:List UInt8
 args:List PV
def ahX(x y:PF):Int:=Jh x.rel x.args y.rel y.args
section
variable(W:Fe)(Y:Ge)(Z:Old)(F:Fw Z)(X:Gw Z)
include W Y F X
end
def qA{α:Type}(c:α->α->Int):List α->List α->Int
 |[],[]=>0
 |[],_::_=> -1
 |_::_,[]=>1
 |v::l,w::m=>dV (c v w) (qA c l m)
section
variable{Z Y:Type}
theorem TO.pull{c:Y->Y->Int}(T:TO c)(f:Z->Y):TO (λa b=>c (f a) (f b)):=⟨λa=>T.refl _,λh=>T.flip h,λh=>T.Tz h,λh g=>T.trans h g⟩
theorem Hq{a b:Int}:dV a b<0↔a<0∨(a=0∧b<0):=by unfold dV;split<;>omega
theorem Hr{a b:Int}:0<dV a b↔0<a∨(a=0∧0<b):=by unfold dV;split<;>omega
theorem vw{a b:Int}:dV a b<=0↔a<0∨(a=0∧b<=0):=by unfold dV;split<;>omega
theorem TO.or{c d:Z->Z->Int}(T:TO c)(U:TO d):TO (λa b=>dV (c a b) (d a b)):=by
 refine⟨λa=>by simp only[dV,T.refl,U.refl];rfl,λ{a b} h=>?_,λ{a b} h=>?_,λ{a b e} h g=>?_⟩
 .rcases Hq.1 h with h|⟨h,h'⟩
  .exact Hr.2 (.inl (T.flip h))
  .exact Hr.2 (.inr ⟨T.zero h,U.flip h'⟩)
 .rcases Hr.1 h with h|⟨h,h'⟩
  .exact Hq.2 (.inl (T.Tz h))
  .exact Hq.2 (.inr ⟨T.zero h,U.Tz h'⟩)
 .rcases vw.1 h with h|⟨h,h'⟩<;>rcases vw.1 g with g|⟨g,g'⟩
  .exact vw.2 (.inl (T.Sl h (sW g)))
  .exact vw.2 (.inl (T.Sl h (kQ g)))
  .exact vw.2 (.inl (T.aaA (kQ h) g))
  .exact vw.2 (.inr ⟨T.eq_trans h g,U.trans h' g'⟩)
theorem NC{c:Z->Z->Int}(T:TO c):∀l,qA c l l=0
 |[]=>rfl
 |a::l=>by show dV (c a a) (qA c l l)=0;rw[T.refl,NC T l];rfl
theorem HY{c:Z->Z->Int}(T:TO c):∀l m,(qA c l m<0->0<qA c m l)∧(0<qA c l m->qA c m l<0)
 |[],[]=>⟨λh=>aX h (show ¬(0:Int)<0 by decide),λh=>aX h (show ¬(0:Int)<0 by decide)⟩
 |[],_::_=>⟨λ_=>(show(0:Int)<1 by decide),λh=>aX h (show ¬(0:Int)< -1 by decide)⟩
 |_::_,[]=>⟨λh=>aX h (show ¬(1:Int)<0 by decide),λ_=>(show(-1:Int)<0 by decide)⟩
 |a::l,b::m=>by
  have d:=HY T l m;refine⟨λh=>?_,λh=>?_⟩
  .rcases Hq.1 h with h|⟨h,h'⟩
   .exact Hr.2 (.inl (T.flip h))
   .exact Hr.2 (.inr ⟨T.zero h,d.1 h'⟩)
  .rcases Hr.1 h with h|⟨h,h'⟩
   .exact Hq.2 (.inl (T.Tz h))
   .exact Hq.2 (.inr ⟨T.zero h,d.2 h'⟩)
theorem KJ{c:Z->Z->Int}(T:TO c):∀l m n,qA c l m<=0->qA c m n<=0->qA c l n<=0
 |[],_,[],_,_=>by show(0:Int)<=0;decide
 |[],_,_::_,_,_=>by show(-1:Int)<=0;decide
 |_::_,[],_,h,_=>aX h (by show ¬(1:Int)<=0;decide)
 |_::_,_::_,[],_,h=>aX h (by show ¬(1:Int)<=0;decide)
 |a::l,b::m,e::n,h,g=>by
  rcases vw.1 h with h|⟨h,h'⟩<;>rcases vw.1 g with g|⟨g,g'⟩
  .exact vw.2 (.inl (T.Sl h (sW g)))
  .exact vw.2 (.inl (T.Sl h (kQ g)))
  .exact vw.2 (.inl (T.aaA (kQ h) g))
  .exact vw.2 (.inr ⟨T.eq_trans h g,KJ T l m n h' g'⟩)
theorem TO.lex{c:Z->Z->Int}(T:TO c):TO (qA c):=⟨NC T,λh=>(HY T _ _).1 h,λh=>(HY T _ _).2 h,λh g=>KJ T _ _ _ h g⟩
end
theorem F9:TO aK:=by
 refine⟨λa=>?_,λ{a b} h=>?_,λ{a b} h=>?_,λ{a b c} h g=>?_⟩<;>unfold aK at* <;>(repeat' split at*)<;>omega
def yR(a b:UInt8):Int:=if a<b then -1 else if b<a then 1 else 0
theorem PY(a b:UInt8):yR a b=aK a.toNat b.toNat:=by
 unfold yR aK;simp only[UInt8.lt_iff_toNat_lt,Int.ofNat_lt,gt_iff_lt]
theorem XK:TO yR:=by
 have:yR=λa b=>aK ((λx:UInt8=>(x.toNat:Int)) a) ((λx:UInt8=>(x.toNat:Int)) b):=by funext a b;exact PY a b
 rw[this];exact F9.pull _
def cmpL(s t:List UInt8):Int:=
 match(List.range (min s.length t.length)).find? λi=>s[i]?.getD default !=t[i]?.getD default with
 |some i=>if s[i]?.getD default<t[i]?.getD default then -1 else 1
 |none=>if s.length<t.length then -1 else if s.length>t.length then 1 else 0
theorem adq(l:List UInt8)(i:Nat):(ByteArray.mk l.toArray)[i]! =l[i]?.getD default:=by
 by_cases h:i<l.length
 .have h':i<(ByteArray.mk l.toArray).size:=h
  rw[getElem!_pos (ByteArray.mk l.toArray) i h',aI h];rfl
 .have h':¬i<(ByteArray.mk l.toArray).size:=h
  rw[getElem!_neg (ByteArray.mk l.toArray) i h',mD (by omega)];rfl
theorem ae2(s t:List UInt8):jT s t=cmpL s t:=by
 unfold jT Extern.BytealgCompare.cmp cmpL;simp only[adq];rfl
theorem Ua:∀s t,cmpL s t=qA yR s t
 |[],[]=>rfl
 |[],b::t=>by simp[cmpL,qA]
 |a::s,[]=>by simp[cmpL,qA]
 |a::s,b::t=>by
  have c:=Ua s t;show cmpL (a::s) (b::t)=dV (yR a b) (qA yR s t);rw[← c];unfold cmpL;rw[show min (a::s).length (b::t).length=min s.length t.length+1 by simp,List.range_succ_eq_map,List.find?_cons];by_cases e:a=b
  .subst e
   have h0:((a::s)[0]?.getD default !=(a::t)[0]?.getD default)=false:=by simp
   rw[h0];simp only;rw[show yR a a=0 from XK.refl a,show ∀z,dV 0 z=z from λz=>rfl,List.find?_map];have d:((λi=>(a::s)[i]?.getD default !=(a::t)[i]?.getD default)∘Nat.succ)=λi=>s[i]?.getD default !=t[i]?.getD default:=by
    funext i;simp
   rw[d];cases f:(List.range (min s.length t.length)).find? λi=>s[i]?.getD default !=t[i]?.getD default with
   |none=>simp
   |some i=>simp
  .have h0:((a::s)[0]?.getD default !=(b::t)[0]?.getD default)=true:=by simpa using e
   rw[h0];simp only;show(if a<b then(-1:Int)else 1)=_;unfold yR dV;by_cases g:a<b
   .simp[g]
   .have:b<a:=by
     rw[UInt8.lt_iff_toNat_lt]at g ⊢;have:a.toNat≠b.toNat:=λh=>e (UInt8.toNat_inj.1 h);omega
    simp[g,this]
theorem Le(s t:List UInt8):jT s t=qA yR s t:=(ae2 s t).trans (Ua s t)
theorem XJ:TO jT:=by
 have:jT=qA yR:=by funext s t;exact Le s t
 rw[this];exact XK.lex
theorem adb:TO vG:=(F9.pull PV.k).or ((F9.pull PV.m).or (XJ.pull PV.s))
theorem Il:∀l m,lX l m=qA vG l m
 |[],[]=>rfl
 |[],_::_=>rfl
 |_::_,[]=>rfl
 |v::l,w::m=>by show dV _ _=dV _ _;rw[Il l m]
theorem abf:TO lX:=by
 have:lX=qA vG:=by funext s t;exact Il s t
 rw[this];exact adb.lex
theorem adf:TO ahX:=(XJ.pull PF.rel).or (abf.pull PF.args)
section
variable{L:List LN}{b eb i j:Nat}{cs:List AV}{y:LN}
def qj(x y:LN):Int:=dV (Jh x.rel x.args y.rel y.args) (dV (aK x.rule y.rule) (yC x.kids y.kids))
def vg(old:Old)(c:List AV)(x:LN):Prop:=∃a k,c=[.str x.rel,a,zI x.rule,k]∧iJ old a x.args∧xQ old k x.kids.length 1 (x.kids.map zI)
theorem vg.mono{old b:Old}(h:Old.le old b){c:List AV}{x:LN}(H:vg old c x):vg b c x:=by
 obtain⟨a,k,e,h1,d⟩:=H;exact⟨a,k,e,h1.mono h,xQ.mono h d⟩
theorem vg.low{old:Old}{c:List AV}{x:LN}(H:vg old c x):AV.fG 0 c=true:=by
 obtain⟨a,k,rfl,h1,b⟩:=H;show(true&&(AV.low 0 _&&(true&&(AV.low 0 _&&true))))=true;rw[pR h1,pR b];rfl
theorem xR.ln{old:Old}{o:Nat}(d:xR old cs L)(e:iI old b o (L.length*4)=some cs){x:LN}(hj:L[j]? =some x):∃c,iI old b (o+j*4) 4=some c∧vg old c x:=by
 obtain⟨a,k,h1,f,g⟩:=d.at e hj;exact⟨_,h1,a,k,rfl,f,g⟩
def afb(old:Old)(eb:Nat)(L:List LN):Prop:=∃ob a b cs,old eb 0=some (.aO (some (ob,a)) L.length b)∧xR old cs L∧iI old ob a (L.length*4)=some cs
noncomputable def bsL(eb b o n c:Nat)(y:List AV)(i j:Int):AF:=(Uu (zI i) (.aO (some (b,o)) n c) (zI ((↑n:Int))) (.fn 23 [] [.ptr (OLD+eb) 0]) (zI j))
theorem aeH(eb:Nat):AV.low 0 (.fn 23 [] [.ptr (OLD+eb) 0])=true:=by
 show(AV.fG 0 []&&(AV.low 0 (.ptr (OLD+eb) 0)&&true))=true;rw[Ac eb |> (λh=>(show AV.low 0 (.ptr (OLD+eb) 0)=true from h))];rfl
section
variable(W:Fe)(Y:Ge)(Z:Old)(F:Fw Z)(X:Gw Z)
include W Y F X
theorem c24{c d:List AV}{x:LN}(n:vg Z c x)(o:vg Z d y)(h1:x.args.length<=268435456)(p:x.kids.length<=268435456):DC Z 24 [.agg c,.agg d] eH (zI (qj x y)) eH:=by
 obtain⟨a,k,rfl,h,i⟩:=n;obtain⟨b,j,rfl,l,m⟩:=o;have C:=c49 W Y Z F X (r1:=x.rel) (r2:=y.rel) h l h1;have D:=c53 W Y Z F X i m p;obtain⟨q,r,s,rfl⟩:=h.shape;obtain⟨t,u,v,rfl⟩:=l.shape;obtain⟨r1,r2,rfl,_⟩:=Ph i;obtain⟨w,z,rfl,_⟩:=Ph m;by_cases f:Jh x.rel x.args y.rel y.args=0
 .by_cases z2:aK x.rule y.rule=0
  .by_cases g:yC x.kids y.kids=0
   .have e:qj x y=0:=by unfold qj dV;rw[aC f,aC z2,g]
    rw[e];exact acw W Y Z F X _ _ _ _ _ _ _ _ _ _ _ _ _ _ _ _ _ _ C D (rM f) (rM z2) (rM g)
   .have e:qj x y=yC x.kids y.kids:=by unfold qj dV;rw[aC f,aC z2]
    rw[e];exact acy W Y Z F X _ _ _ _ _ _ _ _ _ _ _ _ _ _ _ _ _ _ C D (rM f) (rM z2) (BX g)
  .have e:qj x y=aK x.rule y.rule:=by unfold qj dV;rw[aC f,ah z2]
   rw[e];exact acz W Y Z F X _ _ _ _ _ _ _ _ _ _ _ _ _ _ _ _ _ _ C D (rM f) (BX z2)
 .have e:qj x y=Jh x.rel x.args y.rel y.args:=by unfold qj dV;rw[ah f]
  rw[e];exact acA W Y Z F X _ _ _ _ _ _ _ _ _ _ _ _ _ _ _ _ _ _ C D (BX f)
theorem c23(q:afb Z eb L)(f:∀l∈L,l.args.length<=268435456∧l.kids.length<=268435456){d:List AV}(g:vg Z d y){x:LN}(hi:L[i]? =some x):
 DC Z 23 [zI i,.agg d,.ptr (OLD+eb) 0] eH (zI (qj x y)) eH:=by
 obtain⟨ob,r,s,cs,h1,u,v⟩:=q;obtain⟨c,w,p⟩:=u.ln v hi;obtain⟨m,n⟩:=f x (bP hi);have C:=c24 W Y Z F X p g m n;have o:i<L.length:=(aA.1 hi).1;have e:=qy (E:=E.wo Z) (t:=65) (z:=4) (by kernel_rfl) (by kernel_rfl) w;obtain⟨a,k,rfl,A,B⟩:=p;have D:=g.low;obtain⟨b,j,rfl,m,n⟩:=g;obtain⟨G,H,I,rfl⟩:=A.shape;obtain⟨J,K,M,rfl⟩:=m.shape;obtain⟨r1,r2,rfl,_⟩:=Ph B;obtain⟨N,O,rfl,_⟩:=Ph n;refine DoesC.drop (DoesC.ent X (by kernel_rfl) (p23 W Y Z F X eb ob r L.length s i i x.rel G H I x.rule r1 x.kids.length r2 y.rel J K M y.rule N y.kids.length O (qj x y) rfl o (λh=>kT (by kernel_rfl) h1) e C)) [] (by kernel_rfl) (by kernel_rfl) (by kernel_rfl) rfl (by kernel_rfl) ?_ (by kernel_rfl);show(true&&(AV.low 0 _&&(AV.low 0 (.ptr (OLD+eb) 0)&&true)))=true;rw[show AV.low 0 (.ptr (OLD+eb) 0)=true from Ac eb];rfl
end
end
section
variable{α:Type}{cf:α->α->Int}{eb:Nat}{v:AV}{σ:List Nat}
theorem Io:∀l m,yC l m=qA aK l m
 |[],[]=>rfl
 |[],_::_=>rfl
 |_::_,[]=>rfl
 |x::l,y::m=>by show dV _ (yC l m)=dV _ (qA aK l m);rw[Io]
theorem abg:TO yC:=by
 have:yC=qA aK:=funext λl=>funext λm=>Io l m;rw[this];exact F9.lex
def LN.fact(x:LN):PF:=⟨x.rel,x.args⟩
theorem JJ:TO qj:=(adf.pull LN.fact).or ((F9.pull LN.rule).or (abg.pull LN.kids))
theorem Sst.srt{l:List α}(h:Sst cf l):Srt cf l:=h.imp sW
structure vN(K:List LN)(y:LN)(k:Nat)(was:Bool):Prop where
 le:k<=K.length
 lo:∀(i:Nat) x,i<k->K[i]? =some x->qj x y<0
 hi:∀(i:Nat) x,k<=i->K[i]? =some x->0<=qj x y
 eq:was=true->∃x,K[k]? =some x∧qj x y=0
 ne:was=false->∀(i:Nat) x,K[i]? =some x->qj x y≠0
section
variable(W:Fe)(Y:Ge)(Z:Old)(F:Fw Z)(X:Gw Z)
include W Y F X
theorem c22{L K:List LN}(hs:xQ Z v σ.length 1 (σ.map λ(i:Nat)=>zI i))(hB:L≠[]->afb Z eb L)(Q:∀l∈L,l.args.length<=268435456∧l.kids.length<=268435456)(hn:L.length<=268435456)(B:σ.length=K.length)(hK:∀(i j:Nat),σ[i]? =some j->j<L.length∧L[j]? =K[i]?)(hS:Sst qj K)(hKn:K.length<=268435456){d:List AV}{y:LN}(R:vg Z d y):
 ∃k I,vN K y k I∧DC Z 22 [v,.agg d,.fn 23 [] [.ptr (OLD+eb) 0]] eH (.gI [zI (k:Nat),.bool I]) eH:=by
 have S:=R.low;have J:AV.fG 0 [v,.agg d,.fn 23 [] [.ptr (OLD+eb) 0]]=true:=by
  show(AV.low 0 v&&(AV.fG 0 d&&(AV.low 0 _&&true)))=true;rw[pR hs,S,aeH];rfl
 have fin:∀{k:Nat} {b:Bool} {w:AH},DR Z (Ev.ent (E.wo Z) 22 [v,.agg d,.fn 23 [] [.ptr (OLD+eb) 0]]) eH (.gI [zI (k:Nat),.bool b]) w->(jJ (E.wo Z) 22 [v,.agg d,.fn 23 [] [.ptr (OLD+eb) 0]] false).isSome=true->Nat.ble w.nx OLD=true->w.df=0->DC Z 22 [v,.agg d,.fn 23 [] [.ptr (OLD+eb) 0]] eH (.gI [zI (k:Nat),.bool b]) eH:=λ{k b w} A m h1 h0=>
  DoesC.move (ρ:=λi=>i) (by rw[AV.jI];exact DoesC.ent X m A) (Dp h0 (bK _) h1 (λi o e=>by rw[Tr.fO]at e;cases e) rfl) J rfl (λi o e=>by rw[show(eH.tr).get i=none from Tr.fO i]at e;cases e) rfl
 have U:=R;obtain⟨q0,j0,rfl,qa,qk⟩:=R;obtain⟨p,r,s,rfl⟩:=qa.shape;obtain⟨t,u,rfl,_⟩:=Ph qk;rcases hs with⟨b,o,c,rfl,hC⟩|⟨rfl,h0,_⟩
 .rw[bJ]at hC
  have M:∀x,x<σ.length->∃j e,σ[x]? =some j∧L[j]? =some e∧K[x]? =some e:=λx n=>by
   have h1:σ[x]? =some σ[x]:=aI n;obtain⟨w,N⟩:=hK x _ h1;have h4:L[σ[x]]? =some L[σ[x]]:=aI w;exact⟨_,_,h1,h4,by rw[← N];exact h4⟩
  have V:∀{j:Nat} {e:LN},L[j]? =some e->afb Z eb L:=λ{j e} h=>hB λh0=>by rw[h0]at h;cases h
  have a:∀{x j:Nat},σ[x]? =some j->∀h:AH,loadT (E.wo Z) h 3 (OLD+b) (o+(x:Int).toNat*1)=some (zI j):=λ{x j} hj h=>by
   rw[bZ,bJ];exact kT (by kernel_rfl) (pK hC (by rw[fP,hj];rfl))
  have f:∀{j:Nat} {e:LN},L[j]? =some e->∀h:AH,Nat.ble h.nx OLD=true->h.df=0->DC Z 23 [zI j,.agg [.str y.rel,.aO p r s,zI y.rule,.aO t y.kids.length u],.ptr (OLD+eb) 0] h (zI (qj e y)) h:=λ{j e} m h hn hd=>
   DoesC.ov (c23 W Y Z F X (V m) Q U m) (by
    show(true&&(AV.low 0 _&&(AV.low 0 (.ptr (OLD+eb) 0)&&true)))=true;rw[show AV.low 0 (.ptr (OLD+eb) 0)=true from Ac eb];rfl) rfl hd hn
  have A0:=fs0 W Y Z F X eb b o σ.length c y.rel p r s y.rule t y.kids.length u;let q:Nat->Bool:=λx=>match K[x]? with |some e=>decide (qj e y<0)|none=>false
  have G:∀{x:Nat} {e:LN},K[x]? =some e->q x=decide (qj e y<0):=λ{x e} m=>by show(match K[x]? with |some e=>decide (qj e y<0)|none=>false)=_;rw[m]
  have T:=JJ;obtain⟨k,k1,k2,k3,k4,k5⟩:=bsearch (P:=prog) (E:=E.wo Z) (St:=λi j=>bsL eb b o σ.length c [] i j) (hp:=⟨zL (.cells [.str y.rel,.aO p r s,zI y.rule,.aO t y.kids.length u] 65 false false),1,0⟩) q 0 σ.length
   (λi j h1 w N C=>by
    obtain⟨H,e,hj,m,O⟩:=M ((i+j) / 2) (by omega);rw[G O]at C;have w0:=af0 (i:=i) (j:=j) (by omega) (by omega);have A1:=ahE W Y Z F X eb b o σ.length c y.rel p r s y.rule t y.kids.length u i j (qj e y) H (by rw[w0];omega) (by rw[w0];omega) (by rw[w0];exact a hj) (f m) (aB (by omega)) C;rw[w0,lT (z:=(((i+j) / 2:Nat):Int)+1) (by omega) (by omega)]at A1;exact A1)
   (λi j h1 w N C=>by
    obtain⟨H,e,hj,m,O⟩:=M ((i+j) / 2) (by omega);rw[G O]at C;have w0:=af0 (i:=i) (j:=j) (by omega) (by omega);have A1:=ahD W Y Z F X eb b o σ.length c y.rel p r s y.rule t y.kids.length u i j (qj e y) H (by rw[w0];omega) (by rw[w0];omega) (by rw[w0];exact a hj) (f m) (aB (by omega)) C;rw[w0]at A1;exact A1)
   (λx z h1 w N C=>by
    obtain⟨_,e,_,_,m⟩:=M x (by omega);obtain⟨_,g,_,_,hg⟩:=M z N;rw[G hg]at C;rw[G m];exact aB (T.aaA (hS.srt.get T w m hg) (dN C)))
   σ.length 0 σ.length (by omega) (aj _) (bK _) (aj _) (λx h h'=>by omega) (λx h h'=>by omega)
  have lo:∀(i:Nat) x,i<k->K[i]? =some x->qj x y<0:=λi x hi n=>by
   have:=k3 i (bK _) hi;rw[G n]at this;exact dN this
  have hi:∀(i:Nat) x,k<=i->K[i]? =some x->0<=qj x y:=λi x hi n=>by
   have:=k4 i hi (by rw[B];exact(aA.1 n).1);rw[G n]at this;have:=of_decide_eq_false this;omega
  by_cases O:k<σ.length
  .obtain⟨H,e,hj,m,D⟩:=M k O
   have A2:∀z:Bool,(qj e y==0)=z->DR Z (bsL eb b o σ.length c [] k k) ⟨zL (.cells [.str y.rel,.aO p r s,zI y.rule,.aO t y.kids.length u] 65 false false),1,0⟩ (.gI [zI (k:Nat),.bool z]) ⟨zL (.cells [.str y.rel,.aO p r s,zI y.rule,.aO t y.kids.length u] 65 false false),1,0⟩:=λz hz=>by
    cases z
    .exact agb W Y Z F X eb b o σ.length c y.rel p r s y.rule t y.kids.length u k k (qj e y) H (by omega) (by omega) (a hj) (f m) (aH (by omega)) (aB (by omega)) hz
    .exact agc W Y Z F X eb b o σ.length c y.rel p r s y.rule t y.kids.length u k k (qj e y) H (by omega) (by omega) (a hj) (f m) (aH (by omega)) (aB (by omega)) hz
   refine⟨k,qj e y==0,⟨by omega,lo,hi,λh=>⟨e,D,by simpa using h⟩,λh i x n h0=>?_⟩,fin (Does.of A0 (Does.of k5 (A2 _ rfl))) (by kernel_rfl) rfl rfl⟩;have h:qj e y≠0:=by simpa using h
   have ki:k<=i:=by
    rcases aT i k with g|g
    .have:=lo i x g n;omega
    .exact g
   have l1:qj e x<=0:=hS.srt.get T ki D n;have l2:=T.trans l1 (kQ h0);have:=hi k e (aj _) D;omega
  .have A2:=fsx W Y Z F X eb b o σ.length c y.rel p r s y.rule t y.kids.length u k k (aH (by omega)) (aH (by omega))
   refine⟨k,false,⟨by omega,lo,hi,λh=>(by cases h),λ_ i x n h0=>?_⟩,fin (Does.of A0 (Does.of k5 A2)) (by kernel_rfl) rfl rfl⟩;have:=lo i x (by have:=(aA.1 n).1;omega) n;omega
 .obtain rfl:σ=[]:=bM.1 h0
  have hK0:K=[]:=bM.1 (by simpa using B.symm);subst hK0;exact⟨0,false,⟨aj _,λi x hi=>aX hi (gV _),λi x _ h=>(by cases h),λh=>(by cases h),λ_ i x h=>(by cases h)⟩,fin (fsn W Y Z F X eb y.rel p r s y.rule t y.kids.length u) (by kernel_rfl) rfl rfl⟩
end
end
section
variable{N b:Nat}{R:qC}{S:List AV}{SV kv:AV}{cp:Option Nat}{m:Mm}
def Zd(m:Mm)(a:AV)(ids:List Int):Prop:=(a= .aQ∧ids=[])∨∃q,a= .sl q 0 ids.length none∧m q= .cells (ids.map zI) 3 true false∧0<ids.length
def Vt(a:AV)(k:Nat):Prop:=∃o n c,a= .sl k o n c
theorem Zd.ok{ids:List Int}(h:Zd m kv ids):ahl kv ids.length:=by
 rcases h with⟨rfl,rfl⟩|⟨q,rfl,_,_⟩
 .exact .inl ⟨rfl,rfl⟩
 .exact .inr ⟨q,none,rfl⟩
theorem U5{E:Env}{g:Bool}{w:Nat}(h:Jl cp g S (w+1))(a:E.d 60=some (.slice 57))(b:(E.tt.get 57).map (·.size)=some 1){i:Int}(hi:i=(↑w:Int)):gQ E 60 (.sl 0 0 (w+1) cp) none (some (zI i)) none=some (.sl 0 0 w cp):=by
 rcases h with⟨rfl,_,_⟩|⟨rfl,_,_,d⟩
 .exact QO a b hi (by omega)
 .exact CV a b hi (by omega)
theorem Tc(l:List Int):∀a∈l.map zI,AV.low 0 a=true:=λa b=>by
 obtain⟨i,_,rfl⟩:=gU.1 b;rfl
theorem YG{old:Old}{c:Nat}{l:List Int}(h:∀(o:Nat) a,(l.map zI)[o]? =some a->old b o=some a):xQ old (.aO (some (b,0)) l.length c) l.length 1 (l.map zI):=
 .inl ⟨b,0,c,rfl,by have:=know h;rw[dZ]at this;rw[bJ];exact this⟩
theorem CJ.reads{old:Old}{d to:Nat}{t:T}(h:CJ old (.ptr (OLD+d) to) t):∃a c kc ks,iJ old a t.args∧mF old ks t.kids∧((t.kids=[]∧c=none)∨∃f ok,c=some (f,ok)∧iI old f ok (t.kids.length*4)=some ks)∧
 (∀h:AH,loadT (E.wo old) h 24 (OLD+d) to=some (.agg [.str t.rel,a]))∧(∀h:AH,loadT (E.wo old) h 3 (OLD+d) (to+2)=some (zI t.rule))∧∀h:AH,loadT (E.wo old) h 25 (OLD+d) (to+3)=some (.aO c t.kids.length kc):=by
 obtain⟨b,o,cs,e,h1,g⟩:=h;simp only[AV.ptr.injEq]at e;obtain⟨e1,rfl⟩:=e;obtain rfl:d=b:=by omega
 clear e1;obtain⟨a,c,kc,ks,rfl,i,l,m⟩:=g.one;obtain⟨c1,c2,p,q,e1,e2⟩:=ug (k:=2) (n:=2) h1;obtain⟨r,s⟩:=List.append_inj (s₁:=[AV.str t.rel,a]) (t₁:=[zI t.rule,AV.aO c t.kids.length kc]) (s₂:=c1) (t₂:=c2) p (by rw[q];rfl);subst r;subst s;refine⟨a,c,kc,ks,i,l,m,λh=>qy (E:=E.wo old) (by kernel_rfl) (by kernel_rfl) e1 h,λh=>kT (by kernel_rfl) (pK (j:=0) e2 rfl),λh=>kT (by kernel_rfl) (pK (j:=1) e2 rfl)⟩
section
variable(W:Fe)(Y:Ge)(X:∀old,Fw old)(Z:∀old,Gw old)
include W Y X Z
theorem ahR{old:Old}{B:AV}{g:Bool}{w s x n to:Nat}{t:T}{ids:List Int}
 (hs:m s= .cells S 57 g false)(hx:m x= .cells [.ptr (OLD+n) to,kv] 59 false false)(hne:s≠x)(hsN:s<N)(hxN:x<N)(hO:N+2<=OLD)(hst:Jl cp g S (w+1))(hw:w<=268435456)(hT:S[w]? =some (.ptr x 0))(I:Zd m kv ids)(hkN:∀k,Vt kv k->k<N)
 (hp:CJ old (.ptr (OLD+n) to) t)(hal:t.args.length<=268435456)(hj:ids.length=t.kids.length)
 (B':∀u y c m',Old.le old u->N<=y->y<N+2->m' y= .cells c 65 false false->vg u c ⟨t.rel,t.args,t.rule,ids⟩->(∀k,k<N->¬Vt kv k->m' k=m k)->dL prog E u (BK B SV (.sl s 0 w cp) (.ptr y 0)) m' (N+2) R):
 dL prog E old (LZ B SV (.sl s 0 (w+1) cp)) m N R:=by
 obtain⟨θ,hθ⟩:=Pm.mk' (l:=[s,x]) (N:=N) (k:=2) [0,1,2,3] (by decide) rfl (by decide) (by simpa using hne) (by simp;omega) hO;obtain⟨t0,t1,t2,t3⟩:θ.to 0=s∧θ.to 1=x∧θ.to 2=N∧θ.to 3=N+1:=by
  have h:[θ.to 0,θ.to 1,θ.to 2,θ.to 3]=[s,x,N,N+1]:=hθ;simp only[dM,iM]at h;exact h
 obtain⟨a,ka,kc,ks,r1,r2,r3,lF,lR,lK⟩:=hp.reads;have hi:IntKind.i64.wrap ((↑(w+1):Int) - 1)=(↑w:Int):=by rw[lT (by omega) (by omega)];omega
 have eT:(AV.ptr x 0).un θ= .ptr 1 0:=by show AV.ptr (θ.inv x) _=_;rw[← t1,θ.li]
 have p:∀h:AH,h.obj 0= .cells (ig θ S) 57 g false->loadT (E.wo old) h 57 0 (w*1)=some (.ptr 1 0):=λh ho=>mV (by kernel_rfl) rfl ho (by rw[bJ,vV hT,eT]);have z:gQ (E.wo old) 60 (.sl 0 0 (w+1) cp) none (some (zI (IntKind.i64.wrap ((↑(w+1):Int) - 1)))) none=some (.sl 0 0 w cp):=U5 hst (by kernel_rfl) (by kernel_rfl) hi;have M:∀b,θ.to (OLD+b)=OLD+b:=λb=>θ.old _ (gY _ _);have eO:(AO.cells [.ptr (OLD+n) to,kv.un θ] 59 false false).ren θ.to= .cells [.ptr (OLD+n) to,kv] 59 false false:=by
  show AO.cells [.ptr (θ.to (OLD+n)) to,(kv.un θ).ren θ.to] 59 false false=_;rw[AV.ku,M]
 have v:∀e∈ents (zN (zL (.cells [.ptr (OLD+n) to,kv.un θ] 59 false false)) (.cells (ig θ S) 57 g false) .e),m (θ.to e.1)=e.2.ren θ.to∧θ.to e.1∈[s,x,N,N+1]:=λe f=>by
  have f:e∈[(0,AO.cells (ig θ S) 57 g false),(1,.cells [.ptr (OLD+n) to,kv.un θ] 59 false false)]:=f;simp only[ay,av,aU]at f;rcases f with rfl|rfl
  .exact⟨by rw[t0,hs,jC],by rw[t0];simp⟩
  .exact⟨by rw[t1,hx,eO],by rw[t1];simp⟩
 have kids:∀(d:Old) (y:Nat) (O:AV) (m1:Mm),Old.le old d->N<=y->y<N+2->iJ d O t.args->m1 y= .cells [.str t.rel,O,zI t.rule,kv] 65 false false->(∀k,k<N->m1 k=m k)->dL prog E d (BK B SV (.sl s 0 w cp) (.ptr y 0)) m1 (N+2) R:=λd y O m1 A P Q hv hm L=>by
  rcases I with⟨rfl,rfl⟩|⟨q,rfl,hq,U⟩
  .refine dL.nil (id:=y) (j:=3) hm rfl ?_
   refine B' d y _ _ A P Q (by simp only[dn];rw[aC trivial];rfl) ⟨O,.aO none 0 0,rfl,hv,.inr ⟨rfl,rfl,rfl⟩⟩ (λk h1 G=>?_);simp only[dn];rw[ah (by omega)];exact L k h1
  .have hqN:=hkN q ⟨_,_,_,rfl⟩
   refine dL.Tn (id:=q) (i:=y) (j:=3) (by rw[L q hqN];exact hq) (Tc ids) hm (by omega) rfl ?_;intro V b c H _ J;refine B' V y _ _ (Old.le_trans A H) P Q (by simp only[dn];rw[aC trivial];rfl) ⟨O,.aO (some (b,0)) ids.length c,rfl,hv.mono H,YG J⟩ (λk h1 G=>?_);simp only[dn];rw[ah (by omega),ah (λe=>G ⟨_,_,_,by rw[e]⟩)];exact L k h1
 have eL:∀a0:AV,(AO.cells [.str t.rel,a0,zI t.rule,kv.un θ] 65 false false).ren θ.to= .cells [.str t.rel,a0.ren θ.to,zI t.rule,kv] 65 false false:=λa0=>by
  show AO.cells [.str t.rel,a0.ren θ.to,zI t.rule,(kv.un θ).ren θ.to] 65 false false=_;rw[AV.ku]
 rcases r1 with⟨b,o,ac,rfl,hC⟩|⟨rfl,F,hcv⟩
 .obtain⟨r,ag,hR,C⟩:=c21 W Y old (X old) (Z old) t.rel (c:=ac) hC hal
  have D:DS old (LZ (B.un θ) (SV.un θ) (.sl 0 0 (w+1) cp)) (jK (.cells [.ptr (OLD+n) to,kv.un θ] 59 false false) (.cells (ig θ S) 57 g false)) (BK (B.un θ) (SV.un θ) (.sl 0 0 w cp) (.ptr 3 0))
   (lD (.cells [.str t.rel,.sl 2 0 t.args.length r,zI t.rule,kv.un θ] 65 false false) (.cells [.ptr (OLD+n) to,kv.un θ] 59 false false) (.cells (ig θ S) 57 g false) (.cells (fH t.args) 101 ag false)):=by
   rcases I with⟨rfl,rfl⟩|⟨q,rfl,hq,U⟩
   .exact agk W Y old (X old) (Z old) (B.un θ) (SV.un θ) (ig θ S) g cp w hw hi p n to ka t.kids.length kc lK t.rel (some (b,o)) t.args.length ac t.rule lF lR z (fH t.args) ag r (by rw[← hj];exact aj _) (C rfl rfl rfl (by kernel_rfl)) (aB (by omega)) (aH (by rw[← hj];simp))
   .exact agi W Y old (X old) (Z old) (B.un θ) (SV.un θ) (ig θ S) g cp w hw hi p n to ka t.kids.length kc lK t.rel (some (b,o)) t.args.length ac t.rule lF lR z (θ.inv q) ids.length none (fH t.args) ag r (by rw[← hj];exact aj _) (C rfl rfl rfl (by kernel_rfl)) (aB (by omega)) (aH (by rw[← hj];simp))
  refine dL.lift (θ:=θ) (N':=N+2) (l:=[(s,.cells S 57 g false),(x,.cells [.ptr (OLD+n) to,kv] 59 false false),(N,.cells (fH t.args) 101 ag false),(N+1,.cells [.str t.rel,.sl N 0 t.args.length r,zI t.rule,kv] 65 false false)])
   ⟨λe f=>(v e f).1,λe f=>(v e f).2,λe f hlv=>?_,λi h1 G=>?_,by omega,rfl,hO,rfl,rfl⟩ D ⟨rfl,rfl,rfl⟩ ⟨rfl,rfl,rfl⟩ ?_ rfl ?_
  .simp only[ay,av,aU]at f
   rcases f with rfl|rfl|rfl|rfl
   .exact⟨0,_,rfl,t0,jC _ _ _ _ _⟩
   .exact⟨1,_,rfl,t1,eO⟩
   .exact⟨2,_,rfl,t2,gW θ (jP (jg t.args)) _ _ _⟩
   .refine⟨3,_,rfl,t3,?_⟩
    rw[eL];show AO.cells [.str t.rel,.sl (θ.to 2) 0 t.args.length r,zI t.rule,kv] 65 false false=_;rw[t2]
  .have h1:2<=i:=h1
   have G:i<4:=G;rcases(by omega:i=2∨i=3)with rfl|rfl
   .rw[t2];omega
   .rw[t3];omega
  .rw[JF,AV.ku,AV.ku]
   show _=LZ B SV (.sl (θ.to 0) 0 (w+1) cp);rw[t0]
  .have e:(BK (B.un θ) (SV.un θ) (.sl 0 0 w cp) (.ptr 3 0)).ren θ.to=BK B SV (.sl s 0 w cp) (.ptr (N+1) 0):=by
    rw[TB,AV.ku,AV.ku];show BK B SV (.sl (θ.to 0) 0 w cp) (.ptr (θ.to 3) 0)=_;rw[t0,t3]
   rw[e];have L:∀k,k<N->dn m [(s,.cells S 57 g false),(x,.cells [.ptr (OLD+n) to,kv] 59 false false),(N,.cells (fH t.args) 101 ag false),(N+1,.cells [.str t.rel,.sl N 0 t.args.length r,zI t.rule,kv] 65 false false)] k=m k:=λk L=>by
    simp only[dn];by_cases k1:k=s
    .rw[aC k1,k1,hs]
    .by_cases K:k=x
     .rw[ah k1,aC K,K,hx]
     .rw[ah k1,ah K,ah (by omega),ah (by omega)]
   refine dL.Tn (id:=N) (i:=N+1) (j:=1) (by simp only[dn];rw[ah (by omega),ah (by omega),aC trivial]) (jg t.args) (by simp only[dn];rw[ah (by omega),ah (by omega),ah (by omega),aC trivial]) (by omega) rfl ?_;intro d b' c' A _ J;refine kids d (N+1) (.aO (some (b',0)) t.args.length c') _ A (by omega) (by omega) (Dx J) ?_ (λk h1=>?_)
   .simp only[dn];rw[aC trivial];rfl
   .have:=L k h1
    simp only[dn]at this ⊢;rw[ah (by omega),ah (by omega)];exact this
 .have F:t.args=[]:=bM.1 F
  have D:DS old (LZ (B.un θ) (SV.un θ) (.sl 0 0 (w+1) cp)) (jK (.cells [.ptr (OLD+n) to,kv.un θ] 59 false false) (.cells (ig θ S) 57 g false)) (BK (B.un θ) (SV.un θ) (.sl 0 0 w cp) (.ptr 2 0))
   (dJ (.cells [.ptr (OLD+n) to,kv.un θ] 59 false false) (.cells (ig θ S) 57 g false) (.cells [.str t.rel,.aQ,zI t.rule,kv.un θ] 65 false false)):=by
   rcases I with⟨rfl,rfl⟩|⟨q,rfl,hq,U⟩
   .exact agj W Y old (X old) (Z old) (B.un θ) (SV.un θ) (ig θ S) g cp w hw hi p n to ka t.kids.length kc lK t.rel none 0 0 t.rule lF lR z (by rw[← hj];exact aj _) (adk W Y X Z old t.rel rfl rfl) (aB (by omega)) (aH (by rw[← hj];simp))
   .exact agh W Y old (X old) (Z old) (B.un θ) (SV.un θ) (ig θ S) g cp w hw hi p n to ka t.kids.length kc lK t.rel none 0 0 t.rule lF lR z (θ.inv q) ids.length none (by rw[← hj];exact aj _) (adk W Y X Z old t.rel rfl rfl) (aB (by omega)) (aH (by rw[← hj];simp))
  refine dL.lift (θ:=θ) (N':=N+2) (l:=[(s,.cells S 57 g false),(x,.cells [.ptr (OLD+n) to,kv] 59 false false),(N,.cells [.str t.rel,.aQ,zI t.rule,kv] 65 false false)])
   ⟨λe f=>(v e f).1,λe f=>?_,λe f hlv=>?_,λi h1 G=>?_,by omega,rfl,hO,rfl,rfl⟩ D ⟨rfl,rfl,rfl⟩ ⟨rfl,rfl,rfl⟩ ?_ rfl ?_
  .have f:e∈[(0,AO.cells (ig θ S) 57 g false),(1,.cells [.ptr (OLD+n) to,kv.un θ] 59 false false)]:=f
   simp only[ay,av,aU]at f;rcases f with rfl|rfl
   .rw[t0];simp
   .rw[t1];simp
  .simp only[ay,av,aU]at f
   rcases f with rfl|rfl|rfl
   .exact⟨0,_,rfl,t0,jC _ _ _ _ _⟩
   .exact⟨1,_,rfl,t1,eO⟩
   .exact⟨2,_,rfl,t2,eL .aQ⟩
  .have h1:2<=i:=h1
   have G:i<3:=G;obtain rfl:i=2:=by omega
   rw[t2];omega
  .rw[JF,AV.ku,AV.ku]
   show _=LZ B SV (.sl (θ.to 0) 0 (w+1) cp);rw[t0]
  .have e:(BK (B.un θ) (SV.un θ) (.sl 0 0 w cp) (.ptr 2 0)).ren θ.to=BK B SV (.sl s 0 w cp) (.ptr N 0):=by
    rw[TB,AV.ku,AV.ku];show BK B SV (.sl (θ.to 0) 0 w cp) (.ptr (θ.to 2) 0)=_;rw[t0,t2]
   rw[e];refine dL.nil (id:=N) (j:=1) (by simp only[dn];rw[ah (by omega),ah (by omega),aC trivial]) rfl ?_;refine kids old N (.aO none 0 0) _ (Old.le_refl _) (aj _) (by omega) (.inr ⟨rfl,by rw[F];rfl,by rw[F];rfl⟩) ?_ (λk h1=>?_)
   .simp only[dn];rw[aC trivial];rfl
   .simp only[dn]
    rw[ah (by omega)];by_cases k1:k=s
    .rw[aC k1,k1,hs]
    .by_cases K:k=x
     .rw[ah k1,aC K,K,hx]
     .rw[ah k1,ah K,ah (by omega)]
end
end
section
variable{N:Nat}{m:Mm}{num:Int}{σ:List Nat}
def nums(σ:List Nat):List AV:=σ.map λ(i:Nat)=>zI i
theorem Yh{E:Env}{t e:TypeId}{z:Nat}(b:E.d t=some (.slice e))(c:(E.tt.get e).map (·.size)=some z){id n:Nat}(h0:0<n):gQ E t (.sl id 0 n none) (some (zI n)) none none=some .emp:=by
 obtain⟨a,f,rfl⟩:=aP.1 c;unfold gQ;rw[b];show(match E.tt.get e,(none:Option AV)with
  |some a,none=>zU id 0 a.size n (some (zI n)) none
  |some a,some v=>match oC 0 n v with
   |some m=>rX id 0 a.size n m (some (zI n)) none true
   |none=>none
  |_,_=>none)=_
 rw[f];show zU id 0 a.size n (some (zI n)) none=_;unfold zU;have g:AU (some (zI n)) n 0=some n:=by
  show cond (decide (((0:Nat):Int)<=(↑n:Int)∧(↑n:Int)<=n)) (some (↑n:Int).toNat) none=_;rw[aB ⟨by omega,by omega⟩,bZ];rfl
 show(match AU (some (zI n)) n 0 with
  |none=>(none:Option AV)
  |some l=>cond (Nat.beq l 0) (some (AV.sl id 0 n none)) (cond (Nat.blt l n) (some (AV.sl id (0+l*a.size) (n - l) none)) (some AV.emp)))=_
 rw[g];show cond (Nat.beq n 0) _ (cond (Nat.blt n n) _ (some AV.emp))=_;rw[show Nat.beq n 0=false by cases n with |zero=>exact aX h0 (jL _)|succ n=>rfl,show Nat.blt n n=false by
  cases h:Nat.blt n n with
  |false=>rfl
  |true=>rw[dB]at h;exact aX h (jL _)]
 rfl
def V4(old:Old)(σ:List Nat)(k:Nat):Prop:=∀(m:Mm) (N a v:Nat) (num:Int),m a= .cells (nums σ) 3 true false->m v= .cells [zI num] 3 false false->a≠v->a<N->v<N->N+8<=OLD->
 CallM prog E old 25 [.sl a 0 σ.length none,zI k,.sl v 0 1 (some 1)] m N (λ_ w b N'=>∃q,w= .sl q 0 (σ.length+1) none∧(q=a∨(N<=q∧q<N'))∧b q= .cells (nums (σ.take k)++zI num::nums (σ.drop k)) 3 true false∧N<=N'∧N'<=N+8∧∀j,j<N->j≠a->j≠v->b j=m j)
theorem uP(σ:List Nat):∀a∈nums σ,AV.low 0 a=true:=λa b=>by
 obtain⟨i,_,rfl⟩:=gU.1 b;rfl
theorem kZ(σ:List Nat):(nums σ).length=σ.length:=dZ _
section
variable(W:Fe)(Y:Ge)(X:∀old,Fw old)(Z:∀old,Gw old)
include W Y X Z
theorem acR(old:Old)(h0:0<σ.length)(u:σ.length<=134217728):V4 old σ σ.length:=by
 intro m N b v num d o p q r w;refine CallM.of (Z old) (by kernel_rfl) ?_;obtain⟨θ,f⟩:=Pm.mk' (l:=[v,b]) (N:=N) (k:=1) [0,1,2] (by decide) rfl (by decide) (by simp;omega) (by simp;omega) (by omega);obtain⟨t0,t1,t2⟩:θ.to 0=v∧θ.to 1=b∧θ.to 2=N:=by
  have h:[θ.to 0,θ.to 1,θ.to 2]=[v,b,N]:=f;simp only[dM,iM]at h;exact h
 have s:=Aw (E:=E.wo old) (ts:=56) (tx:=56) (e:=3) (sz:=1) (h:=(jK (.cells (nums σ) 3 true false) (.cells [zI num] 3 false false))) (by kernel_rfl) (id:=1) (len:=σ.length) (id2:=0) (off2:=0) (cc:=some 1) (vs:=nums σ) (cs:=[zI num]) rfl (by rw[kZ,bJ]) (by omega) rfl rfl rfl;have D:=iss W Y old (X old) (Z old) num 2 (σ.length+1) none _ σ.length none (nums σ) true (Yh (e:=3) (z:=1) (by kernel_rfl) (by kernel_rfl) h0) s (by simp);have n:=jP (uP σ);refine dL.uy (θ:=θ) (N':=N+1) (l:=[(v,.cells [zI num] 3 false false),(b,.dead),(N,.cells (nums σ++[zI num]) 3 true false)]) ⟨λe a=>?_,λe a=>?_,λe a g=>?_,λi h1 c=>?_,by omega,rfl,by omega,rfl,rfl⟩ D ⟨by kernel_rfl,by kernel_rfl,by kernel_rfl⟩ ?_ ⟨N,?_,.inr ⟨aj _,by omega⟩,?_,by omega,by omega,λj h1 c t=>?_⟩
 .have a:e∈[(0,AO.cells [zI num] 3 false false),(1,.cells (nums σ) 3 true false)]:=a
  simp only[ay,av,aU]at a;rcases a with rfl|rfl
  .rw[t0,o];rfl
  .rw[t1,d,gW θ n]
 .have a:e∈[(0,AO.cells [zI num] 3 false false),(1,.cells (nums σ) 3 true false)]:=a
  simp only[ay,av,aU]at a;rcases a with rfl|rfl
  .rw[t0];simp
  .rw[t1];simp
 .simp only[ay,av,aU]at a
  rcases a with rfl|rfl|rfl
  .exact⟨0,_,rfl,t0,rfl⟩
  .exact g.elim
  .exact⟨2,_,rfl,t2,gW θ (pU n rfl) _ _ _⟩
 .have h1:2<=i:=h1
  have c:i<3:=c;obtain rfl:i=2:=by omega
  rw[t2];omega
 .rw[show(Ev.ent (E.wo old) 25 [.sl 1 0 σ.length none,zI σ.length,.sl 0 0 1 (some 1)]).ren θ.to=Ev.ent (E.wo old) 25 [.sl (θ.to 1) 0 σ.length none,zI σ.length,.sl (θ.to 0) 0 1 (some 1)]from by kernel_rfl,t0,t1]
 .show AV.sl (θ.to 2) 0 (σ.length+1) none=_
  rw[t2]
 .simp only[dn]
  rw[ah (by omega),ah (by omega),aC trivial,List.take_length,List.drop_length];rfl
 .simp only[dn]
  rw[ah t,ah c,ah (by omega)]
theorem ah4(old:Old){v:Nat}(c:m v= .cells [zI num] 3 false false)(g:v<N)(o:N+8<=OLD):
 CallM prog E old 25 [.aQ,zI 0,.sl v 0 1 (some 1)] m N (λ_ w d N'=>w= .sl N 0 1 none∧N'=N+1∧d N= .cells [zI num] 3 true false∧∀j,j<N->d j=m j):=by
 refine CallM.of (Z old) (by kernel_rfl) ?_;obtain⟨θ,b⟩:=Pm.mk' (l:=[v]) (N:=N) (k:=1) [0,2] (by decide) rfl (by decide) (by simp) (by simp;omega) (by omega);obtain⟨t0,t2⟩:θ.to 0=v∧θ.to 2=N:=by
  have h:[θ.to 0,θ.to 2]=[v,N]:=b;simp only[dM,iM]at h;exact h
 have D:=isn W Y old (X old) (Z old) num 0 0 none eH;refine dL.uy (θ:=θ) (N':=N+1) (l:=[(v,.cells [zI num] 3 false false),(N,.cells [zI num] 3 true false)]) ⟨λe a=>?_,λe a=>?_,λe a n=>?_,λi h1 f=>?_,by omega,rfl,by omega,rfl,rfl⟩ D ⟨by kernel_rfl,by kernel_rfl,by kernel_rfl⟩ ?_ ⟨?_,rfl,?_,λj h1=>?_⟩
 .have a:e∈[(0,AO.cells [zI num] 3 false false)]:=a
  simp only[ay,av,aU]at a;subst a;rw[t0,c];rfl
 .have a:e∈[(0,AO.cells [zI num] 3 false false)]:=a
  simp only[ay,av,aU]at a;subst a;rw[t0];simp
 .simp only[ay,av,aU]at a
  rcases a with rfl|rfl
  .exact⟨0,_,rfl,t0,rfl⟩
  .exact⟨2,_,rfl,t2,rfl⟩
 .have h1:2<=i:=h1
  have f:i<3:=f;obtain rfl:i=2:=by omega
  rw[t2];omega
 .rw[show(Ev.ent (E.wo old) 25 [.aQ,zI 0,.sl 0 0 1 (some 1)]).ren θ.to=Ev.ent (E.wo old) 25 [.aQ,zI 0,.sl (θ.to 0) 0 1 (some 1)]from by kernel_rfl,t0]
 .show AV.sl (θ.to 2) 0 1 none=_
  rw[t2]
 .simp only[dn];rw[ah (by omega),aC trivial]
 .simp only[dn]
  by_cases k1:j=v
  .rw[aC k1,k1,c]
  .rw[ah k1,ah (by omega)]
end
end
section
variable{L:List LN}{N b i n sq:Nat}{a a':AV}{cs l l':List AV}{m:Mm}{y:LN}{β:Nat->Option Nat}{σ:List Nat}
def acQ:AV->Bool
 | .str _| .int _ _| .aO _ _ _| .bool _=>true
 |_=>false
theorem abZ(h:acQ a=true)(t:Told β a a'):a'=a:=by
 cases t<;>first|rfl|(cases h)
theorem QG(h:∀a∈l,acQ a=true)(t:Ea β l l'):l'=l:=by
 refine List.ext_getElem? λi=>?_;cases e:l[i]? with
 |none=>
  have:=mQ.1 e;rw[t.1]at this;exact mQ.2 this
 |some a=>
  obtain⟨c,h1,b⟩:=t.2 i a e;rw[h1,abZ (h a (bP e)) b]
theorem xR.pl{old:Old}(h:xR old cs L):∀a∈cs,acQ a=true:=by
 induction h with
 |nil=>intro a d;cases d
 |cons a b _ e=>
  obtain⟨f,g,i,rfl⟩:=a.shape;obtain⟨j,k,rfl,_⟩:=Ph b;intro v c;simp only[ay]at c;rcases c with rfl|rfl|rfl|rfl|c
  .rfl
  .rfl
  .rfl
  .rfl
  .exact e v c
theorem acD(σ:List Nat):∀a∈nums σ,acQ a=true:=λa b=>by
 obtain⟨i,_,rfl⟩:=gU.1 b;rfl
theorem adI{b c:AV}(h:Ea β [a,b,c] l'):∃d b' e,l'=[d,b',e]∧Told β a d∧Told β b b'∧Told β c e:=by
 obtain⟨h1,f⟩:=h;obtain⟨d,g,t0⟩:=f 0 a rfl;obtain⟨b',e1,t1⟩:=f 1 b rfl;obtain⟨e,e2,t2⟩:=f 2 c rfl
 match l',h1,g,e1,e2 with
 |[x,y,z],_,g,e1,e2=>cases g;cases e1;cases e2;exact⟨_,_,_,rfl,t0,t1,t2⟩
theorem afj(h:Ea β [a] l'):∃b,l'=[b]∧Told β a b:=by
 obtain⟨h1,d⟩:=h;obtain⟨b,c,t0⟩:=d 0 a rfl
 match l',h1,c with
 |[x],_,c=>cases c;exact⟨_,rfl,t0⟩
theorem QE{c:List AV}(h:Told β (.agg c) a'):a'= .agg c:=by cases h;rfl
theorem QD{f:FuncId}{o:Nat}(hi:i<OLD)(c:β i=some b)(h:Told β (.fn f [] [.ptr i o]) a'):a'= .fn f [] [.ptr (OLD+b) o]:=by
 cases h with
 |low h=>
  exfalso;have h:(AV.fG 0 []&&((Nat.blt i 0||Nat.ble OLD i)&&true))=true:=h;rw[show Nat.blt i 0=false by cases a:Nat.blt i 0 with |false=>rfl|true=>rw[dB]at a;omega]at h;rw[show Nat.ble OLD i=false by cases a:Nat.ble OLD i with |false=>rfl|true=>have:=aJ a;omega]at h;cases h
 |clo h=>rw[c]at h;cases h;rfl
theorem Wu{o:Nat}{cap:Option Nat}(hi:i<OLD)(d:β i=some b)(h:Told β (.sl i o n cap) a'):∃c,a'= .aO (some (b,o)) n c∧n<=c:=by
 cases h with
 |low h=>
  exfalso;have h:(Nat.blt i 0||Nat.ble OLD i)=true:=h;rw[show Nat.blt i 0=false by cases a:Nat.blt i 0 with |false=>rfl|true=>rw[dB]at a;omega]at h;rw[show Nat.ble OLD i=false by cases a:Nat.ble OLD i with |false=>rfl|true=>have:=aJ a;omega]at h;cases h
 |sl h e=>rw[d]at h;cases h;exact⟨_,rfl,e⟩
theorem Zv(h:Told β .aQ a'):a'= .aO none 0 0:=by
 cases h with
 |low _ a=>exact aX rfl a
 |nil=>rfl
structure A8(L:List LN)(σ:List Nat)(K:List LN):Prop where
 len:σ.length=K.length
 YD:σ.length=L.length
 get:∀(i j:Nat),σ[i]? =some j->j<L.length∧L[j]? =K[i]?
 srt:Sst qj K
 all:∀x∈L,x∈K
def SQ(K:List LN)(y:LN)(v:AV):Prop:=∃(k:Nat) (a:Bool),vN K y k a∧v= .gI [zI k,.bool a]
section
variable(W:Fe)(Y:Ge)(X:∀old,Fw old)(Z:∀old,Gw old)
include W Y X Z
theorem aeK(old:Old){ob:Nat}{c:List AV}(n:m ob= .cells [.aQ] 31 false false)(e:ob<OLD)(r:vg old c y):
 CallM prog E old 22 [.aQ,.agg c,.fn 23 [] [.ptr ob 0]] m N (λ_ v t N'=>SQ [] y v∧v.low 0=true∧t=m∧N'=N):=by
 refine CallM.borrow (ids:=[ob]) (λi hi=>?_) (λa f=>?_) (λd A o p u w=>?_)
 .simp only[ay,av,aU]at hi
  subst hi;exact⟨_,_,_,_,n,λa f=>by simp only[ay,av,aU]at f;subst f;exact .low rfl⟩
 .simp only[ay,av,aU]at f
  rcases f with rfl|rfl|rfl
  .exact .low rfl
  .exact .low r.low
  .exact .clo (by simp)
 .obtain⟨B,b',C,rfl,t1,t2,t3⟩:=adI u
  obtain⟨b,q,_⟩:=w ob (by simp);rw[Zv t1,QE t2,QD e q t3];obtain⟨k,g,h1,x⟩:=c22 W Y d (X d) (Z d) (v:= .aO none 0 0) (eb:=b) (L:=[]) (K:=[]) (σ:=[]) (.inr ⟨rfl,rfl,rfl⟩) (λh=>aX rfl h) (λl z=>by cases z) (by decide) rfl (λi j h=>by cases h) List.Pairwise.nil (by decide) (r.mono p);exact⟨λv=>v= .gI [zI (k:Nat),.bool g],jV.ofD x (by decide) rfl (CO.low rfl rfl),λv s=>⟨by rw[s];rfl,k,g,h1,s⟩⟩
theorem aeJ(old:Old){ob e:Nat}{c:List AV}{K:List LN}(f:m ob= .cells [.sl e 0 L.length none] 31 false false)(g:m e= .cells cs 65 true false)(h:m sq= .cells (nums σ) 3 true false)(t:xR old cs L)(j:A8 L σ K)(u:∀l∈L,l.args.length<=268435456∧l.kids.length<=268435456)(B:L.length<=268435456)(w:∀x∈[ob,e,sq],x<OLD)(C:vg old c y):
 CallM prog E old 22 [.sl sq 0 σ.length none,.agg c,.fn 23 [] [.ptr ob 0]] m N (λ_ v J N'=>SQ K y v∧v.low 0=true∧J=m∧N'=N):=by
 refine CallM.borrow (ids:=[ob,e,sq]) (λi hi=>?_) (λa d=>?_) (λb β z n M A=>?_)
 .simp only[ay,av,aU]at hi
  rcases hi with rfl|rfl|rfl
  .exact⟨_,_,_,_,f,λa d=>by simp only[ay,av,aU]at d;subst d;exact .sl (by simp)⟩
  .exact⟨_,_,_,_,g,λa d=> .low (wY t.low a d)⟩
  .exact⟨_,_,_,_,h,λa d=> .low (uP σ a d)⟩
 .simp only[ay,av,aU]at d
  rcases d with rfl|rfl|rfl
  .exact .sl (by simp)
  .exact .low C.low
  .exact .clo (by simp)
 .obtain⟨a',b',c',rfl,t1,t2,t3⟩:=adI M
  obtain⟨O,o,k1⟩:=A ob (by simp);obtain⟨P,p,Q⟩:=A e (by simp);obtain⟨D,q,R⟩:=A sq (by simp);obtain⟨l1,w1,S⟩:=k1 _ _ _ _ f;obtain⟨l2,w2,F⟩:=Q _ _ _ _ g;obtain⟨l3,T,G⟩:=R _ _ _ _ h;rw[QG t.pl w2]at F;rw[QG (acD σ) T]at G;obtain⟨a1,rfl,U⟩:=afj w1;obtain⟨V,rfl,_⟩:=Wu (w e (by simp)) p U;obtain⟨sc,rfl,_⟩:=Wu (w sq (by simp)) q t1;rw[QE t2,QD (w ob (by simp)) o t3];have H:=know F;rw[t.len]at H;have r:=know G;rw[kZ]at r;obtain⟨k,s,h1,h2⟩:=c22 W Y b (X b) (Z b) (v:= .aO (some (D,0)) σ.length sc) (eb:=O) (L:=L) (K:=K) (σ:=σ) (.inl ⟨D,0,sc,rfl,by rw[bJ];exact r⟩) (λ_=>⟨P,0,V,cs,S 0 _ rfl,t.mono n,H⟩) u B j.len j.get j.srt (by rw[← j.len,j.YD];exact B) (C.mono n);exact⟨λv=>v= .gI [zI (k:Nat),.bool s],jV.ofD h2 (by decide) rfl (CO.low rfl rfl),λv I=>⟨by rw[I];rfl,k,s,h1,I⟩⟩
end
end
section
variable{N:Nat}{R:qC}{m:Mm}
theorem vg.shape{old:Old}{c:List AV}{x:LN}(H:vg old c x):∃b d e k1 f g,c=[.str x.rel,.aO b d e,zI x.rule,.aO k1 f g]:=by
 obtain⟨a,k,rfl,h1,h⟩:=H;obtain⟨i,j,l,rfl⟩:=h1.shape;obtain⟨m,n,rfl,_⟩:=Ph h;exact⟨_,_,_,_,_,_,rfl⟩
section
variable(W:Fe)(Y:Ge)(X:∀old,Fw old)(Z:∀old,Gw old)
include W Y X Z
theorem acW{old:Old}{ob y:Nat}{st:AV}{c:List AV}{x:LN}(t:m ob= .cells [.aQ] 31 false false)(G:m y= .cells c 65 false false)(C:vg old c x)(hne:ob≠y)(hobN:ob<N)(hyN:y<N)(hO:N+13<=OLD)
 (B':∀A H I z,Old.le old A->N<=H->H<N+13->N<=I->I<N+13->H≠I->z ob= .cells [.sl H 0 1 none] 31 false false->z H= .cells c 65 true false->z I= .cells (nums [0]) 3 true false->(∀k,k<N->k≠ob->z k=m k)->dL prog E A (xq (.ptr ob 0) (.sl I 0 1 none) st 0) z (N+13) R):
 dL prog E old (BK (.ptr ob 0) .aQ st (.ptr y 0)) m N R:=by
 obtain⟨θ,S⟩:=Pm.of [0,1,2,3,4,5] [ob,y,N+12,N,N+10,N+11] rfl (by decide) (by simp;omega) (by simp;decide) (by simp;omega);obtain⟨t0,t1,t2,t3,t4,t5⟩:θ.to 0=ob∧θ.to 1=y∧θ.to 2=N+12∧θ.to 3=N∧θ.to 4=N+10∧θ.to 5=N+11:=by
  have h:[θ.to 0,θ.to 1,θ.to 2,θ.to 3,θ.to 4,θ.to 5]=[ob,y,N+12,N,N+10,N+11]:=S;simp only[dM,iM]at h;exact h
 have hlnl:=C.low;have J:=C;obtain⟨d,f,n,k1,o,p,rfl⟩:=C.shape;have eY:(AO.cells [.str x.rel,.aO d f n,zI x.rule,.aO k1 o p] 65 false false).ren θ.to= .cells [.str x.rel,.aO d f n,zI x.rule,.aO k1 o p] 65 false false:=rfl;have u:∀{O:Mm},O ob= .cells [.aQ] 31 false false->O y= .cells [.str x.rel,.aO d f n,zI x.rule,.aO k1 o p] 65 false false->∀e∈ents (zN (zL (.cells [.str x.rel,.aO d f n,zI x.rule,.aO k1 o p] 65 false false)) Ux .e),O (θ.to e.1)=e.2.ren θ.to∧(θ.to e.1=ob∨θ.to e.1=y):=λ{O} h1 s e a=>by
  have a:e∈[(0,AO.cells [.aQ] 31 false false),(1,.cells [.str x.rel,.aO d f n,zI x.rule,.aO k1 o p] 65 false false)]:=a;simp only[ay,av,aU]at a;rcases a with rfl|rfl
  .exact⟨by rw[t0,h1];rfl,.inl t0⟩
  .exact⟨by rw[t1,s];rfl,.inr t1⟩
 have T:dn m [(ob,.cells [.aQ] 31 false false),(y,.cells [.str x.rel,.aO d f n,zI x.rule,.aO k1 o p] 65 false false)]=m:=funext λk=>by
  simp only[dn];by_cases h1:k=ob
  .rw[aC h1,h1,t]
  .by_cases s:k=y
   .rw[ah h1,aC s,s,G]
   .rw[ah h1,ah s]
 refine dL.BA (X old) (Z old) (θ:=θ) (N':=N) (l:=[(ob,.cells [.aQ] 31 false false),(y,.cells [.str x.rel,.aO d f n,zI x.rule,.aO k1 o p] 65 false false)]) ⟨λe a=>(u t G e a).1,λe a=>?_,λe a F=>?_,λi h1 s=>?_,by omega,rfl,by omega,rfl,rfl⟩ (ahO W Y old (X old) (Z old) (st.un θ) x.rel d f n x.rule k1 o p) ⟨rfl,rfl,rfl⟩ (λv=>⟨by kernel_rfl,by kernel_rfl,by kernel_rfl⟩) ?_ (R1:=λ_ v z N'=>SQ [] x v∧v.low 0=true∧z=m∧N'=N) ?_ ?_
 .rcases(u t G e a).2 with h|h<;>rw[h]<;>simp
 .simp only[ay,av,aU]at a
  rcases a with rfl|rfl
  .exact⟨0,_,rfl,t0,rfl⟩
  .exact⟨1,_,rfl,t1,rfl⟩
 .have h1:3<=i:=h1
  have s:i<3:=s;omega
 .show _=BK (.ptr (θ.to 0) 0) .aQ ((st.un θ).ren θ.to) (.ptr (θ.to 1) 0)
  rw[t0,t1,AV.ku]
 .rw[T]
  have e:AV.jM θ.to [.aQ,.agg [.str x.rel,.aO d f n,zI x.rule,.aO k1 o p],.fn 23 [] [zP 0 0]]=[.aQ,.agg [.str x.rel,.aO d f n,zI x.rule,.aO k1 o p],.fn 23 [] [.ptr ob 0]]:=by
   show[AV.aQ,.agg [.str x.rel,.aO d f n,zI x.rule,.aO k1 o p],.fn 23 [] [.ptr (θ.to 0) 0]]=_;rw[t0]
  rw[e];exact aeK W Y X Z old t (by omega) J
 .rintro b v m1 q K ⟨⟨k,U,hf,rfl⟩,_,rfl,rfl⟩
  obtain rfl:k=0:=Nat.le_zero.1 hf.le;cases U with
  |true=>obtain⟨_,h,_⟩:=hf.eq rfl;cases h
  |false=>
  refine dL.BA (X b) (Z b) (θ:=θ) (N':=q+1) (l:=[(ob,.cells [.aQ] 31 false false),(y,.cells [.str x.rel,.aO d f n,zI x.rule,.aO k1 o p] 65 false false),(q,.cells [zI 0] 3 false false)]) ⟨λe a=>(u t G e a).1,λe a=>?_,λe a F=>?_,λi h1 s=>?_,by omega,rfl,by omega,rfl,rfl⟩ (ahL W Y b (X b) (Z b) old 0 (st.un θ) x.rel d f n x.rule k1 o p) ⟨by kernel_rfl,by kernel_rfl,by kernel_rfl⟩ (λv=>⟨by kernel_rfl,by kernel_rfl,by kernel_rfl⟩) rfl
   (R1:=λ_ w z N'=>w= .sl (q+1) 0 1 none∧N'=q+1+1∧z (q+1)= .cells [zI 0] 3 true false∧∀j,j<q+1->z j=dn m1 [(ob,.cells [.aQ] 31 false false),(y,.cells [.str x.rel,.aO d f n,zI x.rule,.aO k1 o p] 65 false false),(q,.cells [zI 0] 3 false false)] j) ?_ ?_
  .rcases(u t G e a).2 with h|h<;>rw[h]<;>simp
  .simp only[ay,av,aU]at a
   rcases a with rfl|rfl|rfl
   .exact⟨0,_,rfl,t0,rfl⟩
   .exact⟨1,_,rfl,t1,rfl⟩
   .exact⟨3,_,rfl,t3,rfl⟩
  .have h1:3<=i:=h1
   have s:i<4:=s;obtain rfl:i=3:=by omega
   rw[t3];omega
  .have e:AV.jM θ.to [.aQ,zI 0,.sl 3 0 1 (some 1)]=[.aQ,zI 0,.sl q 0 1 (some 1)]:=by
    show[AV.aQ,zI 0,.sl (θ.to 3) 0 1 (some 1)]=_;rw[t3]
   rw[e];exact ah4 W Y X Z b (by simp only[dn];rw[ah (by omega),ah (by omega),aC trivial]) (by omega) (by omega)
  .rintro r w m2 N2 L ⟨rfl,rfl,g1,g2⟩
   have B:m2 ob= .cells [.aQ] 31 false false:=by rw[g2 ob (by omega)];simp only[dn];rw[aC trivial]
   have M:m2 y= .cells [.str x.rel,.aO d f n,zI x.rule,.aO k1 o p] 65 false false:=by rw[g2 y (by omega)];simp only[dn];rw[ah (by omega),aC trivial]
   let V:AH:=⟨zN (zL (.cells [.str x.rel,.aO d f n,zI x.rule,.aO k1 o p] 65 false false)) Ux (zO (zL (.cells [.str x.rel,.aO d f n,zI x.rule,.aO k1 o p] 65 false false)) .e),5,0⟩;have hA:gX (E.wo r) V .append [.aQ,.sl 4 0 1 (some 1)] [31,31]=some (.val (.sl 5 0 1 none) (V.new (.cells [.str x.rel,.aO d f n,zI x.rule,.aO k1 o p] 65 true false))):=by kernel_rfl
   have D:=ahJ W Y r (X r) (Z r) old b 0 (θ.inv (q+1)) 1 none (st.un θ) x.rel d f n x.rule k1 o p 1 5 none _ _ hA (fK (h:=V.new (.cells [.str x.rel,.aO d f n,zI x.rule,.aO k1 o p] 65 true false)) (id:=0) (off:=0) (l:=[.aQ]) (vs:=[.sl 5 0 1 none]) (e:=31) (g:=false) rfl (by decide) rfl);refine dL.lift (θ:=θ) (N':=q+13) (l:=[(ob,.cells [.sl (q+11) 0 1 none] 31 false false),(y,(.cells [.str x.rel,.aO d f n,zI x.rule,.aO k1 o p] 65 false false)),(q+10,.dead),(q+11,.cells [.str x.rel,.aO d f n,zI x.rule,.aO k1 o p] 65 true false)])
    ⟨λe a=>(u B M e a).1,λe a=>?_,λe a F=>?_,λi h1 s=>?_,by omega,rfl,hO,rfl,rfl⟩ D ⟨by kernel_rfl,by kernel_rfl,by kernel_rfl⟩ ⟨rfl,rfl,rfl⟩ rfl rfl ?_
   .rcases(u B M e a).2 with h|h<;>rw[h]<;>simp
   .simp only[ay,av,aU]at a
    rcases a with rfl|rfl|rfl|rfl
    .refine⟨0,_,rfl,t0,?_⟩
     show AO.cells [.sl (θ.to 5) 0 1 none] 31 false false=_;rw[t5]
    .exact⟨1,_,rfl,t1,rfl⟩
    .exact F.elim
    .exact⟨5,_,rfl,t5,rfl⟩
   .have h1:4<=i:=h1
    have s:i<6:=s;rcases(by omega:i=4∨i=5)with rfl|rfl
    .rw[t4];omega
    .rw[t5];omega
   .have e:(xq (.ptr 0 0) (.sl (θ.inv (q+1)) 0 1 none) (st.un θ) 0).ren θ.to=xq (.ptr ob 0) (.sl (q+1) 0 1 none) st 0:=by
     show xq (.ptr (θ.to 0) 0) (.sl (θ.to (θ.inv (q+1))) 0 1 none) ((st.un θ).ren θ.to) 0=_;rw[t0,θ.ri,AV.ku]
    show dL _ _ _ ((xq (.ptr 0 0) (.sl (θ.inv (q+1)) 0 1 none) (st.un θ) 0).ren θ.to) _ _ _;rw[e];refine B' r (q+11) (q+1) _ (Old.le_trans K L) (by omega) (by omega) (by omega) (by omega) (by omega) ?_ ?_ ?_ (λk hk1 hk2=>?_)
    .simp only[dn];rw[aC trivial]
    .simp only[dn];rw[ah (by omega),ah (by omega),ah (by omega),aC trivial]
    .simp only[dn];rw[ah (by omega),ah (by omega),ah (by omega),ah (by omega),g1];rfl
    .have P:=g2 k (by omega)
     simp only[dn]at P ⊢;rw[ah hk2]at P ⊢;by_cases Q:k=y
     .rw[aC Q,Q,G]
     .rw[ah Q,ah (by omega)]at P
      rw[ah Q,ah (by omega),ah (by omega),P]
end
end
section
variable{L:List LN}{N sq:Nat}{R:qC}{cs:List AV}{m:Mm}{σ:List Nat}
section
variable(W:Fe)(Y:Ge)(X:∀old,Fw old)(Z:∀old,Gw old)
include W Y X Z
theorem acV{old:Old}{ob d y:Nat}{st:AV}{c:List AV}{x:LN}{K:List LN}(u:m ob= .cells [.sl d 0 L.length none] 31 false false)(A:m d= .cells cs 65 true false)(S:m sq= .cells (nums σ) 3 true false)(hL:xR old cs L)(hS:A8 L σ K)(hLl:∀l∈L,l.args.length<=268435456∧l.kids.length<=268435456)(hn:L.length<=134217000)
 (M:m y= .cells c 65 false false)(Q:vg old c x)(hd:[ob,y,d,sq].Nodup)(hN:∀z∈[ob,y,d,sq],z<N)(hO:N+13<=OLD)(hI:∀k f,Old.le old f->vN K x k false->V4 f σ k)
 (B1:∀f (k:Nat),Old.le old f->vN K x k true->dL prog E f (xq (.ptr ob 0) (.sl sq 0 σ.length none) st k) m N R)
 (B':∀f (k:Nat) oq' sq' J,Old.le old f->vN K x k false->N<=oq'->oq'<N+13->(sq'=sq∨N<=sq')->sq'<N+13->oq'≠sq'->J ob= .cells [.sl oq' 0 (L.length+1) none] 31 false false->J oq'= .cells (cs++c) 65 true false->J sq'= .cells (nums (σ.take k++L.length::σ.drop k)) 3 true false->(∀k,k<N->k≠ob->k≠d->k≠sq->J k=m k)->dL prog E f (xq (.ptr ob 0) (.sl sq' 0 (σ.length+1) none) st k) J (N+13) R):
 dL prog E old (BK (.ptr ob 0) (.sl sq 0 σ.length none) st (.ptr y 0)) m N R:=by
 have hobN:=hN ob (by simp);have hyN:=hN y (by simp);have hoqN:=hN d (by simp);have hsqN:=hN sq (by simp);have T:=hd;simp only[dK,ay,av,aU,not_or]at T;obtain⟨⟨d1,d2,d3⟩,⟨d4,d5⟩,d6,_⟩:=T;have U:=hL.low;obtain⟨θ,hθ⟩:=Pm.of [0,1,2,3,4,5] [ob,y,d,N,N+10,N+11] rfl (by decide) (by simp;omega) (by simp;decide) (by simp;omega);obtain⟨t0,t1,t2,t3,t4,t5⟩:θ.to 0=ob∧θ.to 1=y∧θ.to 2=d∧θ.to 3=N∧θ.to 4=N+10∧θ.to 5=N+11:=by
  have h:[θ.to 0,θ.to 1,θ.to 2,θ.to 3,θ.to 4,θ.to 5]=[ob,y,d,N,N+10,N+11]:=hθ;simp only[dM,iM]at h;exact h
 have V:=Q.low;have hln0:=Q;obtain⟨n,o,p,k1,r,s,rfl⟩:=Q.shape;have eB:(AO.cells [.sl 2 0 L.length none] 31 false false).ren θ.to= .cells [.sl d 0 L.length none] 31 false false:=by
  show AO.cells [.sl (θ.to 2) 0 L.length none] 31 false false=_;rw[t2]
 have eC:(AO.cells cs 65 true false).ren θ.to= .cells cs 65 true false:=gW θ U _ _ _;have B:∀{mm:Mm},mm ob= .cells [.sl d 0 L.length none] 31 false false->mm y= .cells [.str x.rel,.aO n o p,zI x.rule,.aO k1 r s] 65 false false->mm d= .cells cs 65 true false->∀e∈ents (zN (zL (.cells [.str x.rel,.aO n o p,zI x.rule,.aO k1 r s] 65 false false)) (.cells [.sl 2 0 L.length none] 31 false false) (zL (AZ cs))),mm (θ.to e.1)=e.2.ren θ.to∧(θ.to e.1=ob∨θ.to e.1=y∨θ.to e.1=d):=λ{mm} h1 t I e b=>by
  have b:e∈[(0,AO.cells [.sl 2 0 L.length none] 31 false false),(1,.cells [.str x.rel,.aO n o p,zI x.rule,.aO k1 r s] 65 false false),(2,.cells cs 65 true false)]:=b;simp only[ay,av,aU]at b;rcases b with rfl|rfl|rfl
  .exact⟨by rw[t0,h1,eB],.inl t0⟩
  .exact⟨by rw[t1,t];rfl,.inr (.inl t1)⟩
  .exact⟨by rw[t2,I,eC],.inr (.inr t2)⟩
 have hm1:dn m [(ob,.cells [.sl d 0 L.length none] 31 false false),(y,.cells [.str x.rel,.aO n o p,zI x.rule,.aO k1 r s] 65 false false),(d,.cells cs 65 true false)]=m:=funext λk=>by
  simp only[dn];by_cases h1:k=ob
  .rw[aC h1,h1,u]
  .by_cases t:k=y
   .rw[ah h1,aC t,t,M]
   .by_cases I:k=d
    .rw[ah h1,ah t,aC I,I,A]
    .rw[ah h1,ah t,ah I]
 refine dL.BA (X old) (Z old) (θ:=θ) (N':=N) (l:=[(ob,.cells [.sl d 0 L.length none] 31 false false),(y,.cells [.str x.rel,.aO n o p,zI x.rule,.aO k1 r s] 65 false false),(d,.cells cs 65 true false)]) ⟨λe b=>(B u M A e b).1,λe b=>?_,λe b G=>?_,λi h1 t=>?_,by omega,rfl,by omega,rfl,rfl⟩ (ahN W Y old (X old) (Z old) (st.un θ) x.rel n o p x.rule k1 r s L.length (θ.inv sq) σ.length none none cs true) ⟨rfl,rfl,rfl⟩ (λv=>⟨by kernel_rfl,by kernel_rfl,by kernel_rfl⟩) ?_ (R1:=λ_ v J N'=>SQ K x v∧v.low 0=true∧J=m∧N'=N) ?_ ?_
 .rcases(B u M A e b).2 with h|h|h<;>rw[h]<;>simp
 .simp only[ay,av,aU]at b
  rcases b with rfl|rfl|rfl
  .exact⟨0,_,rfl,t0,eB⟩
  .exact⟨1,_,rfl,t1,rfl⟩
  .exact⟨2,_,rfl,t2,eC⟩
 .have h1:3<=i:=h1
  have t:i<3:=t;omega
 .show _=BK (.ptr (θ.to 0) 0) (.sl (θ.to (θ.inv sq)) 0 σ.length none) ((st.un θ).ren θ.to) (.ptr (θ.to 1) 0)
  rw[t0,t1,θ.ri,AV.ku]
 .rw[hm1]
  have e:AV.jM θ.to [.sl (θ.inv sq) 0 σ.length none,.agg [.str x.rel,.aO n o p,zI x.rule,.aO k1 r s],.fn 23 [] [zP 0 0]]=[.sl sq 0 σ.length none,.agg [.str x.rel,.aO n o p,zI x.rule,.aO k1 r s],.fn 23 [] [.ptr ob 0]]:=by
   show[AV.sl (θ.to (θ.inv sq)) 0 σ.length none,.agg [.str x.rel,.aO n o p,zI x.rule,.aO k1 r s],.fn 23 [] [.ptr (θ.to 0) 0]]=_;rw[t0,θ.ri]
  rw[e];exact aeJ W Y X Z old u A S hL hS hLl (by omega) (λz hz=>by simp only[ay,av,aU]at hz;rcases hz with rfl|rfl|rfl<;>omega) hln0
 .rintro a v m1 C H ⟨⟨k,was,hf,rfl⟩,_,rfl,rfl⟩
  cases was with
  |true=>
   have D:=ahM W Y a (X a) (Z a) old k (st.un θ) x.rel n o p x.rule k1 r s L.length (θ.inv sq) σ.length none none cs true;refine dL.lift (θ:=θ) (N':=C) (l:=[(ob,.cells [.sl d 0 L.length none] 31 false false),(y,.cells [.str x.rel,.aO n o p,zI x.rule,.aO k1 r s] 65 false false),(d,.cells cs 65 true false)]) ⟨λe b=>(B u M A e b).1,λe b=>?_,λe b G=>?_,λi h1 t=>?_,by omega,rfl,by omega,rfl,rfl⟩ D ⟨by kernel_rfl,by kernel_rfl,by kernel_rfl⟩ ⟨rfl,rfl,rfl⟩ rfl rfl ?_
   .rcases(B u M A e b).2 with h|h|h<;>rw[h]<;>simp
   .simp only[ay,av,aU]at b
    rcases b with rfl|rfl|rfl
    .exact⟨0,_,rfl,t0,eB⟩
    .exact⟨1,_,rfl,t1,rfl⟩
    .exact⟨2,_,rfl,t2,eC⟩
   .have h1:3<=i:=h1
    have t:i<3:=t;omega
   .have e:(xq (.ptr 0 0) (.sl (θ.inv sq) 0 σ.length none) (st.un θ) k).ren θ.to=xq (.ptr ob 0) (.sl sq 0 σ.length none) st k:=by
     show xq (.ptr (θ.to 0) 0) (.sl (θ.to (θ.inv sq)) 0 σ.length none) ((st.un θ).ren θ.to) k=_;rw[t0,θ.ri,AV.ku]
    show dL _ _ _ ((xq (.ptr 0 0) (.sl (θ.inv sq) 0 σ.length none) (st.un θ) k).ren θ.to) _ _ _;rw[e,hm1];exact B1 a k H hf
  |false=>
  refine dL.BA (X a) (Z a) (θ:=θ) (N':=C+1) (l:=[(ob,.cells [.sl d 0 L.length none] 31 false false),(y,.cells [.str x.rel,.aO n o p,zI x.rule,.aO k1 r s] 65 false false),(d,.cells cs 65 true false),(C,.cells [zI L.length] 3 false false)]) ⟨λe b=>(B u M A e b).1,λe b=>?_,λe b G=>?_,λi h1 t=>?_,by omega,rfl,by omega,rfl,rfl⟩ (ahK W Y a (X a) (Z a) old k (st.un θ) x.rel n o p x.rule k1 r s L.length (θ.inv sq) σ.length none none cs true) ⟨by kernel_rfl,by kernel_rfl,by kernel_rfl⟩ (λv=>⟨by kernel_rfl,by kernel_rfl,by kernel_rfl⟩) rfl
   (R1:=λ_ w J N'=>∃q,w= .sl q 0 (σ.length+1) none∧(q=sq∨(C+1<=q∧q<N'))∧J q= .cells (nums (σ.take k)++zI L.length::nums (σ.drop k)) 3 true false∧C+1<=N'∧N'<=C+1+8∧∀j,j<C+1->j≠sq->j≠C->J j=dn m1 [(ob,.cells [.sl d 0 L.length none] 31 false false),(y,.cells [.str x.rel,.aO n o p,zI x.rule,.aO k1 r s] 65 false false),(d,.cells cs 65 true false),(C,.cells [zI L.length] 3 false false)] j) ?_ ?_
  .rcases(B u M A e b).2 with h|h|h<;>rw[h]<;>simp
  .simp only[ay,av,aU]at b
   rcases b with rfl|rfl|rfl|rfl
   .exact⟨0,_,rfl,t0,eB⟩
   .exact⟨1,_,rfl,t1,rfl⟩
   .exact⟨2,_,rfl,t2,eC⟩
   .exact⟨3,_,rfl,t3,rfl⟩
  .have h1:3<=i:=h1
   have t:i<4:=t;obtain rfl:i=3:=by omega
   rw[t3];omega
  .have e:AV.jM θ.to [.sl (θ.inv sq) 0 σ.length none,zI k,.sl 3 0 1 (some 1)]=[.sl sq 0 σ.length none,zI k,.sl C 0 1 (some 1)]:=by
    show[AV.sl (θ.to (θ.inv sq)) 0 σ.length none,zI k,.sl (θ.to 3) 0 1 (some 1)]=_;rw[t3,θ.ri]
   rw[e];exact hI k a H hf _ (C+1) sq C L.length (by simp only[dn];rw[ah (by omega),ah (by omega),ah (by omega),ah (by omega)];exact S) (by simp only[dn];rw[ah (by omega),ah (by omega),ah (by omega),aC trivial]) (by omega) (by omega) (by omega) (by omega)
  .rintro F w m2 N2 hle2 ⟨q,rfl,g0,g1,g3,g4,g2⟩
   have O:m2 ob= .cells [.sl d 0 L.length none] 31 false false:=by rw[g2 ob (by omega) (by omega) (by omega)];simp only[dn];rw[aC trivial]
   have hy2:m2 y= .cells [.str x.rel,.aO n o p,zI x.rule,.aO k1 r s] 65 false false:=by rw[g2 y (by omega) (by omega) (by omega)];simp only[dn];rw[ah (by omega),aC trivial]
   have P:m2 d= .cells cs 65 true false:=by rw[g2 d (by omega) (by omega) (by omega)];simp only[dn];rw[ah (by omega),ah (by omega),aC trivial]
   let HA:AH:=⟨zN (zL (.cells [.str x.rel,.aO n o p,zI x.rule,.aO k1 r s] 65 false false)) (.cells [.sl 2 0 L.length none] 31 false false) (zN (zL (.cells [.str x.rel,.aO n o p,zI x.rule,.aO k1 r s] 65 false false)) (AZ cs) .e),5,0⟩;have hA:=Aw (E:=E.wo F) (ts:=31) (tx:=31) (e:=65) (sz:=4) (h:=HA) (by kernel_rfl) (id:=2) (len:=L.length) (id2:=4) (off2:=0) (cc:=some 1) (vs:=cs) (cs:=[.str x.rel,.aO n o p,zI x.rule,.aO k1 r s]) rfl hL.len (by omega) rfl rfl rfl;have D:=ahI W Y F (X F) (Z F) old a k (θ.inv q) (σ.length+1) none (st.un θ) x.rel n o p x.rule k1 r s L.length (θ.inv sq) σ.length none none cs true (L.length+1) 5 none _ _ hA (fK (h:=(HA.put 2 .dead).new (.cells (cs++[.str x.rel,.aO n o p,zI x.rule,.aO k1 r s]) 65 true false)) (id:=0) (off:=0) (l:=[.sl 2 0 L.length none]) (vs:=[.sl 5 0 (L.length+1) none]) (e:=31) (g:=false) rfl (by simp) rfl);refine dL.lift (θ:=θ) (N':=C+13) (l:=[(ob,.cells [.sl (C+11) 0 (L.length+1) none] 31 false false),(y,.cells [.str x.rel,.aO n o p,zI x.rule,.aO k1 r s] 65 false false),(d,.dead),(C+10,.dead),(C+11,.cells (cs++[.str x.rel,.aO n o p,zI x.rule,.aO k1 r s]) 65 true false)])
    ⟨λe b=>(B O hy2 P e b).1,λe b=>?_,λe b G=>?_,λi h1 t=>?_,by omega,rfl,hO,rfl,rfl⟩ D ⟨by kernel_rfl,by kernel_rfl,by kernel_rfl⟩ ⟨rfl,rfl,rfl⟩ rfl rfl ?_
   .rcases(B O hy2 P e b).2 with h|h|h<;>rw[h]<;>simp
   .simp only[ay,av,aU]at b
    rcases b with rfl|rfl|rfl|rfl|rfl
    .refine⟨0,_,rfl,t0,?_⟩
     show AO.cells [.sl (θ.to 5) 0 (L.length+1) none] 31 false false=_;rw[t5]
    .exact⟨1,_,rfl,t1,rfl⟩
    .exact G.elim
    .exact G.elim
    .exact⟨5,_,rfl,t5,gW θ (pU U V) _ _ _⟩
   .have h1:4<=i:=h1
    have t:i<6:=t;rcases(by omega:i=4∨i=5)with rfl|rfl
    .rw[t4];omega
    .rw[t5];omega
   .have e:(xq (.ptr 0 0) (.sl (θ.inv q) 0 (σ.length+1) none) (st.un θ) k).ren θ.to=xq (.ptr ob 0) (.sl q 0 (σ.length+1) none) st k:=by
     show xq (.ptr (θ.to 0) 0) (.sl (θ.to (θ.inv q)) 0 (σ.length+1) none) ((st.un θ).ren θ.to) k=_;rw[t0,θ.ri,AV.ku]
    show dL _ _ _ ((xq (.ptr 0 0) (.sl (θ.inv q) 0 (σ.length+1) none) (st.un θ) k).ren θ.to) _ _ _;rw[e];have hnm:nums (σ.take k)++zI L.length::nums (σ.drop k)=nums (σ.take k++L.length::σ.drop k):=by unfold nums;rw[oO,yT]
    refine B' F k (C+11) q _ (Old.le_trans H hle2) hf (by omega) (by omega) (by omega) (by omega) (by omega) ?_ ?_ ?_ (λj hk1 hk2 hk3 hk4=>?_)
    .simp only[dn];rw[aC trivial]
    .simp only[dn];rw[ah (by omega),ah (by omega),ah (by omega),ah (by omega),aC trivial]
    .simp only[dn];rw[ah (by omega),ah (by omega),ah (by omega),ah (by omega),ah (by omega),g1,hnm]
    .have I:=g2 j (by omega) hk4 (by omega)
     simp only[dn]at I ⊢;rw[ah hk2]at I ⊢;by_cases h4:j=y
     .rw[aC h4,h4,M]
     .rw[ah h4,ah hk3,ah (by omega)]at I
      rw[ah h4,ah hk3,ah (by omega),ah (by omega),I]
end
end
section
variable{N sq:Nat}{R:qC}{S:List AV}{cp:Option Nat}{kv:AV}{m:Mm}{σ:List Nat}
section
variable(W:Fe)(Y:Ge)(X:∀old,Fw old)(Z:∀old,Gw old)
include W Y X Z
theorem fup{old:Old}{s x w k:Nat}{B p:AV}{g:Bool}{num:Nat}{ids:List Int}
 (K:m s= .cells S 57 g false)(V:m x= .cells [p,kv] 59 false false)(n:m sq= .cells (nums σ) 3 true false)(hT:S[w]? =some (.ptr x 0))(O:Zd m kv ids)(u:σ[k]? =some num)(hw:w<=268435456)(hids:ids.length<=134217000)
 (hd:[s,x,sq].Nodup)(P:∀z∈[s,x,sq],z<N)(Q:∀q,Vt kv q->q<N∧q≠s∧q≠x∧q≠sq)(hO:N+3<=OLD)
 (B':∀G q M,G= .sl q 0 (ids.length+1) none->N<=q->q<N+3->M x= .cells [p,G] 59 false false->M q= .cells ((ids++[(num:Int)]).map zI) 3 true false->(∀j,j<N->j≠x->¬Vt kv j->M j=m j)->dL prog E old (LZ B (.sl sq 0 σ.length none) (.sl s 0 (w+1) cp)) M (N+3) R):
 dL prog E old (xq B (.sl sq 0 σ.length none) (.sl s 0 (w+1) cp) k) m N R:=by
 have hsN:=P s (by simp);have hxN:=P x (by simp);have hsqN:=P sq (by simp);have H:=hd;simp only[dK,ay,av,aU,not_or]at H;obtain⟨⟨d1,d2⟩,d3,_⟩:=H;have hi:IntKind.i64.wrap ((↑(w+1):Int) - 1)=(↑w:Int):=by rw[lT (by omega) (by omega)];omega
 have lx:k<σ.length:=(aA.1 u).1;have o:=jP (uP σ);have v:∀h:AH,h.obj 2= .cells (nums σ) 3 true false->loadT (E.wo old) h 3 2 (k*1)=some (zI num):=λh I=>mV (by kernel_rfl) rfl I (by rw[bJ];unfold nums;rw[fP,u];rfl);have go:∀(θ:Pm),θ.to 0=s->θ.to 1=x->θ.to 2=sq->θ.to 4=N->θ.to 5=N+1->∀(l:List (Nat×AO)) (h0 y:AH),DS old (xq (B.un θ) (.sl 2 0 σ.length none) (.sl 0 0 (w+1) cp) k) h0 (LZ (B.un θ) (.sl 2 0 σ.length none) (.sl 0 0 (w+1) cp)) y->Lift θ m l N (N+3) h0 y->dL prog E old (LZ B (.sl sq 0 σ.length none) (.sl s 0 (w+1) cp)) (dn m l) (N+3) R->dL prog E old (xq B (.sl sq 0 σ.length none) (.sl s 0 (w+1) cp) k) m N R:=λθ t0 t1 t2 t4 t5 l h0 y D L BB=>by
  refine dL.lift (θ:=θ) L D ⟨rfl,rfl,rfl⟩ ⟨rfl,rfl,rfl⟩ ?_ ?_ BB
  .show _=xq ((B.un θ).ren θ.to) (.sl (θ.to 2) 0 σ.length none) (.sl (θ.to 0) 0 (w+1) cp) k
   rw[t0,t2,AV.ku]
  .show LZ ((B.un θ).ren θ.to) (.sl (θ.to 2) 0 σ.length none) (.sl (θ.to 0) 0 (w+1) cp)=_
   rw[t0,t2,AV.ku]
 have r:∀(θ:Pm) (a:AV),(AO.cells [p.un θ,a] 59 false false).ren θ.to= .cells [p,a.ren θ.to] 59 false false:=λθ a=>by
  show AO.cells [(p.un θ).ren θ.to,a.ren θ.to] 59 false false=_;rw[AV.ku]
 rcases O with⟨rfl,rfl⟩|⟨q,rfl,hq,hq0⟩
 .obtain⟨θ,A⟩:=Pm.of [0,1,2,3,4,5] [s,x,sq,N+2,N,N+1] rfl (by decide) (by simp;omega) (by simp;decide) (by simp;omega)
  obtain⟨t0,t1,t2,t3,t4,t5⟩:θ.to 0=s∧θ.to 1=x∧θ.to 2=sq∧θ.to 3=N+2∧θ.to 4=N∧θ.to 5=N+1:=by
   have h:[θ.to 0,θ.to 1,θ.to 2,θ.to 3,θ.to 4,θ.to 5]=[s,x,sq,N+2,N,N+1]:=A;simp only[dM,iM]at h;exact h
  have T:(AV.ptr x 0).un θ= .ptr 1 0:=by show AV.ptr (θ.inv x) _=_;rw[← t1,θ.li]
  have d:∀h:AH,h.obj 0= .cells (ig θ S) 57 g false->loadT (E.wo old) h 57 0 (w*1)=some (.ptr 1 0):=λh I=>mV (by kernel_rfl) rfl I (by rw[bJ,vV hT,T]);let F:AH:=⟨zN (zL (.cells [p.un θ,.aQ] 59 false false)) (.cells (ig θ S) 57 g false) (zN (zL (iV num)) (.cells (nums σ) 3 true false) .e),5,0⟩;have U:gX (E.wo old) F .append [.aQ,.sl 4 0 1 (some 1)] [56,56]=some (.val (.sl 5 0 1 none) (F.new (.cells [zI num] 3 true false))):=by kernel_rfl
  have D:=ahH W Y old (X old) (Z old) (B.un θ) (p.un θ) (ig θ S) (nums σ) g true cp none w σ.length hw hi d k k rfl lx num v 1 5 none _ _ U (fK (h:=F.new (.cells [zI num] 3 true false)) (id:=1) (off:=1) (l:=[p.un θ,.aQ]) (vs:=[.sl 5 0 1 none]) (e:=59) (g:=false) rfl (by simp) rfl) (aB (by omega));have c:∀e∈ents (zN (zL (.cells [p.un θ,.aQ] 59 false false)) (.cells (ig θ S) 57 g false) (zL (.cells (nums σ) 3 true false))),m (θ.to e.1)=e.2.ren θ.to∧(θ.to e.1=s∨θ.to e.1=x∨θ.to e.1=sq):=λe b=>by
   have b:e∈[(0,AO.cells (ig θ S) 57 g false),(1,.cells [p.un θ,.aQ] 59 false false),(2,.cells (nums σ) 3 true false)]:=b;simp only[ay,av,aU]at b;rcases b with rfl|rfl|rfl
   .exact⟨by rw[t0,K,jC],.inl t0⟩
   .exact⟨by rw[t1,V,r];rfl,.inr (.inl t1)⟩
   .exact⟨by rw[t2,n,gW θ o],.inr (.inr t2)⟩
  refine go θ t0 t1 t2 t4 t5 [(s,.cells S 57 g false),(x,.cells [p,.sl (N+1) 0 1 none] 59 false false),(sq,.cells (nums σ) 3 true false),(N,.dead),(N+1,.cells [zI num] 3 true false)] _ _ D ⟨λe b=>(c e b).1,λe b=>?_,λe b t=>?_,λi h1 f=>?_,by omega,rfl,hO,rfl,rfl⟩ ?_
  .rcases(c e b).2 with h|h|h<;>rw[h]<;>simp
  .simp only[ay,av,aU]at b
   rcases b with rfl|rfl|rfl|rfl|rfl
   .exact⟨0,_,rfl,t0,jC _ _ _ _ _⟩
   .refine⟨1,_,rfl,t1,?_⟩
    show(AO.cells [p.un θ,.sl 5 0 1 none] 59 false false).ren θ.to=_;rw[r];show AO.cells [p,.sl (θ.to 5) 0 1 none] 59 false false=_;rw[t5]
   .exact⟨2,_,rfl,t2,gW θ o _ _ _⟩
   .exact t.elim
   .exact⟨5,_,rfl,t5,rfl⟩
  .have h1:4<=i:=h1
   have f:i<6:=f;rcases(by omega:i=4∨i=5)with rfl|rfl
   .rw[t4];omega
   .rw[t5];omega
  .refine B' _ (N+1) _ rfl (by omega) (by omega) ?_ ?_ (λj h1 f h3=>?_)
   .simp only[dn];rw[ah (by omega),aC trivial];rfl
   .simp only[dn];rw[ah (by omega),ah (by omega),ah (by omega),ah (by omega),aC trivial];rfl
   .simp only[dn]
    by_cases k1:j=s
    .rw[aC k1,k1,K]
    .by_cases C:j=sq
     .rw[ah k1,ah f,aC C,C,n]
     .rw[ah k1,ah f,ah C,ah (by omega),ah (by omega)]
 .obtain⟨hqN,hqs,hqx,hqq⟩:=Q q ⟨_,_,_,rfl⟩
  obtain⟨θ,A⟩:=Pm.of [0,1,2,3,4,5] [s,x,sq,q,N,N+1] rfl (by decide) (by simp;omega) (by simp;decide) (by simp;omega);obtain⟨t0,t1,t2,t3,t4,t5⟩:θ.to 0=s∧θ.to 1=x∧θ.to 2=sq∧θ.to 3=q∧θ.to 4=N∧θ.to 5=N+1:=by
   have h:[θ.to 0,θ.to 1,θ.to 2,θ.to 3,θ.to 4,θ.to 5]=[s,x,sq,q,N,N+1]:=A;simp only[dM,iM]at h;exact h
  have J:=jP (Tc ids);have T:(AV.ptr x 0).un θ= .ptr 1 0:=by show AV.ptr (θ.inv x) _=_;rw[← t1,θ.li]
  have d:∀h:AH,h.obj 0= .cells (ig θ S) 57 g false->loadT (E.wo old) h 57 0 (w*1)=some (.ptr 1 0):=λh I=>mV (by kernel_rfl) rfl I (by rw[bJ,vV hT,T]);let F:AH:=(xG (.cells (ids.map zI) 3 true false) (.cells [p.un θ,.sl 3 0 ids.length none] 59 false false) (.cells (ig θ S) 57 g false) (iV num) (.cells (nums σ) 3 true false));have U:=Aw (E:=E.wo old) (ts:=56) (tx:=56) (e:=3) (sz:=1) (h:=F) (by kernel_rfl) (id:=3) (len:=ids.length) (id2:=4) (off2:=0) (cc:=some 1) (vs:=ids.map zI) (cs:=[zI num]) rfl (by rw[dZ,bJ]) (by omega) rfl rfl rfl;have D:=ahG W Y old (X old) (Z old) (B.un θ) (p.un θ) (ig θ S) (nums σ) g true cp none w σ.length hw hi d k k rfl lx num v (ids.map zI) true ids.length none (ids.length+1) 5 none _ _ U (fK (h:=(F.put 3 .dead).new (.cells (ids.map zI++[zI num]) 3 true false)) (id:=1) (off:=1) (l:=[p.un θ,.sl 3 0 ids.length none]) (vs:=[.sl 5 0 (ids.length+1) none]) (e:=59) (g:=false) rfl (by simp) rfl) (aB (by omega));have c:∀e∈ents (zN (zN (zL (.cells (ids.map zI) 3 true false)) (.cells [p.un θ,.sl 3 0 ids.length none] 59 false false) .e) (.cells (ig θ S) 57 g false) (zL (.cells (nums σ) 3 true false))),m (θ.to e.1)=e.2.ren θ.to∧(θ.to e.1=s∨θ.to e.1=x∨θ.to e.1=sq∨θ.to e.1=q):=λe b=>by
   have b:e∈[(0,AO.cells (ig θ S) 57 g false),(1,.cells [p.un θ,.sl 3 0 ids.length none] 59 false false),(3,.cells (ids.map zI) 3 true false),(2,.cells (nums σ) 3 true false)]:=b;simp only[ay,av,aU]at b;rcases b with rfl|rfl|rfl|rfl
   .exact⟨by rw[t0,K,jC],.inl t0⟩
   .refine⟨?_,.inr (.inl t1)⟩
    rw[t1,V,r];show _=AO.cells [p,.sl (θ.to 3) 0 ids.length none] 59 false false;rw[t3]
   .exact⟨by rw[t3,hq,gW θ J],.inr (.inr (.inr t3))⟩
   .exact⟨by rw[t2,n,gW θ o],.inr (.inr (.inl t2))⟩
  refine go θ t0 t1 t2 t4 t5 [(s,.cells S 57 g false),(x,.cells [p,.sl (N+1) 0 (ids.length+1) none] 59 false false),(sq,.cells (nums σ) 3 true false),(q,.dead),(N,.dead),(N+1,.cells (ids.map zI++[zI num]) 3 true false)] _ _ D ⟨λe b=>(c e b).1,λe b=>?_,λe b t=>?_,λi h1 f=>?_,by omega,rfl,hO,rfl,rfl⟩ ?_
  .rcases(c e b).2 with h|h|h|h<;>rw[h]<;>simp
  .simp only[ay,av,aU]at b
   rcases b with rfl|rfl|rfl|rfl|rfl|rfl
   .exact⟨0,_,rfl,t0,jC _ _ _ _ _⟩
   .refine⟨1,_,rfl,t1,?_⟩
    show(AO.cells [p.un θ,.sl 5 0 (ids.length+1) none] 59 false false).ren θ.to=_;rw[r];show AO.cells [p,.sl (θ.to 5) 0 (ids.length+1) none] 59 false false=_;rw[t5]
   .exact⟨2,_,rfl,t2,gW θ o _ _ _⟩
   .exact t.elim
   .exact t.elim
   .exact⟨5,_,rfl,t5,gW θ (pU J rfl) _ _ _⟩
  .have h1:4<=i:=h1
   have f:i<6:=f;rcases(by omega:i=4∨i=5)with rfl|rfl
   .rw[t4];omega
   .rw[t5];omega
  .refine B' _ (N+1) _ rfl (by omega) (by omega) ?_ ?_ (λj h1 f h3=>?_)
   .simp only[dn];rw[ah (by omega),aC trivial]
   .simp only[dn];rw[ah (by omega),ah (by omega),ah (by omega),ah (by omega),ah (by omega),aC trivial,oO];rfl
   .have h4:¬j=q:=λe=>h3 ⟨_,_,_,by rw[e]⟩
    simp only[dn];by_cases k1:j=s
    .rw[aC k1,k1,K]
    .by_cases C:j=sq
     .rw[ah k1,ah f,aC C,C,n]
     .rw[ah k1,ah f,ah C,ah h4,ah (by omega),ah (by omega)]
end
end
section
variable{L:List LN}{y:LN}{σ:List Nat}
def abN(L:List LN)(y:LN)(a:List LN)(i:Nat):Prop:=(a=L∧L[i]? =some y)∨(y ∉ L∧a=L++[y]∧i=L.length)
def lU(l:List Nat):List Int:=l.map λ(i:Nat)=>(i:Int)
mutual
inductive xW:List LN->T->List LN->Nat->Prop
 |node {L L1 L':List LN} {r:List UInt8} {a:List PV} {u:Int} {ks:List T} {ids:List Nat} {i:Nat}:oW L ks L1 ids->abN L1 ⟨r,a,u,lU ids⟩ L' i->xW L (.node r a u ks) L' i
inductive oW:List LN->List T->List LN->List Nat->Prop
 |nil {L:List LN}:oW L [] L []
 |cons {L L1 L2:List LN} {t:T} {ts:List T} {i:Nat} {is:List Nat}:xW L t L1 i->oW L1 ts L2 is->oW L (t::ts) L2 (i::is)
end
theorem oW.snoc:∀{ts:List T} {L L1 c:List LN} {is:List Nat} {t:T} {i:Nat},oW L ts L1 is->xW L1 t c i->oW L (ts++[t]) c (is++[i])
 |[],L,L1,c,is,t,i,h,h'=>by cases h;exact .cons h' .nil
 |u::ts,L,L1,c,is,t,i,h,h'=>by
  cases h with
  |cons a b=>exact .cons a (b.snoc h')
theorem oW.len:∀{ts:List T} {L L1:List LN} {is:List Nat},oW L ts L1 is->is.length=ts.length
 |[],_,_,_,h=>by cases h;rfl
 |_::_,_,_,_,h=>by
  cases h with
  |cons a b=>simp[b.len]
mutual
def T.aok:T->Prop
 | .node _ a _ ks=>a.length<=268435456∧abA ks
def abA:List T->Prop
 |[]=>True
 |t::ts=>t.aok∧abA ts
end
theorem LJ:∀{ts:List T} {t:T},abA ts->t∈ts->t.aok
 |[],t,_,h=>by cases h
 |u::ts,t,h,a=>by
  rcases ay.1 a with rfl|a
  .exact h.1
  .exact LJ h.2 a
mutual
def Ze(G:List LN->LN->Prop):List LN->T->Prop
 |L,.node r a u ks=>UL G L ks∧∀L1 ids,oW L ks L1 ids->⟨r,a,u,lU ids⟩ ∉ L1->G L1 ⟨r,a,u,lU ids⟩
def UL(G:List LN->LN->Prop):List LN->List T->Prop
 |_,[]=>True
 |L,t::ts=>Ze G L t∧∀L1 i,xW L t L1 i->UL G L1 ts
end
theorem Gf{a b:Int}(h:aK a b=0):a=b:=by unfold aK at h;split at h<;>(try split at h)<;>omega
theorem uM{a b:Int}(h:dV a b=0):a=0∧b=0:=by unfold dV at h;split at h<;>omega
theorem JC{α:Type}{c:α->α->Int}(d:∀a b,c a b=0->a=b):∀l m,qA c l m=0->l=m
 |[],[],_=>rfl
 |[],_::_,h=>aX h (show ¬(-1:Int)=0 by decide)
 |_::_,[],h=>aX h (show ¬(1:Int)=0 by decide)
 |a::l,b::m,h=>by
  obtain⟨h1,e⟩:=uM (show dV (c a b) (qA c l m)=0 from h);rw[d a b h1,JC d l m e]
theorem YV{a b:UInt8}(h:yR a b=0):a=b:=by
 rw[PY]at h;have:=Gf h;exact UInt8.toNat_inj.1 (by omega)
theorem PX{s t:List UInt8}(h:jT s t=0):s=t:=by rw[Le]at h;exact JC (λa b=>YV) s t h
theorem ade{v w:PV}(h:vG v w=0):v=w:=by
 obtain⟨h1,a⟩:=uM h;obtain⟨a,c⟩:=uM a;cases v;cases w;have e1:=Gf h1;have e2:=Gf a;have b:=PX c;simp only at e1 e2 b;rw[e1,e2,b]
theorem TY{l m:List PV}(h:lX l m=0):l=m:=by rw[Il]at h;exact JC (λa b=>ade) l m h
theorem adg{x:LN}(h:qj x y=0):x=y:=by
 obtain⟨h1,c⟩:=uM h;obtain⟨c,d⟩:=uM c;obtain⟨g,i⟩:=uM (show dV (jT x.rel y.rel) (lX x.args y.args)=0 from h1);rw[Io]at d;cases x;cases y;have e1:=PX g;have e2:=TY i;have e:=Gf c;have f:=JC (λa b=>Gf) _ _ d;simp only at e1 e2 e f;rw[e1,e2,e,f]
theorem A8.ins{K:List LN}{k:Nat}(h:A8 L σ K)(o:vN K y k false):A8 (L++[y]) (σ.take k++L.length::σ.drop k) (K.take k++y::K.drop k):=by
 have u:=o.le;have v:=h.len;have w:=h.YD;refine⟨by simp;omega,by simp;omega,λi j c=>?_,?_,λx e=>?_⟩
 .have f:(σ.take k).length=k:=by rw[eG];omega
  have g:(K.take k).length=k:=by rw[eG];omega
  by_cases h1:i<k
  .rw[aW (by omega),iP,aC h1]at c
   obtain⟨p,r⟩:=h.get i j c;refine⟨by simp;omega,?_⟩;rw[aW p,r,aW (by omega),iP,aC h1]
  .by_cases p:i=k
   .subst p
    rw[bD (by omega),f,wD]at c;obtain rfl:L.length=j:=by simpa using c
    refine⟨by simp,?_⟩;rw[bD (aj _),wD,bD (by omega),g,wD];rfl
   .obtain⟨d,rfl⟩:∃d,i=k+1+d:=⟨i - k - 1,by omega⟩
    rw[bD (by omega),f,show k+1+d - k=d+1 by omega,jE,kL]at c;obtain⟨r,t⟩:=h.get _ _ c;refine⟨by simp;omega,?_⟩;rw[aW r,t,bD (by omega),g,show k+1+d - k=d+1 by omega,jE,kL]
 .have s:=h.srt
  unfold Sst at s ⊢;have l:∀a∈K.take k,qj a y<0:=λa q=>by
   obtain⟨i,hi,rfl⟩:=ql.1 q;rw[eG]at hi;rw[List.getElem_take];exact o.lo i _ (by omega) (aI (by omega))
  have m:∀b∈K.drop k,qj y b<0:=λb n=>by
   obtain⟨i,hi,rfl⟩:=ql.1 n;rw[iF]at hi;rw[List.getElem_drop];have h1:=o.hi (k+i) _ (by omega) (aI (by omega));have p:=o.ne rfl (k+i) _ (aI (by omega));exact JJ.Tz (by omega)
  rw[UM,oJ];refine⟨s.sublist (List.take_sublist k K),⟨m,s.sublist (List.drop_sublist k K)⟩,λa q b n=>?_⟩;rcases ay.1 n with rfl|n
  .exact l a q
  .exact JJ.Sl (l a q) (sW (m b n))
 .rcases bQ.1 e with e|e
  .have:=h.all x e
   rw[← mg k K]at this;rcases bQ.1 this with h1|h1
   .exact iq _ h1
   .exact iH _ (aY _ h1)
  .rcases bY.1 e with rfl
   exact iH _ (dA ..)
theorem A8.not{K:List LN}{k:Nat}(h:A8 L σ K)(a:vN K y k false):y ∉ L:=λb=>by
 obtain⟨i,hi,e⟩:=ql.1 (h.all y b);have:=a.ne rfl i y (by rw[← e];exact aI hi);rw[JJ.refl]at this;exact this rfl
theorem A8.found{K:List LN}{k:Nat}(h:A8 L σ K)(b:vN K y k true):∃j,σ[k]? =some j∧L[j]? =some y:=by
 obtain⟨x,h1,c⟩:=b.eq rfl;obtain rfl:=adg c;have d:k<σ.length:=by rw[h.len];exact(aA.1 h1).1
 have a:σ[k]? =some σ[k]:=aI d;exact⟨_,a,by rw[(h.get k _ a).2];exact h1⟩
end
section
variable{L L':List LN}{i:Nat}
def WF(L:List LN):Prop:=∀(i:Nat) (l:LN),L[i]? =some l->∀k∈l.kids,0<=k∧k<(↑i:Int)
def tr(L:List LN)(i:Nat):T:=xX L (i+1) i
theorem Zu(h:WF L):∀(i f:Nat),i<f->xX L f i=tr L i:=by
 intro i;induction i using Nat.strongRecOn with
 |ind i a=>
  intro f d;obtain⟨f,rfl⟩:∃g,f=g+1:=⟨f - 1,by omega⟩;unfold tr;show(match L[i]? with
   |some l=>T.node l.rel l.args l.rule (l.kids.map λ(k:Int)=>xX L f k.toNat)
   |none=> .node [] [] 0 [])=(match L[i]? with
   |some l=>T.node l.rel l.args l.rule (l.kids.map λ(k:Int)=>xX L i k.toNat)
   |none=> .node [] [] 0 [])
  cases b:L[i]? with
  |none=>rfl
  |some l=>
   show T.node _ _ _ _=T.node _ _ _ _;congr 1;refine List.map_congr_left λk c=>?_;have:=h i l b k c;rw[a k.toNat (by omega) f (by omega),a k.toNat (by omega) i (by omega)]
theorem Nb(h:WF L){l:LN}(a:L[i]? =some l):tr L i= .node l.rel l.args l.rule (l.kids.map λ(k:Int)=>tr L k.toNat):=by
 unfold tr;show(match L[i]? with
  |some l=>T.node l.rel l.args l.rule (l.kids.map λ(k:Int)=>xX L i k.toNat)
  |none=> .node [] [] 0 [])=_
 rw[a];show T.node _ _ _ _=T.node _ _ _ _;congr 1;refine List.map_congr_left λk b=>?_;have:=h i l a k b;exact Zu h k.toNat i (by omega)
theorem aam{L:List LN}(h:WF L):∀(f i:Nat),i<f->i<L.length->OkL L f i
 |0,i,b,_=>by omega
 |f+1,i,b,hi=>by
  have a:L[i]? =some L[i]:=aI hi;refine⟨L[i],a,λk c=>?_⟩;have:=h i _ a k c;exact⟨this.1,aam h f k.toNat (by omega) (by omega)⟩
theorem UZ{s:List LN}(h:WF (L++s)):∀i,i<L.length->tr (L++s) i=tr L i:=by
 have h0:WF L:=λi l a=>h i l (by rw[aW (aA.1 a).1];exact a);intro i;induction i using Nat.strongRecOn with
 |ind i b=>
  intro hi;have a:L[i]? =some L[i]:=aI hi;rw[Nb h0 a,Nb h (by rw[aW hi];exact a)];congr 1;refine List.map_congr_left λk c=>?_;have:=h0 i _ a k c;exact b k.toNat (by omega) (by omega)
structure Fd(L L':List LN)(B:Nat):Prop where
 wf:WF L'
 pre:∃s,L'=L++s
 nd:L.Nodup->L'.Nodup
 small:∀j,L.length<=j->j<L'.length->(tr L' j).size<=B
theorem Fd.len{B:Nat}(h:Fd L L' B):L.length<=L'.length:=by
 obtain⟨s,rfl⟩:=h.pre;simp
theorem Fd.tr{L a:List LN}{B:Nat}(h:Fd L a B){i:Nat}(hi:i<L.length):Ev.tr a i=Ev.tr L i:=by
 obtain⟨s,rfl⟩:=h.pre;exact UZ h.wf i hi
theorem NK(ids:List Nat)(f:Nat->T):(lU ids).map (λ(k:Int)=>f k.toNat)=ids.map f:=by
 unfold lU;rw[List.map_map];rfl
mutual
theorem Tv:∀{t:T} {L d:List LN} {i:Nat},xW L t d i->WF L->Fd L d t.size∧i<d.length∧tr d i=t∧(∃y L1 ids,oW L t.kids L1 ids∧y.kids=lU ids∧abN L1 y d i)
 | .node r a u ks,L,d,i,.node (L1:=L1) (ids:=ids) A hp,C=>by
   obtain⟨b,B,g2⟩:=Ih A C;have f:∃y L1 ids,oW L (T.node r a u ks).kids L1 ids∧y.kids=lU ids∧abN L1 y d i:=⟨_,_,_,A,rfl,hp⟩;rcases hp with⟨rfl,q⟩|⟨D,rfl,rfl⟩
   .have hi:=(aA.1 q).1
    refine⟨⟨b.wf,b.pre,b.nd,λj h1 g=>?_⟩,hi,?_,f⟩
    .have:=b.small j h1 g
     show _<=eX ks+1;omega
    .rw[Nb b.wf q]
     show T.node r a u ((lU ids).map λ(k:Int)=>tr d k.toNat)=_;rw[NK,g2]
   .have c:WF (L1++[⟨r,a,u,lU ids⟩]):=λj l o k z=>by
     rcases aT j L1.length with h|h
     .rw[aW h]at o
      exact b.wf j l o k z
     .rw[bD h]at o
      cases hj:j - L1.length with
      |zero=>
       rw[hj]at o;cases o;unfold lU at z;obtain⟨n,p,rfl⟩:=gU.1 z;have:=B n p;omega
      |succ m=>rw[hj]at o;cases o
    have v:(L1++[(⟨r,a,u,lU ids⟩:LN)])[L1.length]? =some ⟨r,a,u,lU ids⟩:=by simp
    have w:tr (L1++[⟨r,a,u,lU ids⟩]) L1.length= .node r a u ks:=by
     rw[Nb c v];show T.node r a u ((lU ids).map λ(k:Int)=>tr (L1++[⟨r,a,u,lU ids⟩]) k.toNat)=_;rw[NK];congr 1;refine Eq.trans (List.map_congr_left λn p=>?_) g2;exact UZ c n (B n p)
    refine⟨⟨c,?_,λh=>?_,λj h1 g=>?_⟩,by simp,w,f⟩
    .obtain⟨s,rfl⟩:=b.pre
     exact⟨s++[⟨r,a,u,lU ids⟩],by rw[fC]⟩
    .rw[List.nodup_append]
     refine⟨b.nd h,by simp,λx E y q e=>?_⟩;rw[bY]at q;subst q;subst e;exact D E
    .rcases aT j L1.length with h|h
     .rw[UZ c j h]
      have:=b.small j h1 h;show _<=eX ks+1;omega
     .have g:j<(L1++[(⟨r,a,u,lU ids⟩:LN)]).length:=g
      rw[bC]at g;have g:j<L1.length+1:=g;obtain rfl:j=L1.length:=by omega
      rw[w];exact aj _
theorem Ih:∀{ts:List T} {L a:List LN} {ids:List Nat},oW L ts a ids->WF L->Fd L a (eX ts)∧(∀n∈ids,n<a.length)∧ids.map (tr a)=ts
 |[],L,_,_,.nil,e=>⟨⟨e,⟨[],by rw[dD]⟩,λh=>h,λj h1 f=>by omega⟩,λn c=>by(cases c),rfl⟩
 |t::ts,L,a,_,.cons (L1:=L1) (i:=i) (is:=is) h1 f,e=>by
  obtain⟨d,g,k,_⟩:=Tv h1 e;obtain⟨b,l,m⟩:=Ih f d.wf;have q:=b.len;refine⟨⟨b.wf,?_,λh=>b.nd (d.nd h),λj o g2=>?_⟩,λn c=>?_,?_⟩
  .obtain⟨s,e1⟩:=d.pre
   obtain⟨p,e2⟩:=b.pre;exact⟨s++p,by rw[e2,e1,fC]⟩
  .show _<=t.size+eX ts
   rcases aT j L1.length with h|h
   .rw[b.tr h]
    have:=d.small j o h;omega
   .have:=b.small j h g2
    omega
  .rcases ay.1 c with rfl|c
   .omega
   .exact l n c
  .show tr a i::is.map (tr a)=_
   rw[b.tr g,k,m]
end
theorem Tt{t:T}(h:xW [] t L i):WF L∧L.Nodup∧i+1=L.length∧tr L i=t∧∀j,j<L.length->(tr L j).size<=t.size:=by
 have a:WF []:=λi l c=>by cases c
 obtain⟨F,h1,b,y,L1,ids,d,f,hp⟩:=Tv h a;refine⟨F.wf,F.nd List.nodup_nil,?_,b,λj hj=>F.small j (bK _) hj⟩;rcases hp with⟨rfl,g⟩|⟨_,rfl,rfl⟩
 .obtain⟨e,_,_⟩:=Ih d a
  have:=e.small i (bK _) h1;rw[b,qp t]at this;omega
 .simp
theorem afZ{z:Int}(h:z<=65537):mn z=z:=by
 unfold mn;rw[aH (by omega)];rfl
def Yb(L:List LN)(ks:List Int):Nat:=eX (ks.map λ(k:Int)=>tr L k.toNat)
theorem QK(L:List LN)(k:Int)(ks:List Int):Yb L (k::ks)=(tr L k.toNat).size+Yb L ks:=rfl
end
section
variable{L:List LN}{cs:List AV}{h:AH}{i lb lc lo:Nat}
noncomputable def mOf(h:AH):Mm:=λi=>match h.tr.get i with |some o=>o|none=> .dead
theorem Sj(a:(mOf h i).live):h.tr.get i=some (mOf h i):=by
 unfold mOf at a ⊢;cases e:h.tr.get i with
 |none=>rw[e]at a;exact a.elim
 |some o=>rfl
section
variable(W:Fe)(Y:Ge)(X:∀old,Fw old)(Z:∀old,Gw old)
include W Y X Z
theorem c36{old:Old}{fu x:Nat}(A:xR old cs L)(B:iI old lb lo (L.length*4)=some cs)(j:∀l∈L,l.args.length<=268435456∧l.kids.length<=1048576)(C:OkL L fu x)(O:(xX L fu x).size<=268435456):
 jV prog E old 28 [.aO (some (lb,lo)) L.length lc,zI x] (λd v=>JO d v (xX L fu x)):=by
 refine jV.ofR (Z old) (by kernel_rfl) (fU.of (gx0 W Y old (X old) (Z old) lb lo L.length lc x) (dF rfl) ?_);refine fU.ofM (m:=mOf (dJ uZ uZ (.cells [zP 1 0,zI x] 140 false false))) ?_ (λi F=>Sj F) rfl;refine Xx W Y X Z j fu x C old 0 2 1 3 (.ptr 0 0) (.ptr 1 0) [.ptr 1 0,zI x] [] z4 [] false (some 1) _ _ cs A B rfl rfl rfl (by decide) (by decide) (by decide) (by unfold OLD;omega) (.inr ⟨rfl,rfl,rfl,aj _⟩) (by omega) rfl rfl ?_;intro c f P g g' Q G N' R S t T U V u w H I J;obtain⟨a,k,kc,ks,rfl,K,f2,f3⟩:=u.one;obtain⟨n,o,p,rfl⟩:=K.shape;rw[iE,dD]at w;have M:G 0= .cells z4 27 false false:=H 0 (by decide) (by decide) (by decide);have q:f<OLD:=by unfold OLD at*;omega
 have N:2<=f:=by rcases t with rfl|t<;>omega
 obtain⟨θ,r⟩:=Pm.of [0,1,2] [1,0,f] rfl (by decide) (by simp;omega) (by simp;decide) (λx y=>by simp at y;rcases y with rfl|rfl|rfl<;>first|decide|exact q);obtain⟨t0,t1,t2⟩:θ.to 0=1∧θ.to 1=0∧θ.to 2=f:=by
  have h:[θ.to 0,θ.to 1,θ.to 2]=[1,0,f]:=r;simp only[dM,iM]at h;exact h
 have D:=gx5 W Y c (X c) (Z c) lb lo L.length lc g (xX L fu x).rel n o p (xX L fu x).rule k (xX L fu x).kids.length kc;refine dL.uy (θ:=θ) (N':=N') (l:=[(1,.dead),(0,.dead)]) ⟨λe b=>?_,λe b=>?_,λe b s=>?_,λi h1 z=>?_,aj _,rfl,by unfold OLD at*;omega,rfl,rfl⟩ D ⟨rfl,rfl,rfl⟩ ?_ ⟨⟨_,rfl,u⟩,rfl⟩
 .have b:e∈[(0,AO.cells [.str (xX L fu x).rel,.aO n o p,zI (xX L fu x).rule,.aO k (xX L fu x).kids.length kc] 27 false false),(1,.cells z4 27 false false)]:=b
  simp only[ay,av,aU]at b;rcases b with rfl|rfl
  .rw[t0,w];rfl
  .rw[t1,M];rfl
 .have b:e∈[(0,AO.cells [.str (xX L fu x).rel,.aO n o p,zI (xX L fu x).rule,.aO k (xX L fu x).kids.length kc] 27 false false),(1,.cells z4 27 false false)]:=b
  simp only[ay,av,aU]at b;rcases b with rfl|rfl
  .rw[t0];simp
  .rw[t1];simp
 .simp only[ay,av,aU]at b
  rcases b with rfl|rfl<;>exact s.elim
 .have h1:2<=i:=h1
  have z:i<2:=z;omega
 .show _=UN lb lo L.length lc (.ptr (θ.to 1) 0) (.ptr (θ.to 0) 0) (.sl (θ.to 2) 0 0 g)
  rw[t0,t1,t2]
end
end
section
variable(Y:Fe)(Z:Ge)
include Y Z
theorem un3(old:Old)(F:Fw old)(FF:Gw old)(l:Option (Nat×Nat))(n c:Nat)(p m:Int)(a:(decide (m<1))=false)(b:(decide (m>65536))=false)(d:(decide (p<0))=false)(f:(decide (p≥(↑n:Int)))=false)(g:(decide ((↑n:Int)>65536))=false):AtCall prog (E.wo old) [.n 10,.v (.bool false),.n 2,.v (.bool false),.n 3,.v (.bool false),.n 5,.v (.bool false),.n 8,.v (.bool false),.n 8] (ent (E.wo old) 9 [.aO l n c,zI p,zI m]) ⟨.e,0,0⟩ 27 [.aO l n c] (je uZ):=
 ⟨[some true=some true,some (AV.bool (decide (m<1)))=some (AV.bool false),some true=some true,some (AV.bool (decide (m>65536)))=some (AV.bool false),some true=some true,some (AV.bool (decide (p<0)))=some (AV.bool false),some true=some true,some (AV.bool (decide (p≥(↑n:Int))))=some (AV.bool false),some true=some true,some (AV.bool (decide ((↑n:Int)>65536)))=some (AV.bool false)],by kernel_rfl,⟨rfl,gu (λz=>some (AV.bool z)) a,rfl,gu (λz=>some (AV.bool z)) b,rfl,gu (λz=>some (AV.bool z)) d,rfl,gu (λz=>some (AV.bool z)) f,rfl,gu (λz=>some (AV.bool z)) g⟩⟩
theorem un5(old:Old)(F:Fw old)(FF:Gw old)(a:Old)(l:Option (Nat×Nat))(n c:Nat)(p m:Int)(b d:Nat)(x:Nat)(f:p=(↑x:Int))(g:x<n)(sz:Int)(i:∀h:AH,loadT (E.wo old) h 3 (OLD+b) (0+x*1)=some (zI sz))(j:(decide (sz>m))=true):DR old (lu prog (E.wo a) [.n 10,.v (.bool false),.n 2,.v (.bool false),.n 3,.v (.bool false),.n 5,.v (.bool false),.n 8,.v (.bool false),.n 8] (ent (E.wo a) 9 [.aO l n c,zI p,zI m]) ⟨.e,0,0⟩ (Ya7 b n d)) (je uZ) (.gI [Ya8,zI 151]) (je uZ):=
 prt F FF (Qv 19 (jB (e:=3) (by kernel_rfl) (by kernel_rfl) rfl f g:aZ (E.wo old) 56 (nP (E.wo old) (.aO (some (b,0)) n d)) (zI p)=some (zP (1152921504606846976+b) (0+x*1))) (Qv 0 (i (je uZ)) (Qb 1 j (Qn 10)))) (by kernel_rfl)
theorem un6(old:Old)(F:Fw old)(FF:Gw old)(a:Old)(l:Option (Nat×Nat))(n c:Nat)(p m:Int)(b d:Nat)(x:Nat)(f:p=(↑x:Int))(g:x<n)(sz:Int)(i:∀h:AH,loadT (E.wo old) h 3 (OLD+b) (0+x*1)=some (zI sz))(j:(decide (sz>m))=false):AtCall prog (E.wo old) [.n 19,.v (zP (1152921504606846976+b) (0+x*1)),.v (zI sz),.n 1,.v (.bool false),.n 9] (lu prog (E.wo a) [.n 10,.v (.bool false),.n 2,.v (.bool false),.n 3,.v (.bool false),.n 5,.v (.bool false),.n 8,.v (.bool false),.n 8] (ent (E.wo a) 9 [.aO l n c,zI p,zI m]) ⟨.e,0,0⟩ (Ya7 b n d)) (je uZ) 28 [.aO l n c,zI p] (je uZ):=
 ⟨[some true=some true,aZ (E.wo old) 56 (nP (E.wo old) (.aO (some (b,0)) n d)) (zI p)=some (zP (1152921504606846976+b) (0+x*1)),some true=some true,loadT (E.wo old) (je uZ) 3 (1152921504606846976+b) (0+x*1)=some (zI sz),some true=some true,some (AV.bool (decide (sz>m)))=some (AV.bool false)],by kernel_rfl,⟨rfl,jB (e:=3) (by kernel_rfl) (by kernel_rfl) rfl f g,rfl,i _,rfl,gu (λz=>some (AV.bool z)) j⟩⟩
theorem un7(old:Old)(F:Fw old)(FF:Gw old)(a b:Old)(l:Option (Nat×Nat))(n c:Nat)(p m:Int)(d f x:Nat)(sz:Int)(rel:List UInt8)(pa:Option (Nat×Nat))(na ca:Nat)(rule:Int)(pk:Option (Nat×Nat))(kn kc:Nat):DR old (lu prog (E.wo b) [.n 19,.v (zP (1152921504606846976+d) (0+x*1)),.v (zI sz),.n 1,.v (.bool false),.n 9] (lu prog (E.wo a) [.n 10,.v (.bool false),.n 2,.v (.bool false),.n 3,.v (.bool false),.n 5,.v (.bool false),.n 8,.v (.bool false),.n 8] (ent (E.wo a) 9 [.aO l n c,zI p,zI m]) ⟨.e,0,0⟩ (Ya7 d n f)) (je uZ) (kR rel pa na ca rule pk kn kc)) (je uZ) (.gI [kR rel pa na ca rule pk kn kc,zI 0]) (je (eF rel pa na ca rule pk kn kc)):=
 prt F FF (Qn 4) (by kernel_rfl)
end
end Go.Ev
