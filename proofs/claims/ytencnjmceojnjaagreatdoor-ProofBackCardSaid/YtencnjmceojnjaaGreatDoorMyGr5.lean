/- A part of the proof that ProofBack returns true. -/
import Derived.Test.YtencnjmceojnjaaGreatDoorMyGr1
import Derived.Test.YtencnjmceojnjaaGreatDoorMyStates
import Derived.Test.YtencnjmceojnjaaGreatDoorMyEv4
import Derived.Test.YtencnjmceojnjaaGreatDoorMyGr4
import Derived.Test.YtencnjmceojnjaaGreatDoorMyEv5
import Derived.Test.YtencnjmceojnjaaGreatDoorMyGr3
import Derived.Test.YtencnjmceojnjaaGreatDoorMyGr2
set_option linter.all false
namespace Go.Ev
open Go.Proofs Go.Proofs.Tryz
set_option maxRecDepth 100000
theorem XD(k:Int):UQ (zI k) (zI k)=some true:=by
 show cond (zq .i64 .i64) (some (k==k)) none=_;rw[show(k==k)=true by simp];rfl
theorem ac2(s:List UInt8):UQ (.str s) (.str s)=some true:=by
 show some (s==s)=_;rw[show(s==s)=true by simp]
theorem ac3(k m:Int)(s:List UInt8):D6 [zI k,zI m,.str s] [zI k,zI m,.str s]=some true:=by
 unfold D6;rw[XD];simp only;unfold D6;rw[XD];simp only;unfold D6;rw[ac2];rfl
theorem aeC(old:Old)(k m:Int)(s:List UInt8):Ue (E.wo old) .neq 101 (uq k m s) (uq k m s)=some (.bool false):=by
 have:Ue (E.wo old) .neq 101 (uq k m s) (uq k m s)=(D6 [zI k,zI m,.str s] [zI k,zI m,.str s]).map λb=>AV.bool (!b):=by kernel_rfl
 rw[this,ac3];rfl
section
variable(Y:Fe)(Z:Ge)
include Y Z
section
variable(X:Old)(F:Fw X)(W:Gw X)
include X F W
theorem sm0(a b:Option (Nat×Nat))(n c1 c2:Nat)(c:((↑n:Int)!=(↑n:Int))=false):DS X (ent (E.wo X) 110 [.aO a n c1,.aO b n c2]) ⟨.e,0,0⟩ (Ur (.aO b n c2) (zI 0) (.aO a n c1)) ⟨.e,0,0⟩:=
 qH F W [0,1,5] (Qb 11 c (Qn 10)) (by kernel_rfl)
theorem smx(a b:Option (Nat×Nat))(n c1 c2:Nat)(i:Int)(c:(decide (i<(↑n:Int)))=false):DR X (Ur (.aO b n c2) (zI i) (.aO a n c1)) ⟨.e,0,0⟩ (.bool true) ⟨.e,0,0⟩:=
 prt F W (Qb 6 c (Qn 8)) (by kernel_rfl)
theorem sm1(d e1 f e2 n c1 c2:Nat)(i:Int)(h0:0<=i)(h1:i<n)(k1 a:Int)(b:List UInt8)(g:∀h,loadT (E.wo X) h 101 (OLD+d) (e1+i.toNat*3)=some (uq k1 a b))(j:∀h,loadT (E.wo X) h 101 (OLD+f) (e2+i.toNat*3)=some (uq k1 a b))(k:(decide (i<(↑n:Int)))=true):DS X (Ur (.aO (some (f,e2)) n c2) (zI i) (.aO (some (d,e1)) n c1)) ⟨.e,0,0⟩ (Ur (.aO (some (f,e2)) n c2) (zI (IntKind.i64.wrap (i+1))) (.aO (some (d,e1)) n c1)) ⟨.e,0,0⟩:=
 qH F W [0,1,5] (Qb 6 k (Qd 6 [.c,.c,.v (zP (1152921504606846976+d) (e1+i.toNat*3)),.v (uq k1 a b),.c,.c,.v (zP (1152921504606846976+f) (e2+i.toNat*3)),.v (uq k1 a b),.v (.bool false)] (Qq (Zl X d e1 c1 h0 h1) (Qq (g ⟨.e,0,0⟩) (Qq (Zl X f e2 c2 h0 h1) (Qq (j ⟨.e,0,0⟩) (Qq (aeC _ _ _ _:Ue (E.wo X) .neq 101 (uq k1 a b) (uq k1 a b)=some (.bool false)) (Qp (j ⟨.e,0,0⟩) (Qp (g ⟨.e,0,0⟩) (Qn 9)))))))))) (by kernel_rfl)
theorem sf(a b:Option (Nat×Nat))(n c1 c2:Nat)(r:List UInt8)(c:Qu X 110 [.aO a n c1,.aO b n c2] (.bool true))(d:(r==r)=true):DR X (ent (E.wo X) 59 [l9 r a n c1,l9 r b n c2]) ⟨.e,0,0⟩ (.bool true) (jK (nC r b n c2) (nC r a n c1)):=
 prt F W (Qb 12 d (Qk 5 (c (jK (nC r b n c2) (nC r a n c1)) (by kernel_rfl) rfl) (Qn 4))) (by kernel_rfl)
end
theorem ahs(old:Old)(F:Fw old)(FF:Gw old)(a b:Option (Nat×Nat))(n c1 c2:Nat)(r:List UInt8)(c:∀h,Nat.ble h.nx OLD=true->h.df=0->DC old 110 [.aO a n c1,.aO b n c2] h (.bool true) h)(d:(r==r)=true):DC old 59 [l9 r a n c1,l9 r b n c2] ⟨.e,0,0⟩ (.bool true) ⟨.e,0,0⟩:=
 DoesC.drop (DoesC.ent FF (by kernel_rfl) (sf Y Z old F FF a b n c1 c2 r c d)) [] (by kernel_rfl) (by kernel_rfl) (by kernel_rfl) rfl (by kernel_rfl) (by kernel_rfl) (by kernel_rfl)
end
section
variable{v:AV}
noncomputable def smF(a:Option (Nat×Nat))(c1:Nat)(b:Option (Nat×Nat))(c2 n:Nat)(i:Int):AF:=(Ur (.aO b n c2) (zI i) (.aO a n c1))
section
variable(W:Fe)(Y:Ge){Z:Old}(F:Fw Z)(X:Gw Z)
include W Y F X
theorem WE(a:Option (Nat×Nat))(c1:Nat)(b:Option (Nat×Nat))(c2 n:Nat)(g:n<=268435456):∀(r:List PV) (i:Nat),Suf Z a i r->Suf Z b i r->n=i+r.length->jD prog (E.wo Z) (smF a c1 b c2 n (↑i:Int)) (.bool true)
 |[],i,c,d,h1=>jD.it (smx W Y Z F X a b n c1 c2 i (aH (by simp at h1;omega))) (by kernel_rfl) rfl
 |x::r,i,c,d,h1=>by
  obtain⟨e,e1,rfl,j,t1⟩:=c.next
  obtain⟨f,e2,rfl,l,t2⟩:=d.next
  simp at h1;have A1:=sm1 W Y Z F X e e1 f e2 n c1 c2 i (by omega) (by omega) x.k x.m x.s (λh=>by rw[bZ];exact wO j h) (λh=>by rw[bZ];exact wO l h) (aB (by omega));rw[Zn (by omega)]at A1;exact jD.of A1 (WE (some (e,e1)) c1 (some (f,e2)) c2 n g r (i+1) t1 t2 (by omega))
theorem ah9{w:AV}{l:List PV}(e:iJ Z v l)(f:iJ Z w l)(g:l.length<=268435456):DC Z 110 [v,w] eH (.bool true) eH:=by
 obtain⟨a,c,rfl,h⟩:=e.suf;obtain⟨b,d,rfl,i⟩:=f.suf;exact DoesC.Zh X (by kernel_rfl) (jD.of (sm0 W Y Z F X a b l.length c d (by simp)) (WE W Y F X a c b d l.length g l 0 h i (by omega))) rfl rfl
theorem ah0{w:AV}{l:List PV}(rel:List UInt8)(e:iJ Z v l)(f:iJ Z w l)(g:l.length<=268435456):DC Z 59 [.agg [.str rel,v],.agg [.str rel,w]] eH (.bool true) eH:=by
 obtain⟨a,c,rfl,k⟩:=e.suf;obtain⟨b,d,rfl,m⟩:=f.suf;have i:∀h:AH,Nat.ble h.nx OLD=true->h.df=0->DC Z 110 [.aO a l.length c,.aO b l.length d] h (.bool true) h:=λh h1 j=>DoesC.ov (ah9 W Y F X e f g) rfl rfl j h1;exact ahs W Y Z F X a b l.length c d rel i (by simp)
end
end
section
variable(Y:Fe)(Z:Ge)
include Y Z
section
variable(X:Old)(F:Fw X)(W:Gw X)
include X F W
theorem ss0(r:List UInt8)(u:Int)(kn:Nat)(a b k1 g:Option (Nat×Nat))(c d e f h i:Nat)(l:Int)(j:Qu X 59 [l9 r a c d,l9 r b e f] (.bool true))(k:(decide (IntKind.i64.wrap (l - 1)<0))=false)(m:(u !=u)=false)(n:((↑kn:Int)!=(↑kn:Int))=false):DS X (ent (E.wo X) 29 [kR r a c d u k1 kn h,kR r b e f u g kn i,.ptr 0 0]) (je (iV l)) (Ut (zI 0) (zP 1 0) (zP 2 0) (zP 0 0)) (dJ (eF r a c d u k1 kn h) (.cells [zI (IntKind.i64.wrap (l - 1))] 3 false false) (eF r b e f u g kn i)):=
 qH F W [2,3,4,7] (Qb 22 k (Qb 10 m (Qb 7 n (Qk 6 (j (dJ (eF r a c d u k1 kn h) (.cells [zI (IntKind.i64.wrap (l - 1))] 3 false false) (eF r b e f u g kn i)) (by kernel_rfl) rfl) (Qn 12))))) (by kernel_rfl)
theorem ss1(r:List UInt8)(u:Int)(kn:Nat)(g j:Option (Nat×Nat))(a e1 b e2 m n o p d f:Nat)(l l2 i:Int)(x:Nat)(t:i=(↑x:Int))(w:x<kn)(ca q:List AV)(y:∀h:AH,loadT (E.wo X) h 27 (OLD+a) (e1+x*4)=some (.agg ca))(z:∀h:AH,loadT (E.wo X) h 27 (OLD+b) (e2+x*4)=some (.agg q))(s:DC X 29 [.agg ca,.agg q,.ptr 0 0] (dJ (sQ r g m n u a e1 kn d) (iV l) (sQ r j o p u b e2 kn f)) (.bool true) (dJ (sQ r g m n u a e1 kn d) (iV l2) (sQ r j o p u b e2 kn f)))(A:(decide (i<(↑kn:Int)))=true):DS X (Ut (zI i) (.ptr 1 0) (.ptr 2 0) (.ptr 0 0)) (dJ (sQ r g m n u a e1 kn d) (iV l) (sQ r j o p u b e2 kn f)) (Ut (zI (IntKind.i64.wrap (i+1))) (zP 1 0) (zP 2 0) (zP 0 0)) (dJ (sQ r g m n u a e1 kn d) (iV l2) (sQ r j o p u b e2 kn f)):=
 qH F W [2,3,4,7] (Qb 7 A (Qd 6 [.c,.c,.c,.v (zP (1152921504606846976+a) (e1+x*4)),.v (.agg ca),.c,.c,.c,.v (zP (1152921504606846976+b) (e2+x*4)),.v (.agg q),.c,.k (.bool true) (dJ (sQ r g m n u a e1 kn d) (iV l2) (sQ r j o p u b e2 kn f)),.c] (Qq (jB (e:=27) (by kernel_rfl) (by kernel_rfl) rfl t w:aZ (E.wo X) 25 (nP (E.wo X) (.aO (some (a,e1)) kn d)) (zI i)=some (zP (1152921504606846976+a) (e1+x*4))) (Qq (y (dJ (sQ r g m n u a e1 kn d) (iV l) (sQ r j o p u b e2 kn f))) (Qq (jB (e:=27) (by kernel_rfl) (by kernel_rfl) rfl t w:aZ (E.wo X) 25 (nP (E.wo X) (.aO (some (b,e2)) kn f)) (zI i)=some (zP (1152921504606846976+b) (e2+x*4))) (Qq (z (dJ (sQ r g m n u a e1 kn d) (iV l) (sQ r j o p u b e2 kn f))) (Qp s (Qp (z (dJ (sQ r g m n u a e1 kn d) (iV l) (sQ r j o p u b e2 kn f))) (Qs (.aO (some (b,e2)) kn f) (Qp (y (dJ (sQ r g m n u a e1 kn d) (iV l) (sQ r j o p u b e2 kn f))) (Qs (.aO (some (a,e1)) kn d) (Qn 14)))))))))))) (by kernel_rfl)
theorem ssx(r:List UInt8)(u:Int)(kn:Nat)(a b k1 c:Option (Nat×Nat))(d e f g h j:Nat)(l i:Int)(k:(decide (i<(↑kn:Int)))=false):DR X (Ut (zI i) (.ptr 1 0) (.ptr 2 0) (.ptr 0 0)) (dJ (eF r a d e u k1 kn h) (iV l) (eF r b f g u c kn j)) (.bool true) (dJ (eF r a d e u k1 kn h) (iV l) (eF r b f g u c kn j)):=
 prt F W (Qb 7 k (Qn 8)) (by kernel_rfl)
theorem sst(r1 r2:List UInt8)(u1 u2:Int)(a b k1 c:Option (Nat×Nat))(d f g h i j k l:Nat)(l2:Int)(m:DC X 29 [kR r1 a d f u1 k1 i j,kR r2 b g h u2 c k l,.ptr 2 0] (dJ (eF r2 b g h u2 c k l) (eF r1 a d f u1 k1 i j) (.cells [zI 65537] 3 false false)) (.bool true) (dJ (eF r2 b g h u2 c k l) (eF r1 a d f u1 k1 i j) (iV l2))):DR X (ent (E.wo X) 10 [kR r1 a d f u1 k1 i j,kR r2 b g h u2 c k l]) ⟨.e,0,0⟩ (.bool true) (dJ (eF r2 b g h u2 c k l) (eF r1 a d f u1 k1 i j) (iV l2)):=
 prt F W (Qk 15 m (Qn 3)) (by kernel_rfl)
end
end
section
variable{v:AV}
theorem aeV{P:Program}{E:Env}{g:FuncId}{args:List AV}{o a p q:AO}{v:AV}(C:DoesC P E g args ⟨zL o,1,0⟩ v ⟨zL a,1,0⟩)(c:AV.fG 1 args=true)(d:jG 1 (zL o)=true):DoesC P E g args (dJ p o q) v (dJ p a q):=by
 have L:Zc (λi=>i) ⟨zL o,1,0⟩ ⟨zL a,1,0⟩ (dJ p o q) (dJ p a q):=by
  refine⟨aj _,(by decide:1<=OLD),(by decide:3<=OLD),λi j _ _ h=>h,λi hi=>jv hi (by show 1<=3;decide),λi h1 b=>?_,λi _=>rfl,aj _,λi o e _=>?_,λi o e _=>?_,λi o e _=>?_,λi o e _=>?_,rfl,rfl,d⟩
  .have h1:1<=i:=h1
   have b:i<1:=b;omega
  .obtain⟨rfl,_⟩:=rV e;exact jm
  .obtain⟨rfl,_⟩:=rV e;exact jm
  .obtain⟨rfl,rfl⟩:=rV e
   rw[AO.jI];rfl
  .by_cases h0:i=0
   .subst h0
    cases e;exact .inl ⟨0,_,rfl,rfl,(AO.jI _).symm⟩
   .refine .inr ⟨?_,λj f e2 _=>by obtain⟨rfl,_⟩:=rV e2;exact h0⟩
    show(zN (zL p) _ (zL q):Tr AO).get i=some o;have e:(zN (zL p) _ (zL q):Tr AO).get i=some o:=e;rw[Tr.jS,ah h0]at e ⊢;exact e
 have:=DoesC.frame C L c;rw[AV.qw,AV.jI]at this;exact this
theorem aeU{P:Program}{E:Env}{g:FuncId}{a b:AV}{o c p q:AO}{v:AV}(C:DoesC P E g [a,b,.ptr 0 0] ⟨zL o,1,0⟩ v ⟨zL c,1,0⟩)(f:a.low 0=true)(h:b.low 0=true)(m:v.low 0=true)(n:jG 1 (zL o)=true)(h1:o.ren (AQ 2)=o)(d:c.ren (AQ 2)=c):
 DoesC P E g [a,b,.ptr 2 0] (dJ q p o) v (dJ q p c):=by
 have L:Zc (AQ 2) ⟨zL o,1,0⟩ ⟨zL c,1,0⟩ (dJ q p o) (dJ q p c):=by
  refine⟨aj _,(by decide:1<=OLD),(by decide:3<=OLD),λi j hi hj _=>?_,λi hi=>?_,λi h1 d=>?_,λi hi=>rY hi,aj _,λi y e _=>?_,λi y e _=>?_,λi y e _=>?_,λi y e _=>?_,rfl,rfl,n⟩
  .have hi:i<1:=hi
   have hj:j<1:=hj;omega
  .have hi:i<1:=hi
   obtain rfl:i=0:=by omega
   exact(by decide:2<3)
  .have h1:1<=i:=h1
   have d:i<1:=d;omega
  .obtain⟨rfl,_⟩:=rV e;exact jm
  .obtain⟨rfl,_⟩:=rV e;exact jm
  .obtain⟨rfl,rfl⟩:=rV e
   rw[h1];rfl
  .by_cases h0:i=2
   .subst h0
    cases e;exact .inl ⟨0,_,rfl,rfl,d.symm⟩
   .refine .inr ⟨?_,λj r e2 _=>by obtain⟨rfl,_⟩:=rV e2;exact h0⟩
    have e:(zN (zL q) p (zL c):Tr AO).get i=some y:=e;show(zN (zL q) p (zL o):Tr AO).get i=some y;rw[Tr.jS]at e ⊢;by_cases k:i=0
    .rw[aC k]at e ⊢;exact e
    .rw[ah k]at e ⊢
     by_cases l:i % 2=1
     .rw[aC l]at e ⊢;exact e
     .rw[ah l]at e ⊢
      obtain⟨s,_⟩:=rV e;omega
 have:=DoesC.frame C L (by
  show(AV.low 1 a&&(AV.low 1 b&&true))=true;rw[AV.Xl f,AV.Xl h];rfl)
 rw[AV.Bh (λi hi=>rY hi) m]at this;have e:AV.jM (AQ 2) [a,b,.ptr 0 0]=[a,b,.ptr 2 0]:=by
  show[a.ren (AQ 2),b.ren (AQ 2),.ptr (AQ 2 0) 0]=_;rw[AV.Bh (λi hi=>rY hi) f,AV.Bh (λi hi=>rY hi) h];rfl
 rw[e]at this;exact this
noncomputable def sF(i:Int):AF:=(Ut (zI i) (.ptr 1 0) (.ptr 2 0) (.ptr 0 0))
noncomputable def lB(l:Int):AO:= .cells [zI l] 3 false false
section
variable(W:Fe)(Y:Ge){Z:Old}(F:Fw Z)(X:Gw Z)
include W Y F X
theorem c37:∀(n:Nat) (t:T),t.size<=n->∀{ca e:List AV} (l:Int),mF Z ca [t]->mF Z e [t]->t.aok->(t.size:Int)<=l->l<=65537->DC Z 29 [.agg ca,.agg e,.ptr 0 0] ⟨zL (lB l),1,0⟩ (.bool true) ⟨zL (lB (l - t.size)),1,0⟩
 |0,t,h,_,_,_,_,_,_,_,_=>by have:=t.size_pos;omega
 |n+1,t,h,ca,e,l,Q,R,f,h1,h2=>by
  have hsz:=qp t;have S:=t.size_pos;have A:=Q.vC;have B:=R.vC;obtain⟨a,D,kc,ks,rfl,G,f2,f3⟩:=Q.one;obtain⟨b,H,g,js,rfl,I,g2,g3⟩:=R.one;have J:=ah0 W Y F X t.rel G I f.kids.1;have hf1:=pR G;have hg1:=pR I;obtain⟨i,j,k,rfl⟩:=G.shape;obtain⟨m,o,s,rfl⟩:=I.shape;have U:IntKind.i64.wrap (l - 1)=l - 1:=lT (by omega) (by omega);have V:=ss0 W Y Z F X t.rel t.rule t.kids.length i m D H j k o s kc g l (λh hn hd=>DoesC.ov J rfl rfl hd hn) (aH (by rw[U];omega)) (by simp) (by simp);rw[U]at V;have loop:∀(r x:Nat) (l:Int),x+r=t.kids.length->(eX (t.kids.drop x):Int)<=l->l<=65537->∃h,DR Z (sF x) (dJ (.cells [.str t.rel,.aO i j k,zI t.rule,.aO D t.kids.length kc] 27 false false) (lB l) (.cells [.str t.rel,.aO m o s,zI t.rule,.aO H t.kids.length g] 27 false false)) (.bool true) h∧h.nx<=OLD∧h.df=0∧h.tr.get 0=some (lB (l - eX (t.kids.drop x))):=by
   intro r;induction r with
   |zero=>
    intro x l hx _ _;refine⟨_,ssx W Y Z F X t.rel t.rule t.kids.length i m D H j k o s kc g l x (aH (by omega)),(by decide:3<=OLD),rfl,?_⟩;rw[List.drop_of_length_le (by omega),show l - (eX ([]:List T):Int)=l by show l - ((0:Nat):Int)=l;omega];rfl
   |succ r K=>
    intro x l hx L hl;have c:x<t.kids.length:=by omega
    obtain⟨u,y⟩:∃u,t.kids[x]? =some u:=⟨_,aI c⟩;have v:u∈t.kids:=bP y;have d:t.kids.drop x=u::t.kids.drop (x+1):=by
     obtain⟨e1,e2⟩:=aA.1 y;rw[bn e1,e2]
    have w:eX (t.kids.drop x)=u.size+eX (t.kids.drop (x+1)):=by rw[d];rfl
    rw[w]at L;rcases f3 with⟨h0,_⟩|⟨q1,e1,rfl,Qu⟩
    .rw[h0]at c;exact aX c (gV _)
    rcases g3 with⟨h0,_⟩|⟨q2,e2,rfl,M⟩
    .rw[h0]at c;exact aX c (gV _)
    obtain⟨ca,p1,p2⟩:=f2.at Qu y;obtain⟨e,r1,r2⟩:=g2.at M y;have C:=c37 n u (by have:=CW v;omega) l p2 r2 (LJ f.kids.2 v) (by omega) hl;have C3:=aeV (p:= .cells [.str t.rel,.aO i j k,zI t.rule,.aO (some (q1,e1)) t.kids.length kc] 27 false false) (q:= .cells [.str t.rel,.aO m o s,zI t.rule,.aO (some (q2,e2)) t.kids.length g] 27 false false) C (by
     show(AV.fG 1 ca&&(AV.fG 1 e&&true))=true;rw[AV.qI p2.vC,AV.qI r2.vC];rfl) rfl
    have A1:=ss1 W Y Z F X t.rel t.rule t.kids.length i m q1 e1 q2 e2 j k o s kc g l (l - u.size) x x rfl c ca e (qy (E:=E.wo Z) (by kernel_rfl) (by kernel_rfl) p1) (qy (E:=E.wo Z) (by kernel_rfl) (by kernel_rfl) r1) C3 (aB (by omega));rw[wrapN (by have:=wG t.kids;omega)]at A1;obtain⟨h',N,O,P,z⟩:=K (x+1) (l - u.size) (by omega) (by omega) (by omega);refine⟨h',Does.of A1 N,O,P,?_⟩;rw[z,w];congr 2;omega
  obtain⟨h',N,O,P,z⟩:=loop t.kids.length 0 (l - 1) (by omega) (by rw[gB];omega) (by omega);rw[gB]at z;refine DoesC.ofB X (by kernel_rfl) ⟨h',Does.of V N,O,P,?_⟩ rfl rfl ?_ rfl
  .rw[z]
   congr 2;omega
  .show(AV.fG 1 _&&(AV.fG 1 _&&true))=true
   rw[AV.qI A,AV.qI B];rfl
end
section
variable(W:Fe)(Y:Ge)(X:∀old,Fw old)(Z:∀old,Gw old)
include W Y X Z
theorem c14(old:Old){w:AV}{t:T}(s:JO old v t)(x:JO old w t)(c:t.aok)(B:t.size<=65536):jV prog E old 10 [v,w] (λ_ u=>u= .bool true):=by
 obtain⟨ca,rfl,d⟩:=s;obtain⟨D,rfl,e⟩:=x;have f:=d.vC;have g:=e.vC;have C:=c37 W Y (X old) (Z old) t.size t (aj _) 65537 d e c (by omega) (by omega);obtain⟨a,h,kc,ks,rfl,y,G,H⟩:=d.one;obtain⟨b,i,j,I,rfl,z,g2,J⟩:=e.one;obtain⟨k,l,m,rfl⟩:=y.shape;obtain⟨n,o,r,rfl⟩:=z.shape;have A:=aeU (q:= .cells [.str t.rel,.aO n o r,zI t.rule,.aO i t.kids.length j] 27 false false) (p:= .cells [.str t.rel,.aO k l m,zI t.rule,.aO h t.kids.length kc] 27 false false) C f g rfl rfl rfl rfl;exact jV.ofR (Z old) (by kernel_rfl) (fU.does (sst W Y old (X old) (Z old) t.rel t.rel t.rule t.rule k n h i l m o r t.kids.length kc t.kids.length j _ A) (dF rfl) rfl (CO.low rfl rfl))
end
end
section
variable{i:Nat}
theorem Ec(h:i<=4611686018427387000):IntKind.i64.wrap ((↑i:Int)+1)=(↑(i+1):Int):=by
 rw[lT (by omega) (by omega)];omega
variable(Y:Fe)(Z:Ge)
include Y Z
theorem aer(old:Old)(F:Fw old)(FF:Gw old)(a b:Int)(c:(decide (a<b))=true):DR old (ent (E.wo old) 248 [zI a,zI b]) ⟨.e,0,0⟩ (zI (-1)) ⟨.e,0,0⟩:=
 prt F FF (Qb 9 c (Qn 7)) (by kernel_rfl)
theorem aag(old:Old)(F:Fw old)(FF:Gw old)(a b:Int)(c:(decide (a<b))=true):DC old 248 [zI a,zI b] ⟨.e,0,0⟩ (zI (-1)) ⟨.e,0,0⟩:=
 DoesC.drop (DoesC.ent FF (by kernel_rfl) (aer Y Z old F FF a b c)) [] (by kernel_rfl) (by kernel_rfl) (by kernel_rfl) rfl (by kernel_rfl) (by kernel_rfl) (by kernel_rfl)
theorem aep(old:Old)(F:Fw old)(FF:Gw old)(a b:Int)(c:(decide (a<b))=false)(d:(decide (a>b))=true):DR old (ent (E.wo old) 248 [zI a,zI b]) ⟨.e,0,0⟩ (zI 1) ⟨.e,0,0⟩:=
 prt F FF (Qb 9 c (Qb 8 d (Qn 7))) (by kernel_rfl)
theorem aaf(old:Old)(F:Fw old)(FF:Gw old)(a b:Int)(c:(decide (a<b))=false)(d:(decide (a>b))=true):DC old 248 [zI a,zI b] ⟨.e,0,0⟩ (zI 1) ⟨.e,0,0⟩:=
 DoesC.drop (DoesC.ent FF (by kernel_rfl) (aep Y Z old F FF a b c d)) [] (by kernel_rfl) (by kernel_rfl) (by kernel_rfl) rfl (by kernel_rfl) (by kernel_rfl) (by kernel_rfl)
theorem aeo(old:Old)(F:Fw old)(FF:Gw old)(a b:Int)(c:(decide (a<b))=false)(d:(decide (a>b))=false):DR old (ent (E.wo old) 248 [zI a,zI b]) ⟨.e,0,0⟩ (zI 0) ⟨.e,0,0⟩:=
 prt F FF (Qb 9 c (Qb 8 d (Qn 8))) (by kernel_rfl)
theorem aae(old:Old)(F:Fw old)(FF:Gw old)(a b:Int)(c:(decide (a<b))=false)(d:(decide (a>b))=false):DC old 248 [zI a,zI b] ⟨.e,0,0⟩ (zI 0) ⟨.e,0,0⟩:=
 DoesC.drop (DoesC.ent FF (by kernel_rfl) (aeo Y Z old F FF a b c d)) [] (by kernel_rfl) (by kernel_rfl) (by kernel_rfl) rfl (by kernel_rfl) (by kernel_rfl) (by kernel_rfl)
theorem Y0(old:Old)(F:Fw old)(FF:Gw old)(a b:Int):DC old 248 [zI a,zI b] eH (zI (aK a b)) eH:=by
 unfold aK;split
 .rename_i h;exact aag Y Z old F FF a b (aB h)
 .rename_i h
  split
  .rename_i c;exact aaf Y Z old F FF a b (aH h) (aB c)
  .rename_i c;exact aae Y Z old F FF a b (aH h) (aH c)
end
section
variable{v:AV}
noncomputable def ctF(n i:Int):AF:=(Oc (zI n) (zI i))
def cut(n:Nat):Nat:=min n 65537
section
variable(W:Fe)(Y:Ge){Z:Old}(F:Fw Z)(X:Gw Z)
include W Y F X
theorem c26:∀(N:Nat) (t:T),t.size<=N->t.size<=268435456->∀{cs:List AV} (n:Nat),mF Z cs [t]->n<=65536->DC Z 26 [.agg cs,zI (↑n:Int)] eH (zI (↑(cut (n+t.size)):Int)) eH
 |0,t,h,_,_,_,_,_=>by have:=t.size_pos;omega
 |N+1,t,h,R,cs,n,z,q=>by
  have A:=qp t;have s:=t.size_pos;have v:=wG t.kids;obtain⟨a,i,kc,ks,rfl,D,G,H⟩:=z.one;obtain⟨d,f,g,rfl⟩:=D.shape;have w:=ct0 W Y Z F X t.rel t.rule t.kids.length d i f g kc (↑n:Int);rw[Ec (by omega)]at w;have loop:∀(r x m:Nat),x+r=t.kids.length->m<=65537->DR Z (ctF (↑m:Int) (↑x:Int)) (je (.cells [.str t.rel,.aO d f g,zI t.rule,.aO i t.kids.length kc] 27 false false)) (zI (↑(cut (m+eX (t.kids.drop x))):Int)) (je (.cells [.str t.rel,.aO d f g,zI t.rule,.aO i t.kids.length kc] 27 false false)):=by
   intro r;induction r with
   |zero=>
    intro x m I J;have e:cut (m+eX (t.kids.drop x))=m:=by
     rw[List.drop_of_length_le (by omega)];show min (m+0) 65537=m;omega
    rw[e];exact ct2 W Y Z F X t.rel t.rule t.kids.length d i f g kc m x (aH (by omega))
   |succ r j=>
    intro x m I J;have b:x<t.kids.length:=by omega
    obtain⟨u,k⟩:∃u,t.kids[x]? =some u:=⟨_,aI b⟩;have l:u∈t.kids:=bP k;have c:t.kids.drop x=u::t.kids.drop (x+1):=by
     obtain⟨e1,e2⟩:=aA.1 k;rw[bn e1,e2]
    have o:eX (t.kids.drop x)=u.size+eX (t.kids.drop (x+1)):=by rw[c];rfl
    by_cases p:m<=65536
    .rcases H with⟨h0,_⟩|⟨K,e1,rfl,Qu⟩
     .rw[h0]at b;exact aX b (gV _)
     obtain⟨ca,M,y⟩:=G.at Qu k;have O:=CW l;have C:=c26 N u (by omega) (by omega) m y p;have P:AV.fG 0 [AV.agg ca,zI (↑m:Int)]=true:=by
      show(AV.fG 0 ca&&(true&&true))=true;rw[y.vC];rfl
     have A1:=ct1 W Y Z F X t.rel t.rule t.kids.length d K e1 f g kc (↑m:Int) (↑(cut (m+u.size)):Int) x x rfl b ca (qy (E:=E.wo Z) (by kernel_rfl) (by kernel_rfl) M) (λh q Q=>DoesC.ov C P rfl Q q) (aB (by omega)) (aB (by omega));rw[Ec (by omega)]at A1;have B:=j (x+1) (cut (m+u.size)) (by omega) (by unfold cut;omega);have e:cut (cut (m+u.size)+eX (t.kids.drop (x+1)))=cut (m+eX (t.kids.drop x)):=by
      rw[o];unfold cut;omega
     rw[e]at B;exact Does.of A1 B
    .have e:cut (m+eX (t.kids.drop x))=m:=by unfold cut;omega
     rw[e];exact ct3 W Y Z F X t.rel t.rule t.kids.length d i f g kc m x (aB (by omega)) (aH (by omega))
  have L:=loop t.kids.length 0 (n+1) (by omega) (by omega);rw[gB,show n+1+eX t.kids=n+t.size by omega]at L;exact DoesC.Zh X (by kernel_rfl) ⟨_,Does.of w L,(by decide:1<=OLD),rfl⟩ rfl rfl
theorem c8n{t:T}(c:JO Z v t)(d:t.size<=268435456):DC Z 8 [v] eH (zI (↑(cut t.size):Int)) eH:=by
 obtain⟨cs,rfl,b⟩:=c;have C:=c26 W Y F X t.size t (aj _) d 0 b (by omega);have e:=b.vC;obtain⟨a,f,kc,ks,rfl,g,n,o⟩:=b.one;obtain⟨i,j,k,rfl⟩:=g.shape;rw[fA]at C;exact agy W Y Z F X t.rel t.rule i f j k t.kids.length kc (↑(cut t.size):Int) (λh l m=>DoesC.ov C (by show(AV.fG 0 _&&(true&&true))=true;rw[e];rfl) rfl m l)
end
end
section
variable(Y:Fe)(Z:Ge)
include Y Z
section
variable(X:Old)(F:Fw X)(Q:Gw X)(r:List UInt8)(R:Option (Nat×Nat))(S T:Nat)(u:Int)(U:Option (Nat×Nat))(V W:Nat)
include X F Q r R S T u U V W
theorem ptz:DR X (ent (E.wo X) 30 [.ptr 0 0,kR r R S T u U V W]) abD (zI 0) (AY (.cells [.str r,.aO R S T,zI u,.aO U V W] 65 true false) (dQ r R S T u U V W) (.cells [zI 0] 3 true false) (.cells [.sl 3 0 1 none,.sl 5 0 1 none] 78 false false) (.cells [zI 0] 3 false false) (dQ r R S T u U V W)):=
 prt F Q (Qd 40 [.c,.c,.c,.c,.c,.c,.c,.c,.c,.c,.c] (Qs (kR r R S T u U V W) (Qs .aQ (Qn 53)))) (by kernel_rfl)
theorem pt0(n:Nat)(CS SO:List AV):DS X (ent (E.wo X) 30 [.ptr 0 0,kR r R S T u U V W]) (dJ (AZ CS) (P8 n) (rC SO)) (XZ (zP 3 0) (zI 0) (zP 0 0) (zI (↑n:Int))) (xH r R S T u U V W CS n SO):=
 qH F Q [0,3,5,6] (Qn 21) (by kernel_rfl)
end
section
variable(X:Old)(F:Fw X)(B:Gw X)(r:List UInt8)(R:Option (Nat×Nat))(S T:Nat)(u:Int)(U:Option (Nat×Nat))(V W:Nat)(n:Nat)(P Q:List AV)(i j:Int)(x q:Nat)(D:(IntKind.i64.wrap ((IntKind.i64.wrap (i+j)).tdiv 2))=(↑x:Int))(J:x<n)(w:Int)(G:w=(↑q:Int))(H:q<n)(O:∀h:AH,h.obj 2= .cells Q 3 true false->loadT (E.wo X) h 3 2 (x*1)=some (zI w))(M:List AV)(N:∀h:AH,h.obj 1= .cells P 65 true false->loadT (E.wo X) h 65 1 (q*4)=some (.agg M))(z:Int)(C:∀h:AH,Nat.ble h.nx OLD=true->h.df=0->DC X 60 [.agg M,kR r R S T u U V W] h (zI z) h)(K:(decide (i<j))=true)(L:(z==0)=false)
include X F B r R S T u U V W n P Q i j x q D J w G H O M N z C K L
theorem pt1(a:(decide (z<0))=true):DS X (XT i j) (lD (dQ r R S T u U V W) (AZ P) (P8 n) (rC Q)) (XZ (zP 3 0) (zI (IntKind.i64.wrap (IntKind.i64.wrap ((IntKind.i64.wrap (i+j)).tdiv 2)+1))) (zP 0 0) (zI j)) (xH r R S T u U V W P n Q):=
 qH F B [0,3,5,6] (Qb 5 K (Qd 13 [.c,.c,.c,.c,.c,.c,.c,.c,.c,.v (zP 2 (x*1)),.v (zI w),.v (zP 1 (q*4)),.v (.agg M),.c,.k (zI z) (xH r R S T u U V W P n Q),.c] (Qq (wE X 2 none D J) (Qq (O (xH r R S T u U V W P n Q) rfl) (Qq (y31 X 1 none G H) (Qq (N (xH r R S T u U V W P n Q) rfl) (Qp (C (xH r R S T u U V W P n Q) (by kernel_rfl) rfl) (Qs (kR r R S T u U V W) (Qp (N (xH r R S T u U V W P n Q) rfl) (Qp (O (xH r R S T u U V W P n Q) rfl) (Qs (.sl 2 0 n none) (Qs (.sl 1 0 n none) (Qb 4 L (Qb 6 a (Qn 9))))))))))))))) (by kernel_rfl)
theorem pt2(a:(decide (z<0))=false):DS X (XT i j) (lD (dQ r R S T u U V W) (AZ P) (P8 n) (rC Q)) (XZ (zP 3 0) (zI i) (zP 0 0) (zI (IntKind.i64.wrap ((IntKind.i64.wrap (i+j)).tdiv 2)))) (xH r R S T u U V W P n Q):=
 qH F B [0,3,5,6] (Qb 5 K (Qd 13 [.c,.c,.c,.c,.c,.c,.c,.c,.c,.v (zP 2 (x*1)),.v (zI w),.v (zP 1 (q*4)),.v (.agg M),.c,.k (zI z) (xH r R S T u U V W P n Q),.c] (Qq (wE X 2 none D J) (Qq (O (xH r R S T u U V W P n Q) rfl) (Qq (y31 X 1 none G H) (Qq (N (xH r R S T u U V W P n Q) rfl) (Qp (C (xH r R S T u U V W P n Q) (by kernel_rfl) rfl) (Qs (kR r R S T u U V W) (Qp (N (xH r R S T u U V W P n Q) rfl) (Qp (O (xH r R S T u U V W P n Q) rfl) (Qs (.sl 2 0 n none) (Qs (.sl 1 0 n none) (Qb 4 L (Qb 6 a (Qn 8))))))))))))))) (by kernel_rfl)
end
section
variable(X:Old)(F:Fw X)(Q:Gw X)(r:List UInt8)(R:Option (Nat×Nat))(S T:Nat)(u:Int)(U:Option (Nat×Nat))(V W:Nat)(n:Nat)
include X F Q r R S T u U V W n
theorem pt3(CS SO:List AV)(i j:Int)(C5 a:List AV)(b:gX (E.wo X) (xG (dQ r R S T u U V W) (AZ CS) (P8 n) (dQ r R S T u U V W) (rC SO)) .append [.sl 1 0 n none,.sl 4 0 1 (some 1)] [31,31]=some (.val (.sl 5 0 (n+1) none) (AY (dQ r R S T u U V W) .dead (AZ C5) (P8 n) (dQ r R S T u U V W) (rC SO))))(d:gX (E.wo X) (Jj (dQ r R S T u U V W) .dead (AZ C5) (ae5 n) (dQ r R S T u U V W) (rC SO) (VW n)) .append [.sl 2 0 n none,.sl 6 0 1 (some 1)] [56,56]=some (.val (.sl 7 0 (n+1) none) (adv (rC a) (dQ r R S T u U V W) (AZ C5) (ae5 n) (dQ r R S T u U V W) (VW n))))(o1:(decide (i<j))=false):DS X (XT i j) (lD (dQ r R S T u U V W) (AZ CS) (P8 n) (rC SO)) (Us (zI (↑n:Int)) (zI i) (zP 0 0) (zI (IntKind.i64.wrap ((↑(n+1):Int) - 1)))) (D9 a r R S T u U V W C5 n):=
 qH F Q [0,5,9,10] (Qb 5 o1 (Qd 13 [.c,.c,.c,.c,.c,.c,.c,.l (.sl 5 0 (n+1) none) (AY (dQ r R S T u U V W) .dead (AZ C5) (ahg n) (dQ r R S T u U V W) (rC SO)),.c,.c,.c] (Qz (Qp b (Qs (kR r R S T u U V W) (Qs (.sl 1 0 n none) (Ql 9 d (Qn 17)))))))) (by kernel_rfl)
theorem pt4(C5 a:List AV)(i j:Int)(b:List AV)(x y:Nat)(d:IntKind.i64.wrap (j - 1)=(↑x:Int))(lx:x<n+1)(f:j=(↑y:Int))(g:y<n+1)(w:Int)(hO:∀h:AH,h.obj 7= .cells a 3 true false->loadT (E.wo X) h 3 7 (x*1)=some (zI w))(k:fE (N9 a r R S T u U V W C5 n) 7 (y*1) [zI w]=some (N9 b r R S T u U V W C5 n))(o1:(decide (j>i))=true):DS X (Us (zI (↑n:Int)) (zI i) (.ptr 0 0) (zI j)) (N9 a r R S T u U V W C5 n) (Us (zI (↑n:Int)) (zI i) (zP 0 0) (zI (IntKind.i64.wrap (j - 1)))) (D9 b r R S T u U V W C5 n):=
 qH F Q [0,5,9,10] (Qb 5 o1 (Qd 5 [.c,.c,.c,.c,.c,.c,.c,.c,.c,.c,.c,.v (zP 7 (x*1)),.v (zI w),.v (zP 7 (y*1)),.l (.gI []) (D9 b r R S T u U V W C5 n)] (Qq (jk (e:=3) (by kernel_rfl) (by kernel_rfl) d lx:aZ (E.wo X) 56 (nP (E.wo X) (.sl 7 0 (n+1) none)) (zI (IntKind.i64.wrap (j - 1)))=some (zP 7 (x*1))) (Qq (hO (D9 a r R S T u U V W C5 n) rfl) (Qq (jk (e:=3) (by kernel_rfl) (by kernel_rfl) f g:aZ (E.wo X) 56 (nP (E.wo X) (.sl 7 0 (n+1) none)) (zI j)=some (zP 7 (y*1))) (Qz (Qp (CQ (by kernel_rfl) rfl rfl k:jH (E.wo X) (D9 a r R S T u U V W C5 n) 3 (zP 7 (y*1)) (zI w)=some (.val (.gI []) (D9 b r R S T u U V W C5 n))) (Qp (hO (D9 a r R S T u U V W C5 n) rfl) (Qs (.sl 7 0 (n+1) none) (Qs (.sl 7 0 (n+1) none) (Qn 7))))))))))) (by kernel_rfl)
theorem pt5(C5 a:List AV)(i j:Int)(b:List AV)(x:Nat)(c:i=(↑x:Int))(lx:x<n+1)(d:fE (N9 a r R S T u U V W C5 n) 7 (x*1) [zI (↑n:Int)]=some (N9 b r R S T u U V W C5 n))(o1:(decide (j>i))=false):DR X (Us (zI (↑n:Int)) (zI i) (.ptr 0 0) (zI j)) (N9 a r R S T u U V W C5 n) (zI (↑n:Int)) (D9 b r R S T u U V W C5 n):=
 prt F Q (Qb 5 o1 (Qv 11 (jk (e:=3) (by kernel_rfl) (by kernel_rfl) c lx:aZ (E.wo X) 56 (nP (E.wo X) (.sl 7 0 (n+1) none)) (zI i)=some (zP 7 (x*1))) (Ql 0 (CQ (by kernel_rfl) rfl rfl d:jH (E.wo X) (D9 a r R S T u U V W C5 n) 3 (zP 7 (x*1)) (zI (↑n:Int))=some (.val (.gI []) (D9 b r R S T u U V W C5 n))) (Qn 7)))) (by kernel_rfl)
end
end
section
variable{E:Env}{h:AH}{Y Z e:TypeId}
theorem Au(d:Gl E Y Z=some (e,1))(a:E.peek=true){id b o n c:Nat}{vs cells:List AV}(h0:0<n)(j:n<=134217728)(f:jA E h id 0 (2*1)=some vs)(g:iI E.old b o n=some cells):
 gX E h .append [.sl id 0 2 (some 2),.aO (some (b,o)) n c] [Y,Z]=some (.val (.sl h.nx 0 (2+n) none) (h.new (.cells (vs++cells) e true false))):=by
 show(l7 E h Y Z (.sl id 0 2 (some 2)) (nP E (.aO (some (b,o)) n c))).map _=_;rw[oD d (Bd a (by rw[bJ];exact g)) (by omega)];unfold MS;simp only;rw[show Nat.ble (2+n) 2=false from by
  cases i:Nat.ble (2+n) 2 with
  |false=>rfl
  |true=>have:=aJ i;omega]
 simp only[bH];rw[f];rfl
theorem yD(b:Gl E Y Z=some (e,1))(a:E.peek=true){id:Nat}{k:Option (Nat×Nat)}{c:Nat}{h':AH}(d:fE h id (0+2*1) []=some h'):
 gX E h .append [.sl id 0 2 (some 2),.aO k 0 c] [Y,Z]=some (.val (.sl id 0 2 (some 2)) h'):=by
 show(l7 E h Y Z (.sl id 0 2 (some 2)) (nP E (.aO k 0 c))).map _=_;have f:Me E h 1 (nP E (.aO k 0 c))=some (0,[]):=by
  cases k with
  |none=>rfl
  |some p=>show Me E h 1 (cond E.peek (cond (Nat.beq 0 0) .emp _) .any)=_;rw[a];rfl
 rw[oD b f (by omega)];unfold MS;simp only;rw[show Nat.ble (2+0) 2=true from rfl];simp only[bG];rw[d];rfl
end
section
variable(Y:Fe)(Z:Ge)
include Y Z
section
variable(X:Old)(F:Fw X)(M:Gw X)(T U:List UInt8)(W V:Int)(N O:Option (Nat×Nat))(R P S Q:Nat)
include X F M T U W V N O R P S Q
theorem cmx(k1 a:Option (Nat×Nat))(b c d f:Nat)(z:Int)(g:∀h:AH,Nat.ble h.nx OLD=true->h.df=0->DC X 111 [l9 T N R P,l9 U O S Q] h (zI z) h)(i:(z !=0)=true):DR X (ent (E.wo X) 60 [kR T N R P W k1 b c,kR U O S Q V a d f]) ⟨.e,0,0⟩ (zI z) (kC U O S Q V a d f T N R P W k1 b c):=
 prt F M (Qk 12 (g (kC U O S Q V a d f T N R P W k1 b c) (by kernel_rfl) rfl) (Qb 6 i (Qn 8))) (by kernel_rfl)
theorem ahZ(c e1 a f:Nat)(i:List AV)(k:0<a)(l:a<=134217728)(m:iI X c e1 a=some i)(d e2 b g:Nat)(j:List AV)(n:0<b)(o:b<=134217728)(p:iI X d e2 b=some j)(z:Int)(q:∀h:AH,Nat.ble h.nx OLD=true->h.df=0->DC X 111 [l9 T N R P,l9 U O S Q] h (zI z) h)(r:(z !=0)=false):DS X (ent (E.wo X) 60 [.agg [.str T,.aO N R P,zI W,.aO (some (c,e1)) a f],.agg [.str U,.aO O S Q,zI V,.aO (some (d,e2)) b g]]) ⟨.e,0,0⟩ (lM (.sl 5 0 (2+b) none) (zI 0) (.sl 3 0 (2+a) none)) (AY (Jk W a i) (qU U O S Q V d e2 b g) (Jk V b j) (qU T N R P W c e1 a f) (zF V b) (zF W a)):=
 qH F M [4,6,7,8] (Qk 12 (q (jK (qU U O S Q V d e2 b g) (qU T N R P W c e1 a f)) (by kernel_rfl) rfl) (Qb 6 r (Ql 18 (Au (E:=E.wo X) (e:=3) (vs:=[zI W,zI (↑a:Int)]) (by kernel_rfl) rfl k l (by kernel_rfl) m:gX (E.wo X) (dJ (qU U O S Q V d e2 b g) (qU T N R P W c e1 a f) (zF W a)) .append [.sl 2 0 2 (some 2),.aO (some (c,e1)) a f] [56,56]=some (.val (.sl 3 0 (2+a) none) (lD (Jk W a i) (qU U O S Q V d e2 b g) (qU T N R P W c e1 a f) (zF W a)))) (Ql 17 (Au (E:=E.wo X) (e:=3) (vs:=[zI V,zI (↑b:Int)]) (by kernel_rfl) rfl n o (by kernel_rfl) p:gX (E.wo X) (xG (Jk W a i) (qU U O S Q V d e2 b g) (qU T N R P W c e1 a f) (zF V b) (zF W a)) .append [.sl 4 0 2 (some 2),.aO (some (d,e2)) b g] [56,56]=some (.val (.sl 5 0 (2+b) none) (AY (Jk W a i) (qU U O S Q V d e2 b g) (Jk V b j) (qU T N R P W c e1 a f) (zF V b) (zF W a)))) (Qn 9))))) (by kernel_rfl)
theorem ahY(b e1 a c:Nat)(g:List AV)(i:0<a)(j:a<=134217728)(k:iI X b e1 a=some g)(d:Option (Nat×Nat))(f:Nat)(z:Int)(l:∀h:AH,Nat.ble h.nx OLD=true->h.df=0->DC X 111 [l9 T N R P,l9 U O S Q] h (zI z) h)(m:(z !=0)=false):DS X (ent (E.wo X) 60 [.agg [.str T,.aO N R P,zI W,.aO (some (b,e1)) a c],.agg [.str U,.aO O S Q,zI V,.aO d 0 f]]) ⟨.e,0,0⟩ (lM (.sl 4 0 2 (some 2)) (zI 0) (.sl 3 0 (2+a) none)) (xG (Jk W a g) (qR U O S Q V d f) (qU T N R P W b e1 a c) (DV V) (zF W a)):=
 qH F M [4,6,7,8] (Qk 12 (l (jK (qR U O S Q V d f) (qU T N R P W b e1 a c)) (by kernel_rfl) rfl) (Qb 6 m (Ql 18 (Au (E:=E.wo X) (e:=3) (vs:=[zI W,zI (↑a:Int)]) (by kernel_rfl) rfl i j (by kernel_rfl) k:gX (E.wo X) (dJ (qR U O S Q V d f) (qU T N R P W b e1 a c) (zF W a)) .append [.sl 2 0 2 (some 2),.aO (some (b,e1)) a c] [56,56]=some (.val (.sl 3 0 (2+a) none) (lD (Jk W a g) (qR U O S Q V d f) (qU T N R P W b e1 a c) (zF W a)))) (Ql 17 (yD (E:=E.wo X) (e:=3) (by kernel_rfl) rfl (by kernel_rfl):gX (E.wo X) (xG (Jk W a g) (qR U O S Q V d f) (qU T N R P W b e1 a c) (DV V) (zF W a)) .append [.sl 4 0 2 (some 2),.aO d 0 f] [56,56]=some (.val (.sl 4 0 2 (some 2)) (xG (Jk W a g) (qR U O S Q V d f) (qU T N R P W b e1 a c) (DV V) (zF W a)))) (Qn 9))))) (by kernel_rfl)
theorem ahW(k1:Option (Nat×Nat))(c:Nat)(b e2 a d:Nat)(f:List AV)(g:0<a)(i:a<=134217728)(j:iI X b e2 a=some f)(z:Int)(k:∀h:AH,Nat.ble h.nx OLD=true->h.df=0->DC X 111 [l9 T N R P,l9 U O S Q] h (zI z) h)(l:(z !=0)=false):DS X (ent (E.wo X) 60 [.agg [.str T,.aO N R P,zI W,.aO k1 0 c],.agg [.str U,.aO O S Q,zI V,.aO (some (b,e2)) a d]]) ⟨.e,0,0⟩ (lM (.sl 4 0 (2+a) none) (zI 0) (.sl 2 0 2 (some 2))) (xG (zF V a) (qU U O S Q V b e2 a d) (qR T N R P W k1 c) (Jk V a f) (DV W)):=
 qH F M [4,6,7,8] (Qk 12 (k (jK (qU U O S Q V b e2 a d) (qR T N R P W k1 c)) (by kernel_rfl) rfl) (Qb 6 l (Ql 18 (yD (E:=E.wo X) (e:=3) (by kernel_rfl) rfl (by kernel_rfl):gX (E.wo X) (dJ (qU U O S Q V b e2 a d) (qR T N R P W k1 c) (DV W)) .append [.sl 2 0 2 (some 2),.aO k1 0 c] [56,56]=some (.val (.sl 2 0 2 (some 2)) (dJ (qU U O S Q V b e2 a d) (qR T N R P W k1 c) (DV W)))) (Ql 17 (Au (E:=E.wo X) (e:=3) (vs:=[zI V,zI (↑a:Int)]) (by kernel_rfl) rfl g i (by kernel_rfl) j:gX (E.wo X) (lD (zF V a) (qU U O S Q V b e2 a d) (qR T N R P W k1 c) (DV W)) .append [.sl 3 0 2 (some 2),.aO (some (b,e2)) a d] [56,56]=some (.val (.sl 4 0 (2+a) none) (xG (zF V a) (qU U O S Q V b e2 a d) (qR T N R P W k1 c) (Jk V a f) (DV W)))) (Qn 9))))) (by kernel_rfl)
theorem ahV(k1:Option (Nat×Nat))(a:Nat)(b:Option (Nat×Nat))(c:Nat)(z:Int)(d:∀h:AH,Nat.ble h.nx OLD=true->h.df=0->DC X 111 [l9 T N R P,l9 U O S Q] h (zI z) h)(f:(z !=0)=false):DS X (ent (E.wo X) 60 [.agg [.str T,.aO N R P,zI W,.aO k1 0 a],.agg [.str U,.aO O S Q,zI V,.aO b 0 c]]) ⟨.e,0,0⟩ (lM (.sl 3 0 2 (some 2)) (zI 0) (.sl 2 0 2 (some 2))) (lD (DV V) (qR U O S Q V b c) (qR T N R P W k1 a) (DV W)):=
 qH F M [4,6,7,8] (Qk 12 (d (jK (qR U O S Q V b c) (qR T N R P W k1 a)) (by kernel_rfl) rfl) (Qb 6 f (Ql 18 (yD (E:=E.wo X) (e:=3) (by kernel_rfl) rfl (by kernel_rfl):gX (E.wo X) (dJ (qR U O S Q V b c) (qR T N R P W k1 a) (DV W)) .append [.sl 2 0 2 (some 2),.aO k1 0 a] [56,56]=some (.val (.sl 2 0 2 (some 2)) (dJ (qR U O S Q V b c) (qR T N R P W k1 a) (DV W)))) (Ql 17 (yD (E:=E.wo X) (e:=3) (by kernel_rfl) rfl (by kernel_rfl):gX (E.wo X) (lD (DV V) (qR U O S Q V b c) (qR T N R P W k1 a) (DV W)) .append [.sl 3 0 2 (some 2),.aO b 0 c] [56,56]=some (.val (.sl 3 0 2 (some 2)) (lD (DV V) (qR U O S Q V b c) (qR T N R P W k1 a) (DV W)))) (Qn 9))))) (by kernel_rfl)
end
end
section
variable(Y:Fe)(Z:Ge)
include Y Z
section
variable(X:Old)(F:Fw X)(x:Gw X)(T U:List UInt8)(V W:Int)(C D:Option (Nat×Nat))(R J S K:Nat)(G N P L:Nat)(H O Q M:Nat)(A B:List AV)(a b:Nat)(y z:Option Nat)(i:Int)
include X F x T U V W C D R J S K G N P L H O Q M A B a b y z i
theorem agG(o1:(decide (i<(↑a:Int)))=false):DR X (lM (.sl 5 0 b z) (zI i) (.sl 3 0 a y)) (mO A U D S K W H O Q M B T C R J V G N P L) (zI 0) (mO A U D S K W H O Q M B T C R J V G N P L):=
 prt F x (Qb 6 o1 (Qn 14)) (by kernel_rfl)
theorem agC(o1:(decide (i<(↑a:Int)))=true)(o2:(decide (i<(↑b:Int)))=false):DR X (lM (.sl 5 0 b z) (zI i) (.sl 3 0 a y)) (mO A U D S K W H O Q M B T C R J V G N P L) (zI 0) (mO A U D S K W H O Q M B T C R J V G N P L):=
 prt F x (Qb 6 o1 (Qb 4 o2 (Qn 9))) (by kernel_rfl)
end
section
variable(X:Old)(F:Fw X)(n:Gw X)(R S:List UInt8)(T U:Int)(A B:Option (Nat×Nat))(P G Q H:Nat)(C L N J:Nat)(D M O K:Nat)(V W:List AV)(a b:Nat)(s t:Option Nat)(i:Int)(x:Nat)(z:i=(↑x:Int))(q:x<a)(r:x<b)(u v:Int)(w:∀h:AH,h.obj 3= .cells V 3 true false->loadT (E.wo X) h 3 3 (x*1)=some (zI u))(y:∀h:AH,h.obj 5= .cells W 3 true false->loadT (E.wo X) h 3 5 (x*1)=some (zI v))(o:(decide (i<(↑a:Int)))=true)(p:(decide (i<(↑b:Int)))=true)
include X F n R S T U A B P G Q H C L N J D M O K V W a b s t i x z q r u v w y o p
theorem agX(d:(decide (u<v))=true):DR X (lM (.sl 5 0 b t) (zI i) (.sl 3 0 a s)) (mO V S B Q H U D M O K W R A P G T C L N J) (zI (-1)) (mO V S B Q H U D M O K W R A P G T C L N J):=
 prt F n (Qb 6 o (Qb 4 p (Qd 8 [.c,.c,.v (zP 3 (x*1)),.v (zI u),.c,.c,.v (zP 5 (x*1)),.v (zI v),.v (.bool true)] (Qq (wE X 3 s z q) (Qq (w (mO V S B Q H U D M O K W R A P G T C L N J) rfl) (Qq (wE X 5 t z r) (Qq (y (mO V S B Q H U D M O K W R A P G T C L N J) rfl) (Qq (Qc d) (Qp (y (mO V S B Q H U D M O K W R A P G T C L N J) rfl) (Qp (w (mO V S B Q H U D M O K W R A P G T C L N J) rfl) (Qn 6))))))))))) (by kernel_rfl)
theorem agT(d:(decide (u<v))=false)(e:(decide (u>v))=true):DR X (lM (.sl 5 0 b t) (zI i) (.sl 3 0 a s)) (mO V S B Q H U D M O K W R A P G T C L N J) (zI 1) (mO V S B Q H U D M O K W R A P G T C L N J):=
 prt F n (Qb 6 o (Qb 4 p (Qd 8 [.c,.c,.v (zP 3 (x*1)),.v (zI u),.c,.c,.v (zP 5 (x*1)),.v (zI v),.v (.bool false)] (Qq (wE X 3 s z q) (Qq (w (mO V S B Q H U D M O K W R A P G T C L N J) rfl) (Qq (wE X 5 t z r) (Qq (y (mO V S B Q H U D M O K W R A P G T C L N J) rfl) (Qq (Qc d) (Qp (y (mO V S B Q H U D M O K W R A P G T C L N J) rfl) (Qp (w (mO V S B Q H U D M O K W R A P G T C L N J) rfl) (Qd 3 [.c,.c,.v (zP 3 (x*1)),.v (zI u),.c,.c,.v (zP 5 (x*1)),.v (zI v),.v (.bool true)] (Qq (wE X 3 s z q) (Qq (w (mO V S B Q H U D M O K W R A P G T C L N J) rfl) (Qq (wE X 5 t z r) (Qq (y (mO V S B Q H U D M O K W R A P G T C L N J) rfl) (Qq (Qc e) (Qp (y (mO V S B Q H U D M O K W R A P G T C L N J) rfl) (Qp (w (mO V S B Q H U D M O K W R A P G T C L N J) rfl) (Qn 6))))))))))))))))))) (by kernel_rfl)
theorem agP(d:(decide (u<v))=false)(e:(decide (u>v))=false):DS X (lM (.sl 5 0 b t) (zI i) (.sl 3 0 a s)) (mO V S B Q H U D M O K W R A P G T C L N J) (lM (.sl 5 0 b t) (zI (IntKind.i64.wrap (i+1))) (.sl 3 0 a s)) (mO V S B Q H U D M O K W R A P G T C L N J):=
 qH F n [4,6,7,8] (Qb 6 o (Qb 4 p (Qd 8 [.c,.c,.v (zP 3 (x*1)),.v (zI u),.c,.c,.v (zP 5 (x*1)),.v (zI v),.v (.bool false)] (Qq (wE X 3 s z q) (Qq (w (mO V S B Q H U D M O K W R A P G T C L N J) rfl) (Qq (wE X 5 t z r) (Qq (y (mO V S B Q H U D M O K W R A P G T C L N J) rfl) (Qq (Qc d) (Qp (y (mO V S B Q H U D M O K W R A P G T C L N J) rfl) (Qp (w (mO V S B Q H U D M O K W R A P G T C L N J) rfl) (Qd 3 [.c,.c,.v (zP 3 (x*1)),.v (zI u),.c,.c,.v (zP 5 (x*1)),.v (zI v),.v (.bool false)] (Qq (wE X 3 s z q) (Qq (w (mO V S B Q H U D M O K W R A P G T C L N J) rfl) (Qq (wE X 5 t z r) (Qq (y (mO V S B Q H U D M O K W R A P G T C L N J) rfl) (Qq (Qc e) (Qp (y (mO V S B Q H U D M O K W R A P G T C L N J) rfl) (Qp (w (mO V S B Q H U D M O K W R A P G T C L N J) rfl) (Qn 9))))))))))))))))))) (by kernel_rfl)
end
section
variable(X:Old)(F:Fw X)(z:Gw X)(T U:List UInt8)(V W:Int)(G H:Option (Nat×Nat))(R K S L:Nat)(J O P M:Nat)(Q:Option (Nat×Nat))(N:Nat)(C D:List AV)(a b:Nat)(A B:Option Nat)(i:Int)
include X F z T U V W G H R K S L J O P M Q N C D a b A B i
theorem agF(o1:(decide (i<(↑a:Int)))=false):DR X (lM (.sl 4 0 b B) (zI i) (.sl 3 0 a A)) (mM C U H S L W Q N T G R K V J O P M D) (zI 0) (mM C U H S L W Q N T G R K V J O P M D):=
 prt F z (Qb 6 o1 (Qn 14)) (by kernel_rfl)
theorem agB(o1:(decide (i<(↑a:Int)))=true)(o2:(decide (i<(↑b:Int)))=false):DR X (lM (.sl 4 0 b B) (zI i) (.sl 3 0 a A)) (mM C U H S L W Q N T G R K V J O P M D) (zI 0) (mM C U H S L W Q N T G R K V J O P M D):=
 prt F z (Qb 6 o1 (Qb 4 o2 (Qn 9))) (by kernel_rfl)
end
section
variable(X:Old)(F:Fw X)(p:Gw X)(R S:List UInt8)(T U:Int)(C D:Option (Nat×Nat))(P H Q J:Nat)(G M N K:Nat)(O:Option (Nat×Nat))(L:Nat)(V W:List AV)(a b:Nat)(w y:Option Nat)(i:Int)(x:Nat)(B:i=(↑x:Int))(s:x<a)(t:x<b)(u v:Int)(z:∀h:AH,h.obj 3= .cells V 3 true false->loadT (E.wo X) h 3 3 (x*1)=some (zI u))(A:∀h:AH,h.obj 4= .cells W 3 false false->loadT (E.wo X) h 3 4 (x*1)=some (zI v))(q:(decide (i<(↑a:Int)))=true)(r:(decide (i<(↑b:Int)))=true)
include X F p R S T U C D P H Q J G M N K O L V W a b w y i x B s t u v z A q r
theorem agW(d:(decide (u<v))=true):DR X (lM (.sl 4 0 b y) (zI i) (.sl 3 0 a w)) (mM V S D Q J U O L R C P H T G M N K W) (zI (-1)) (mM V S D Q J U O L R C P H T G M N K W):=
 prt F p (Qb 6 q (Qb 4 r (Qd 8 [.c,.c,.v (zP 3 (x*1)),.v (zI u),.c,.c,.v (zP 4 (x*1)),.v (zI v),.v (.bool true)] (Qq (wE X 3 w B s) (Qq (z (mM V S D Q J U O L R C P H T G M N K W) rfl) (Qq (wE X 4 y B t) (Qq (A (mM V S D Q J U O L R C P H T G M N K W) rfl) (Qq (Qc d) (Qp (A (mM V S D Q J U O L R C P H T G M N K W) rfl) (Qp (z (mM V S D Q J U O L R C P H T G M N K W) rfl) (Qn 6))))))))))) (by kernel_rfl)
theorem agS(d:(decide (u<v))=false)(e:(decide (u>v))=true):DR X (lM (.sl 4 0 b y) (zI i) (.sl 3 0 a w)) (mM V S D Q J U O L R C P H T G M N K W) (zI 1) (mM V S D Q J U O L R C P H T G M N K W):=
 prt F p (Qb 6 q (Qb 4 r (Qd 8 [.c,.c,.v (zP 3 (x*1)),.v (zI u),.c,.c,.v (zP 4 (x*1)),.v (zI v),.v (.bool false)] (Qq (wE X 3 w B s) (Qq (z (mM V S D Q J U O L R C P H T G M N K W) rfl) (Qq (wE X 4 y B t) (Qq (A (mM V S D Q J U O L R C P H T G M N K W) rfl) (Qq (Qc d) (Qp (A (mM V S D Q J U O L R C P H T G M N K W) rfl) (Qp (z (mM V S D Q J U O L R C P H T G M N K W) rfl) (Qd 3 [.c,.c,.v (zP 3 (x*1)),.v (zI u),.c,.c,.v (zP 4 (x*1)),.v (zI v),.v (.bool true)] (Qq (wE X 3 w B s) (Qq (z (mM V S D Q J U O L R C P H T G M N K W) rfl) (Qq (wE X 4 y B t) (Qq (A (mM V S D Q J U O L R C P H T G M N K W) rfl) (Qq (Qc e) (Qp (A (mM V S D Q J U O L R C P H T G M N K W) rfl) (Qp (z (mM V S D Q J U O L R C P H T G M N K W) rfl) (Qn 6))))))))))))))))))) (by kernel_rfl)
theorem agO(d:(decide (u<v))=false)(e:(decide (u>v))=false):DS X (lM (.sl 4 0 b y) (zI i) (.sl 3 0 a w)) (mM V S D Q J U O L R C P H T G M N K W) (lM (.sl 4 0 b y) (zI (IntKind.i64.wrap (i+1))) (.sl 3 0 a w)) (mM V S D Q J U O L R C P H T G M N K W):=
 qH F p [4,6,7,8] (Qb 6 q (Qb 4 r (Qd 8 [.c,.c,.v (zP 3 (x*1)),.v (zI u),.c,.c,.v (zP 4 (x*1)),.v (zI v),.v (.bool false)] (Qq (wE X 3 w B s) (Qq (z (mM V S D Q J U O L R C P H T G M N K W) rfl) (Qq (wE X 4 y B t) (Qq (A (mM V S D Q J U O L R C P H T G M N K W) rfl) (Qq (Qc d) (Qp (A (mM V S D Q J U O L R C P H T G M N K W) rfl) (Qp (z (mM V S D Q J U O L R C P H T G M N K W) rfl) (Qd 3 [.c,.c,.v (zP 3 (x*1)),.v (zI u),.c,.c,.v (zP 4 (x*1)),.v (zI v),.v (.bool false)] (Qq (wE X 3 w B s) (Qq (z (mM V S D Q J U O L R C P H T G M N K W) rfl) (Qq (wE X 4 y B t) (Qq (A (mM V S D Q J U O L R C P H T G M N K W) rfl) (Qq (Qc e) (Qp (A (mM V S D Q J U O L R C P H T G M N K W) rfl) (Qp (z (mM V S D Q J U O L R C P H T G M N K W) rfl) (Qn 9))))))))))))))))))) (by kernel_rfl)
end
section
variable(X:Old)(F:Fw X)(z:Gw X)(T U:List UInt8)(V W:Int)(G H:Option (Nat×Nat))(R K S L:Nat)(Q:Option (Nat×Nat))(M:Nat)(J O P N:Nat)(C D:List AV)(a b:Nat)(A B:Option Nat)(i:Int)
include X F z T U V W G H R K S L Q M J O P N C D a b A B i
theorem agE(o1:(decide (i<(↑a:Int)))=false):DR X (lM (.sl 4 0 b B) (zI i) (.sl 2 0 a A)) (mJ W P U H S L J O N T G R K V Q M D C) (zI 0) (mJ W P U H S L J O N T G R K V Q M D C):=
 prt F z (Qb 6 o1 (Qn 14)) (by kernel_rfl)
theorem agA(o1:(decide (i<(↑a:Int)))=true)(o2:(decide (i<(↑b:Int)))=false):DR X (lM (.sl 4 0 b B) (zI i) (.sl 2 0 a A)) (mJ W P U H S L J O N T G R K V Q M D C) (zI 0) (mJ W P U H S L J O N T G R K V Q M D C):=
 prt F z (Qb 6 o1 (Qb 4 o2 (Qn 9))) (by kernel_rfl)
end
section
variable(X:Old)(F:Fw X)(p:Gw X)(R S:List UInt8)(T U:Int)(C D:Option (Nat×Nat))(P H Q J:Nat)(O:Option (Nat×Nat))(K:Nat)(G M N L:Nat)(V W:List AV)(a b:Nat)(w y:Option Nat)(i:Int)(x:Nat)(B:i=(↑x:Int))(s:x<a)(t:x<b)(u v:Int)(z:∀h:AH,h.obj 2= .cells V 3 false false->loadT (E.wo X) h 3 2 (x*1)=some (zI u))(A:∀h:AH,h.obj 4= .cells W 3 true false->loadT (E.wo X) h 3 4 (x*1)=some (zI v))(q:(decide (i<(↑a:Int)))=true)(r:(decide (i<(↑b:Int)))=true)
include X F p R S T U C D P H Q J O K G M N L V W a b w y i x B s t u v z A q r
theorem agV(d:(decide (u<v))=true):DR X (lM (.sl 4 0 b y) (zI i) (.sl 2 0 a w)) (mJ U N S D Q J G M L R C P H T O K W V) (zI (-1)) (mJ U N S D Q J G M L R C P H T O K W V):=
 prt F p (Qb 6 q (Qb 4 r (Qd 8 [.c,.c,.v (zP 2 (x*1)),.v (zI u),.c,.c,.v (zP 4 (x*1)),.v (zI v),.v (.bool true)] (Qq (wE X 2 w B s) (Qq (z (mJ U N S D Q J G M L R C P H T O K W V) rfl) (Qq (wE X 4 y B t) (Qq (A (mJ U N S D Q J G M L R C P H T O K W V) rfl) (Qq (Qc d) (Qp (A (mJ U N S D Q J G M L R C P H T O K W V) rfl) (Qp (z (mJ U N S D Q J G M L R C P H T O K W V) rfl) (Qn 6))))))))))) (by kernel_rfl)
theorem agR(d:(decide (u<v))=false)(e:(decide (u>v))=true):DR X (lM (.sl 4 0 b y) (zI i) (.sl 2 0 a w)) (mJ U N S D Q J G M L R C P H T O K W V) (zI 1) (mJ U N S D Q J G M L R C P H T O K W V):=
 prt F p (Qb 6 q (Qb 4 r (Qd 8 [.c,.c,.v (zP 2 (x*1)),.v (zI u),.c,.c,.v (zP 4 (x*1)),.v (zI v),.v (.bool false)] (Qq (wE X 2 w B s) (Qq (z (mJ U N S D Q J G M L R C P H T O K W V) rfl) (Qq (wE X 4 y B t) (Qq (A (mJ U N S D Q J G M L R C P H T O K W V) rfl) (Qq (Qc d) (Qp (A (mJ U N S D Q J G M L R C P H T O K W V) rfl) (Qp (z (mJ U N S D Q J G M L R C P H T O K W V) rfl) (Qd 3 [.c,.c,.v (zP 2 (x*1)),.v (zI u),.c,.c,.v (zP 4 (x*1)),.v (zI v),.v (.bool true)] (Qq (wE X 2 w B s) (Qq (z (mJ U N S D Q J G M L R C P H T O K W V) rfl) (Qq (wE X 4 y B t) (Qq (A (mJ U N S D Q J G M L R C P H T O K W V) rfl) (Qq (Qc e) (Qp (A (mJ U N S D Q J G M L R C P H T O K W V) rfl) (Qp (z (mJ U N S D Q J G M L R C P H T O K W V) rfl) (Qn 6))))))))))))))))))) (by kernel_rfl)
theorem agN(d:(decide (u<v))=false)(e:(decide (u>v))=false):DS X (lM (.sl 4 0 b y) (zI i) (.sl 2 0 a w)) (mJ U N S D Q J G M L R C P H T O K W V) (lM (.sl 4 0 b y) (zI (IntKind.i64.wrap (i+1))) (.sl 2 0 a w)) (mJ U N S D Q J G M L R C P H T O K W V):=
 qH F p [4,6,7,8] (Qb 6 q (Qb 4 r (Qd 8 [.c,.c,.v (zP 2 (x*1)),.v (zI u),.c,.c,.v (zP 4 (x*1)),.v (zI v),.v (.bool false)] (Qq (wE X 2 w B s) (Qq (z (mJ U N S D Q J G M L R C P H T O K W V) rfl) (Qq (wE X 4 y B t) (Qq (A (mJ U N S D Q J G M L R C P H T O K W V) rfl) (Qq (Qc d) (Qp (A (mJ U N S D Q J G M L R C P H T O K W V) rfl) (Qp (z (mJ U N S D Q J G M L R C P H T O K W V) rfl) (Qd 3 [.c,.c,.v (zP 2 (x*1)),.v (zI u),.c,.c,.v (zP 4 (x*1)),.v (zI v),.v (.bool false)] (Qq (wE X 2 w B s) (Qq (z (mJ U N S D Q J G M L R C P H T O K W V) rfl) (Qq (wE X 4 y B t) (Qq (A (mJ U N S D Q J G M L R C P H T O K W V) rfl) (Qq (Qc e) (Qp (A (mJ U N S D Q J G M L R C P H T O K W V) rfl) (Qp (z (mJ U N S D Q J G M L R C P H T O K W V) rfl) (Qn 9))))))))))))))))))) (by kernel_rfl)
end
section
variable(X:Old)(F:Fw X)(B:Gw X)(T U:List UInt8)(V W:Int)(J K:Option (Nat×Nat))(R L S M:Nat)(P:Option (Nat×Nat))(N:Nat)(Q:Option (Nat×Nat))(O:Nat)(G H:List AV)(a b:Nat)(C D:Option Nat)(i:Int)
include X F B T U V W J K R L S M P N Q O G H a b C D i
theorem agD(o1:(decide (i<(↑a:Int)))=false):DR X (lM (.sl 3 0 b D) (zI i) (.sl 2 0 a C)) (mH H U K S M W Q O T J R L V P N G) (zI 0) (mH H U K S M W Q O T J R L V P N G):=
 prt F B (Qb 6 o1 (Qn 14)) (by kernel_rfl)
theorem agz(o1:(decide (i<(↑a:Int)))=true)(o2:(decide (i<(↑b:Int)))=false):DR X (lM (.sl 3 0 b D) (zI i) (.sl 2 0 a C)) (mH H U K S M W Q O T J R L V P N G) (zI 0) (mH H U K S M W Q O T J R L V P N G):=
 prt F B (Qb 6 o1 (Qb 4 o2 (Qn 9))) (by kernel_rfl)
end
section
variable(X:Old)(F:Fw X)(r:Gw X)(R S:List UInt8)(T U:Int)(G H:Option (Nat×Nat))(P J Q K:Nat)(N:Option (Nat×Nat))(L:Nat)(O:Option (Nat×Nat))(M:Nat)(V W:List AV)(a b:Nat)(z A:Option Nat)(i:Int)(x:Nat)(D:i=(↑x:Int))(w:x<a)(y:x<b)(u v:Int)(B:∀h:AH,h.obj 2= .cells V 3 false false->loadT (E.wo X) h 3 2 (x*1)=some (zI u))(C:∀h:AH,h.obj 3= .cells W 3 false false->loadT (E.wo X) h 3 3 (x*1)=some (zI v))(s:(decide (i<(↑a:Int)))=true)(t:(decide (i<(↑b:Int)))=true)
include X F r R S T U G H P J Q K N L O M V W a b z A i x D w y u v B C s t
theorem agU(d:(decide (u<v))=true):DR X (lM (.sl 3 0 b A) (zI i) (.sl 2 0 a z)) (mH W S H Q K U O M R G P J T N L V) (zI (-1)) (mH W S H Q K U O M R G P J T N L V):=
 prt F r (Qb 6 s (Qb 4 t (Qd 8 [.c,.c,.v (zP 2 (x*1)),.v (zI u),.c,.c,.v (zP 3 (x*1)),.v (zI v),.v (.bool true)] (Qq (wE X 2 z D w) (Qq (B (mH W S H Q K U O M R G P J T N L V) rfl) (Qq (wE X 3 A D y) (Qq (C (mH W S H Q K U O M R G P J T N L V) rfl) (Qq (Qc d) (Qp (C (mH W S H Q K U O M R G P J T N L V) rfl) (Qp (B (mH W S H Q K U O M R G P J T N L V) rfl) (Qn 6))))))))))) (by kernel_rfl)
theorem agQ(d:(decide (u<v))=false)(e:(decide (u>v))=true):DR X (lM (.sl 3 0 b A) (zI i) (.sl 2 0 a z)) (mH W S H Q K U O M R G P J T N L V) (zI 1) (mH W S H Q K U O M R G P J T N L V):=
 prt F r (Qb 6 s (Qb 4 t (Qd 8 [.c,.c,.v (zP 2 (x*1)),.v (zI u),.c,.c,.v (zP 3 (x*1)),.v (zI v),.v (.bool false)] (Qq (wE X 2 z D w) (Qq (B (mH W S H Q K U O M R G P J T N L V) rfl) (Qq (wE X 3 A D y) (Qq (C (mH W S H Q K U O M R G P J T N L V) rfl) (Qq (Qc d) (Qp (C (mH W S H Q K U O M R G P J T N L V) rfl) (Qp (B (mH W S H Q K U O M R G P J T N L V) rfl) (Qd 3 [.c,.c,.v (zP 2 (x*1)),.v (zI u),.c,.c,.v (zP 3 (x*1)),.v (zI v),.v (.bool true)] (Qq (wE X 2 z D w) (Qq (B (mH W S H Q K U O M R G P J T N L V) rfl) (Qq (wE X 3 A D y) (Qq (C (mH W S H Q K U O M R G P J T N L V) rfl) (Qq (Qc e) (Qp (C (mH W S H Q K U O M R G P J T N L V) rfl) (Qp (B (mH W S H Q K U O M R G P J T N L V) rfl) (Qn 6))))))))))))))))))) (by kernel_rfl)
theorem agM(d:(decide (u<v))=false)(e:(decide (u>v))=false):DS X (lM (.sl 3 0 b A) (zI i) (.sl 2 0 a z)) (mH W S H Q K U O M R G P J T N L V) (lM (.sl 3 0 b A) (zI (IntKind.i64.wrap (i+1))) (.sl 2 0 a z)) (mH W S H Q K U O M R G P J T N L V):=
 qH F r [4,6,7,8] (Qb 6 s (Qb 4 t (Qd 8 [.c,.c,.v (zP 2 (x*1)),.v (zI u),.c,.c,.v (zP 3 (x*1)),.v (zI v),.v (.bool false)] (Qq (wE X 2 z D w) (Qq (B (mH W S H Q K U O M R G P J T N L V) rfl) (Qq (wE X 3 A D y) (Qq (C (mH W S H Q K U O M R G P J T N L V) rfl) (Qq (Qc d) (Qp (C (mH W S H Q K U O M R G P J T N L V) rfl) (Qp (B (mH W S H Q K U O M R G P J T N L V) rfl) (Qd 3 [.c,.c,.v (zP 2 (x*1)),.v (zI u),.c,.c,.v (zP 3 (x*1)),.v (zI v),.v (.bool false)] (Qq (wE X 2 z D w) (Qq (B (mH W S H Q K U O M R G P J T N L V) rfl) (Qq (wE X 3 A D y) (Qq (C (mH W S H Q K U O M R G P J T N L V) rfl) (Qq (Qc e) (Qp (C (mH W S H Q K U O M R G P J T N L V) rfl) (Qp (B (mH W S H Q K U O M R G P J T N L V) rfl) (Qn 9))))))))))))))))))) (by kernel_rfl)
end
end
section
variable(Y:Fe)(Z:Ge)
include Y Z
theorem tx0(old:Old)(F:Fw old)(FF:Gw old)(s u:List UInt8):DS old (ent (E.wo old) 167 [.str s,.str u]) ⟨.e,0,0⟩ (Jb (.str u) (zI 0) (.str s)) ⟨.e,0,0⟩:=
 qH F FF [0,1,5] (Qn 11) (by kernel_rfl)
section
variable(X:Old)(F:Fw X)(S:Gw X)(s u:List UInt8)(i:Int)(x y:UInt8)(V:Ag (E.wo X) 9 (.str s) (zI i)=some (.int .u8 x.toNat))(W:Ag (E.wo X) 9 (.str u) (zI i)=some (.int .u8 y.toNat))(T:(decide (i<(↑s.length:Int)))=true)(U:(decide (i<(↑u.length:Int)))=true)
include X F S s u i x y V W T U
theorem tx1(a:(decide ((↑x.toNat:Int)<(↑y.toNat:Int)))=false)(b:(decide ((↑x.toNat:Int)>(↑y.toNat:Int)))=false):DS X (Jb (.str u) (zI i) (.str s)) ⟨.e,0,0⟩ (Jb (.str u) (zI (IntKind.i64.wrap (i+1))) (.str s)) ⟨.e,0,0⟩:=
 qH F S [0,1,5] (Qb 6 T (Qb 4 U (Qd 8 [.c,.c,.v (.int .u8 (↑x.toNat:Int)),.c,.c,.v (.int .u8 (↑y.toNat:Int)),.v (.bool false)] (Qq V (Qq W (Qq (Qc a) (Qd 3 [.c,.c,.v (.int .u8 (↑x.toNat:Int)),.c,.c,.v (.int .u8 (↑y.toNat:Int)),.v (.bool false)] (Qq V (Qq W (Qq (Qc b) (Qn 9))))))))))) (by kernel_rfl)
theorem tx2(a:(decide ((↑x.toNat:Int)<(↑y.toNat:Int)))=true):DR X (Jb (.str u) (zI i) (.str s)) ⟨.e,0,0⟩ (zI (-1)) ⟨.e,0,0⟩:=
 prt F S (Qb 6 T (Qb 4 U (Qd 8 [.c,.c,.v (.int .u8 (↑x.toNat:Int)),.c,.c,.v (.int .u8 (↑y.toNat:Int)),.v (.bool true)] (Qq V (Qq W (Qq (Qc a) (Qn 6))))))) (by kernel_rfl)
theorem tx3(a:(decide ((↑x.toNat:Int)<(↑y.toNat:Int)))=false)(b:(decide ((↑x.toNat:Int)>(↑y.toNat:Int)))=true):DR X (Jb (.str u) (zI i) (.str s)) ⟨.e,0,0⟩ (zI 1) ⟨.e,0,0⟩:=
 prt F S (Qb 6 T (Qb 4 U (Qd 8 [.c,.c,.v (.int .u8 (↑x.toNat:Int)),.c,.c,.v (.int .u8 (↑y.toNat:Int)),.v (.bool false)] (Qq V (Qq W (Qq (Qc a) (Qd 3 [.c,.c,.v (.int .u8 (↑x.toNat:Int)),.c,.c,.v (.int .u8 (↑y.toNat:Int)),.v (.bool true)] (Qq V (Qq W (Qq (Qc b) (Qn 6))))))))))) (by kernel_rfl)
end
section
variable(X:Old)(F:Fw X)(W:Gw X)(s u:List UInt8)(i:Int)
include X F W s u i
theorem tx4(o1:(decide (i<(↑s.length:Int)))=false):DR X (Jb (.str u) (zI i) (.str s)) ⟨.e,0,0⟩ (zI (aK (↑s.length:Int) (↑u.length:Int))) ⟨.e,0,0⟩:=
 prt F W (Qb 6 o1 (Qk 15 (DoesC.ov (Y0 Y Z X F W (↑s.length:Int) (↑u.length:Int)) rfl rfl rfl (by kernel_rfl):DC X 248 [zI (↑s.length:Int),zI (↑u.length:Int)] ⟨.e,0,0⟩ (zI (aK (↑s.length:Int) (↑u.length:Int))) ⟨.e,0,0⟩) (Qn 3))) (by kernel_rfl)
theorem tx5(o1:(decide (i<(↑s.length:Int)))=true)(o2:(decide (i<(↑u.length:Int)))=false):DR X (Jb (.str u) (zI i) (.str s)) ⟨.e,0,0⟩ (zI (aK (↑s.length:Int) (↑u.length:Int))) ⟨.e,0,0⟩:=
 prt F W (Qb 6 o1 (Qb 4 o2 (Qk 10 (DoesC.ov (Y0 Y Z X F W (↑s.length:Int) (↑u.length:Int)) rfl rfl rfl (by kernel_rfl):DC X 248 [zI (↑s.length:Int),zI (↑u.length:Int)] ⟨.e,0,0⟩ (zI (aK (↑s.length:Int) (↑u.length:Int))) ⟨.e,0,0⟩) (Qn 3)))) (by kernel_rfl)
end
end
section
variable(Y:Fe)(Z:Ge)
include Y Z
theorem ad8(old:Old)(F:Fw old)(FF:Gw old)(k1 m1 k2 m2 z:Int)(s1 s2:List UInt8)(hC:Qu old 167 [.str s1,.str s2] (zI z))(o1:(k1 !=k2)=true):DR old (ent (E.wo old) 249 [uq k1 m1 s1,uq k2 m2 s2]) ⟨.e,0,0⟩ (zI (aK k1 k2)) (gZ k2 m2 s2 k1 m1 s1):=
 prt F FF (Qb 13 o1 (Qk 8 (DoesC.ov (Y0 Y Z old F FF k1 k2) rfl rfl rfl (by kernel_rfl):DC old 248 [zI k1,zI k2] (gZ k2 m2 s2 k1 m1 s1) (zI (aK k1 k2)) (gZ k2 m2 s2 k1 m1 s1)) (Qn 3))) (by kernel_rfl)
theorem ZA(old:Old)(F:Fw old)(FF:Gw old)(k1 m1 k2 m2 z:Int)(s1 s2:List UInt8)(hC:∀h,Nat.ble h.nx OLD=true->h.df=0->DC old 167 [.str s1,.str s2] h (zI z) h)(o1:(k1 !=k2)=true):DC old 249 [uq k1 m1 s1,uq k2 m2 s2] ⟨.e,0,0⟩ (zI (aK k1 k2)) ⟨.e,0,0⟩:=
 DoesC.drop (DoesC.ent FF (by kernel_rfl) (ad8 Y Z old F FF k1 m1 k2 m2 z s1 s2 hC o1)) [] (by kernel_rfl) (by kernel_rfl) (by kernel_rfl) rfl (by kernel_rfl) (by kernel_rfl) (by kernel_rfl)
theorem ad7(old:Old)(F:Fw old)(FF:Gw old)(k1 m1 k2 m2 z:Int)(s1 s2:List UInt8)(hC:Qu old 167 [.str s1,.str s2] (zI z))(o1:(k1 !=k2)=false)(o2:(m1 !=m2)=true):DR old (ent (E.wo old) 249 [uq k1 m1 s1,uq k2 m2 s2]) ⟨.e,0,0⟩ (zI (aK m1 m2)) (gZ k2 m2 s2 k1 m1 s1):=
 prt F FF (Qb 13 o1 (Qb 10 o2 (Qk 8 (DoesC.ov (Y0 Y Z old F FF m1 m2) rfl rfl rfl (by kernel_rfl):DC old 248 [zI m1,zI m2] (gZ k2 m2 s2 k1 m1 s1) (zI (aK m1 m2)) (gZ k2 m2 s2 k1 m1 s1)) (Qn 3)))) (by kernel_rfl)
theorem Zz(old:Old)(F:Fw old)(FF:Gw old)(k1 m1 k2 m2 z:Int)(s1 s2:List UInt8)(hC:∀h,Nat.ble h.nx OLD=true->h.df=0->DC old 167 [.str s1,.str s2] h (zI z) h)(o1:(k1 !=k2)=false)(o2:(m1 !=m2)=true):DC old 249 [uq k1 m1 s1,uq k2 m2 s2] ⟨.e,0,0⟩ (zI (aK m1 m2)) ⟨.e,0,0⟩:=
 DoesC.drop (DoesC.ent FF (by kernel_rfl) (ad7 Y Z old F FF k1 m1 k2 m2 z s1 s2 hC o1 o2)) [] (by kernel_rfl) (by kernel_rfl) (by kernel_rfl) rfl (by kernel_rfl) (by kernel_rfl) (by kernel_rfl)
theorem ad6(old:Old)(F:Fw old)(FF:Gw old)(k1 m1 k2 m2 z:Int)(s1 s2:List UInt8)(hC:Qu old 167 [.str s1,.str s2] (zI z))(o1:(k1 !=k2)=false)(o2:(m1 !=m2)=false):DR old (ent (E.wo old) 249 [uq k1 m1 s1,uq k2 m2 s2]) ⟨.e,0,0⟩ (zI z) (gZ k2 m2 s2 k1 m1 s1):=
 prt F FF (Qb 13 o1 (Qb 10 o2 (Qk 9 (hC (gZ k2 m2 s2 k1 m1 s1) (by kernel_rfl) rfl) (Qn 3)))) (by kernel_rfl)
theorem Zy(old:Old)(F:Fw old)(FF:Gw old)(k1 m1 k2 m2 z:Int)(s1 s2:List UInt8)(hC:∀h,Nat.ble h.nx OLD=true->h.df=0->DC old 167 [.str s1,.str s2] h (zI z) h)(o1:(k1 !=k2)=false)(o2:(m1 !=m2)=false):DC old 249 [uq k1 m1 s1,uq k2 m2 s2] ⟨.e,0,0⟩ (zI z) ⟨.e,0,0⟩:=
 DoesC.drop (DoesC.ent FF (by kernel_rfl) (ad6 Y Z old F FF k1 m1 k2 m2 z s1 s2 hC o1 o2)) [] (by kernel_rfl) (by kernel_rfl) (by kernel_rfl) rfl (by kernel_rfl) (by kernel_rfl) (by kernel_rfl)
theorem tp0(old:Old)(F:Fw old)(FF:Gw old)(a b:Option (Nat×Nat))(n1 c1 n2 c2:Nat):DS old (ent (E.wo old) 168 (mG a n1 c1 b n2 c2)) ⟨.e,0,0⟩ (LP (.aO b n2 c2) (zI 0) (.aO a n1 c1)) ⟨.e,0,0⟩:=
 qH F FF [0,1,5] (Qn 11) (by kernel_rfl)
section
variable(X:Old)(F:Fw X)(w:Gw X)(T V R P U W S Q:Nat)(i z J L K M:Int)(N O:List UInt8)(D:0<=i)(x:i<R)(y:i<S)(G:∀h,loadT (E.wo X) h 101 (OLD+T) (V+i.toNat*3)=some (uq J L N))(H:∀h,loadT (E.wo X) h 101 (OLD+U) (W+i.toNat*3)=some (uq K M O))(A:Qu X 249 [uq J L N,uq K M O] (zI z))(B:(decide (i<(↑R:Int)))=true)(C:(decide (i<(↑S:Int)))=true)
include X F w T V R P U W S Q i z J L K M N O D x y G H A B C
theorem tp1(a:(z !=0)=false):DS X (LP (.aO (some (U,W)) S Q) (zI i) (.aO (some (T,V)) R P)) ⟨.e,0,0⟩ (LP (.aO (some (U,W)) S Q) (zI (IntKind.i64.wrap (i+1))) (.aO (some (T,V)) R P)) ⟨.e,0,0⟩:=
 qH F w [0,1,5] (Qb 6 B (Qb 4 C (Qd 7 [.c,.c,.v (zP (1152921504606846976+T) (V+i.toNat*3)),.v (uq J L N),.c,.c,.v (zP (1152921504606846976+U) (W+i.toNat*3)),.v (uq K M O),.k (zI z) ⟨.e,0,0⟩,.c] (Qq (Zl X T V P D x) (Qq (G ⟨.e,0,0⟩) (Qq (Zl X U W Q D y) (Qq (H ⟨.e,0,0⟩) (Qp (A ⟨.e,0,0⟩ (by kernel_rfl) rfl) (Qp (H ⟨.e,0,0⟩) (Qp (G ⟨.e,0,0⟩) (Qb 3 a (Qn 10)))))))))))) (by kernel_rfl)
theorem tp2(a:(z !=0)=true):DR X (LP (.aO (some (U,W)) S Q) (zI i) (.aO (some (T,V)) R P)) ⟨.e,0,0⟩ (zI z) ⟨.e,0,0⟩:=
 prt F w (Qb 6 B (Qb 4 C (Qd 7 [.c,.c,.v (zP (1152921504606846976+T) (V+i.toNat*3)),.v (uq J L N),.c,.c,.v (zP (1152921504606846976+U) (W+i.toNat*3)),.v (uq K M O),.k (zI z) ⟨.e,0,0⟩,.c] (Qq (Zl X T V P D x) (Qq (G ⟨.e,0,0⟩) (Qq (Zl X U W Q D y) (Qq (H ⟨.e,0,0⟩) (Qp (A ⟨.e,0,0⟩ (by kernel_rfl) rfl) (Qp (H ⟨.e,0,0⟩) (Qp (G ⟨.e,0,0⟩) (Qb 3 a (Qn 8)))))))))))) (by kernel_rfl)
end
section
variable(X:Old)(F:Fw X)(W:Gw X)
include X F W
theorem tp3(a b:Option (Nat×Nat))(n1 c1 n2 c2:Nat)(i:Int)(o1:(decide (i<(↑n1:Int)))=false):DR X (LP (.aO b n2 c2) (zI i) (.aO a n1 c1)) ⟨.e,0,0⟩ (zI (aK (↑n1:Int) (↑n2:Int))) ⟨.e,0,0⟩:=
 prt F W (Qb 6 o1 (Qk 15 (DoesC.ov (Y0 Y Z X F W (↑n1:Int) (↑n2:Int)) rfl rfl rfl (by kernel_rfl):DC X 248 [zI (↑n1:Int),zI (↑n2:Int)] ⟨.e,0,0⟩ (zI (aK (↑n1:Int) (↑n2:Int))) ⟨.e,0,0⟩) (Qn 3))) (by kernel_rfl)
theorem tp4(a b:Option (Nat×Nat))(n1 c1 n2 c2:Nat)(i:Int)(o1:(decide (i<(↑n1:Int)))=true)(o2:(decide (i<(↑n2:Int)))=false):DR X (LP (.aO b n2 c2) (zI i) (.aO a n1 c1)) ⟨.e,0,0⟩ (zI (aK (↑n1:Int) (↑n2:Int))) ⟨.e,0,0⟩:=
 prt F W (Qb 6 o1 (Qb 4 o2 (Qk 10 (DoesC.ov (Y0 Y Z X F W (↑n1:Int) (↑n2:Int)) rfl rfl rfl (by kernel_rfl):DC X 248 [zI (↑n1:Int),zI (↑n2:Int)] ⟨.e,0,0⟩ (zI (aK (↑n1:Int) (↑n2:Int))) ⟨.e,0,0⟩) (Qn 3)))) (by kernel_rfl)
theorem afm(r1 r2:List UInt8)(a b:Option (Nat×Nat))(n1 c1 n2 c2:Nat)(z z2:Int)(hC:Qu X 167 [.str r1,.str r2] (zI z))(c:Qu X 168 (mG a n1 c1 b n2 c2) (zI z2))(o1:(z !=0)=true):DR X (ent (E.wo X) 111 [l9 r1 a n1 c1,l9 r2 b n2 c2]) ⟨.e,0,0⟩ (zI z) (nV r2 b n2 c2 r1 a n1 c1):=
 prt F W (Qk 12 (hC (nV r2 b n2 c2 r1 a n1 c1) (by kernel_rfl) rfl) (Qb 6 o1 (Qn 8))) (by kernel_rfl)
end
theorem ab2(old:Old)(F:Fw old)(FF:Gw old)(r1 r2:List UInt8)(a b:Option (Nat×Nat))(n1 c1 n2 c2:Nat)(z z2:Int)(hC:∀h,Nat.ble h.nx OLD=true->h.df=0->DC old 167 [.str r1,.str r2] h (zI z) h)(c:∀h,Nat.ble h.nx OLD=true->h.df=0->DC old 168 (mG a n1 c1 b n2 c2) h (zI z2) h)(o1:(z !=0)=true):DC old 111 [l9 r1 a n1 c1,l9 r2 b n2 c2] ⟨.e,0,0⟩ (zI z) ⟨.e,0,0⟩:=
 DoesC.drop (DoesC.ent FF (by kernel_rfl) (afm Y Z old F FF r1 r2 a b n1 c1 n2 c2 z z2 hC c o1)) [] (by kernel_rfl) (by kernel_rfl) (by kernel_rfl) rfl (by kernel_rfl) (by kernel_rfl) (by kernel_rfl)
theorem afl(old:Old)(F:Fw old)(FF:Gw old)(r1 r2:List UInt8)(a b:Option (Nat×Nat))(n1 c1 n2 c2:Nat)(z z2:Int)(hC:Qu old 167 [.str r1,.str r2] (zI z))(c:Qu old 168 (mG a n1 c1 b n2 c2) (zI z2))(o1:(z !=0)=false):DR old (ent (E.wo old) 111 [l9 r1 a n1 c1,l9 r2 b n2 c2]) ⟨.e,0,0⟩ (zI z2) (nV r2 b n2 c2 r1 a n1 c1):=
 prt F FF (Qk 12 (hC (nV r2 b n2 c2 r1 a n1 c1) (by kernel_rfl) rfl) (Qb 6 o1 (Qk 9 (c (nV r2 b n2 c2 r1 a n1 c1) (by kernel_rfl) rfl) (Qn 3)))) (by kernel_rfl)
theorem ab1(old:Old)(F:Fw old)(FF:Gw old)(r1 r2:List UInt8)(a b:Option (Nat×Nat))(n1 c1 n2 c2:Nat)(z z2:Int)(hC:∀h,Nat.ble h.nx OLD=true->h.df=0->DC old 167 [.str r1,.str r2] h (zI z) h)(c:∀h,Nat.ble h.nx OLD=true->h.df=0->DC old 168 (mG a n1 c1 b n2 c2) h (zI z2) h)(o1:(z !=0)=false):DC old 111 [l9 r1 a n1 c1,l9 r2 b n2 c2] ⟨.e,0,0⟩ (zI z2) ⟨.e,0,0⟩:=
 DoesC.drop (DoesC.ent FF (by kernel_rfl) (afl Y Z old F FF r1 r2 a b n1 c1 n2 c2 z z2 hC c o1)) [] (by kernel_rfl) (by kernel_rfl) (by kernel_rfl) rfl (by kernel_rfl) (by kernel_rfl) (by kernel_rfl)
end
section
variable{r1 r2:List UInt8}{v:AV}
noncomputable def txF(s u:List UInt8)(i:Int):AF:=(Jb (.str u) (zI i) (.str s))
noncomputable def tpF(a b:Option (Nat×Nat))(c c1 d c2:Nat)(i:Int):AF:=(LP (.aO b d c2) (zI i) (.aO a c c1))
theorem Xw{old:Old}{s:List UInt8}{i:Nat}{x:UInt8}(h:s[i]? =some x):Ag (E.wo old) 9 (.str s) (zI ((i:Nat):Int))=some (.int .u8 x.toNat):=by
 unfold Ag;rw[show(E.wo old).d 9=some .str by kernel_rfl];show cond (decide ((0:Int)<=((i:Nat):Int))) ((s[((i:Nat):Int).toNat]?).map λb=>AV.int .u8 b.toNat) none=_;rw[aB (by omega),bZ,h];rfl
theorem Uc{a b c:Nat}:aK ((a+b:Nat):Int) ((a+c:Nat):Int)=aK (b:Int) (c:Int):=by
 unfold aK
 repeat' split
 all_goals omega
theorem Ub{a b:Int}(h:a<b):aK a b= -1:=by unfold aK;rw[aC h]
theorem adh{a b:Int}(h:b<a):aK a b=1:=by unfold aK;rw[ah (by omega),aC h]
theorem Ud{a b:Int}(h:a=b):aK a b=0:=by unfold aK;rw[ah (by omega),ah (by omega)]
section
variable(X:Fe)(Z:Ge)(old:Old)(F:Fw old)(Y:Gw old)
include X Z F Y
theorem Wp:∀(a b c u1:List UInt8) (i:Nat),c.length=i->u1.length=i->i+a.length<=4611686018427387000->jD prog (E.wo old) (txF (c++a) (u1++b) i) (zI (qA yR a b))
 |[],b,c,u1,i,h1,d,f=>by
  have A1:=tx4 X Z old F Y (c++[]) (u1++b) i (aH (by simp;omega));have e:aK ((c++([]:List UInt8)).length:Int) ((u1++b).length:Int)=qA yR [] b:=by
   have:=@Uc i 0 b.length;simp only[bC,List.length_nil,h1,d];rw[this];cases b<;>simp[aK,qA]<;>omega
  rw[e]at A1;exact jD.it A1 (by kernel_rfl) rfl
 |x::a,[],c,u1,i,h1,d,f=>by
  have A1:=tx5 X Z old F Y (c++x::a) (u1++[]) i (aB (by simp;omega)) (aH (by simp;omega));have e:aK ((c++x::a).length:Int) ((u1++([]:List UInt8)).length:Int)=qA yR (x::a) []:=by
   have:=@Uc i (a.length+1) 0;simp only[bC,List.length_nil,fB,h1,d];rw[this];simp[aK,qA];omega
  rw[e]at A1;exact jD.it A1 (by kernel_rfl) rfl
 |x::a,y::b,c,u1,i,h1,d,f=>by
  have l:(c++x::a)[i]? =some x:=by rw[← h1,Xz]
  have m:(u1++y::b)[i]? =some y:=by rw[← d,Xz]
  have h:=Xw (old:=old) l;have j:=Xw (old:=old) m;have l1:decide ((i:Int)<(((c++x::a).length:Nat):Int))=true:=aB (by simp;omega);have l2:decide ((i:Int)<(((u1++y::b).length:Nat):Int))=true:=aB (by simp;omega);show jD _ _ _ (zI (dV (yR x y) (qA yR a b)));rw[PY];simp at f;rcases Nat.lt_trichotomy x.toNat y.toNat with g|g|g
  .have A1:=tx2 X Z old F Y _ _ i x y h j l1 l2 (aB (by omega))
   have e:dV (aK x.toNat y.toNat) (qA yR a b)= -1:=by rw[Ub (by omega)];rfl
   rw[e];exact jD.it A1 (by kernel_rfl) rfl
  .have A1:=tx1 X Z old F Y _ _ i x y h j l1 l2 (aH (by omega)) (aH (by omega))
   rw[Ec (by omega)]at A1;have e:dV (aK x.toNat y.toNat) (qA yR a b)=qA yR a b:=by rw[Ud (by omega)];rfl
   rw[e];have k:=Wp a b (c++[x]) (u1++[y]) (i+1) (by simp;omega) (by simp;omega) (by omega);have e1:c++[x]++a=c++x::a:=by simp
   have e2:u1++[y]++b=u1++y::b:=by simp
   rw[e1,e2]at k;exact jD.of A1 k
  .have A1:=tx3 X Z old F Y _ _ i x y h j l1 l2 (aH (by omega)) (aB (by omega))
   have e:dV (aK x.toNat y.toNat) (qA yR a b)=1:=by rw[adh (by omega)];rfl
   rw[e];exact jD.it A1 (by kernel_rfl) rfl
theorem ag0(s u:List UInt8)(a:s.length<=4611686018427387000):DC old 167 [.str s,.str u] eH (zI (jT s u)) eH:=by
 rw[Le];exact DoesC.Zh Y (by kernel_rfl) (jD.of (tx0 X Z old F Y s u) (Wp X Z old F Y s u [] [] 0 rfl rfl (by omega))) rfl rfl
theorem ah6(v w:PV)(c:v.s.length<=4611686018427387000):DC old 249 [.agg v.cells,.agg w.cells] eH (zI (vG v w)) eH:=by
 have a:∀h:AH,Nat.ble h.nx OLD=true->h.df=0->DC old 167 [.str v.s,.str w.s] h (zI (jT v.s w.s)) h:=λh h1 d=>DoesC.ov (ag0 X Z old F Y v.s w.s c) rfl rfl d h1;cases g:(v.k !=w.k)
 .have b:aK v.k w.k=0:=by unfold aK;have:v.k=w.k:=by simpa using g
                          rw[ah (by omega),ah (by omega)]
  cases g2:(v.m !=w.m)
  .have f:aK v.m w.m=0:=by unfold aK;have:v.m=w.m:=by simpa using g2
                           rw[ah (by omega),ah (by omega)]
   have e:vG v w=jT v.s w.s:=by unfold vG;rw[b,f];rfl
   rw[e];exact Zy X Z old F Y v.k v.m w.k w.m _ v.s w.s a g g2
  .have e:vG v w=aK v.m w.m:=by
    unfold vG;rw[b];show dV (aK v.m w.m) _=_;unfold dV;rw[ah];have:v.m≠w.m:=by simpa using g2
    unfold aK;repeat' split
    all_goals omega
   rw[e];exact Zz X Z old F Y v.k v.m w.k w.m _ v.s w.s a g g2
 .have e:vG v w=aK v.k w.k:=by
   unfold vG dV;rw[ah];have:v.k≠w.k:=by simpa using g
   unfold aK;repeat' split
   all_goals omega
  rw[e];exact ZA X Z old F Y v.k v.m w.k w.m _ v.s w.s a g
theorem Ws(d:Option (Nat×Nat))(a c1:Nat)(f:Option (Nat×Nat))(b c2:Nat)(z:a<=4611686018427387000):∀(r1 r2:List PV) (i:Nat),(∀v∈r1,v.s.length<=4611686018427387000)->Suf old d i r1->Suf old f i r2->a=i+r1.length->b=i+r2.length->jD prog (E.wo old) (tpF d f a c1 b c2 (↑i:Int)) (zI (lX r1 r2))
 |[],r2,i,j,q,r,h1,c=>by
  have A1:=tp3 X Z old F Y d f a c1 b c2 i (aH (by simp at h1;omega));have e:aK (a:Int) (b:Int)=lX [] r2:=by
   simp at h1;cases r2 with
   |nil=>exact Ud (by simp at c;omega)
   |cons y r2=>exact Ub (by simp at c;omega)
  rw[e]at A1;exact jD.it A1 (by kernel_rfl) rfl
 |x::r1,[],i,j,q,r,h1,c=>by
  simp at h1 c;have A1:=tp4 X Z old F Y d f a c1 b c2 i (aB (by omega)) (aH (by omega));have e:aK (a:Int) (b:Int)=lX (x::r1) []:=by
   show _=(1:Int);unfold aK;rw[ah (by omega),aC (by omega)]
  rw[e]at A1;exact jD.it A1 (by kernel_rfl) rfl
 |x::r1,y::r2,i,j,q,r,h1,c=>by
  obtain⟨l,n,rfl,A,t1⟩:=q.next
  obtain⟨o,p,rfl,B,t2⟩:=r.next
  simp at h1 c;have t:∀h,loadT (E.wo old) h 101 (OLD+l) (n+((i:Nat):Int).toNat*3)=some (.agg [zI x.k,zI x.m,.str x.s]):=λh=>by rw[bZ];exact wO A h
  have u:∀h,loadT (E.wo old) h 101 (OLD+o) (p+((i:Nat):Int).toNat*3)=some (.agg [zI y.k,zI y.m,.str y.s]):=λh=>by rw[bZ];exact wO B h
  have w:∀h:AH,Nat.ble h.nx OLD=true->h.df=0->DC old 249 [.agg [zI x.k,zI x.m,.str x.s],.agg [zI y.k,zI y.m,.str y.s]] h (zI (vG x y)) h:=λh C D=>DoesC.ov (ah6 X Z old F Y x y (j x (dA ..))) rfl rfl D C;show jD _ _ _ (zI (dV (vG x y) (lX r1 r2)));cases g:(vG x y !=0)
  .have e:dV (vG x y) (lX r1 r2)=lX r1 r2:=by unfold dV;rw[aC (by simpa using g)]
   rw[e];have A1:=tp1 X Z old F Y l n a c1 o p b c2 i (vG x y) x.k x.m y.k y.m x.s y.s (by omega) (by omega) (by omega) t u w (aB (by omega)) (aB (by omega)) g;rw[Ec (by omega)]at A1;exact jD.of A1 (Ws (some (l,n)) a c1 (some (o,p)) b c2 z r1 r2 (i+1) (λv G=>j v (aY _ G)) t1 t2 (by omega) (by omega))
  .have e:dV (vG x y) (lX r1 r2)=vG x y:=by unfold dV;rw[ah (by simpa using g)]
   rw[e];have A1:=tp2 X Z old F Y l n a c1 o p b c2 i (vG x y) x.k x.m y.k y.m x.s y.s (by omega) (by omega) (by omega) t u w (aB (by omega)) (aB (by omega)) g;exact jD.it A1 (by kernel_rfl) rfl
theorem c124{w:AV}{l m:List PV}(e:iJ old v l)(f:iJ old w m)(g:l.length<=4611686018427387000)(h:∀v∈l,v.s.length<=4611686018427387000):DC old 168 [v,w] eH (zI (lX l m)) eH:=by
 obtain⟨a,c,rfl,i⟩:=e.suf;obtain⟨b,d,rfl,j⟩:=f.suf;exact DoesC.Zh Y (by kernel_rfl) (jD.of (tp0 X Z old F Y a b l.length c m.length d) (Ws X Z old F Y a l.length c b m.length d g l m 0 h i j (by omega) (by omega))) rfl rfl
theorem c73{w:AV}{l m:List PV}(k:iJ old v l)(n:iJ old w m)(q:l.length<=4611686018427387000)(r:∀v∈l,v.s.length<=4611686018427387000)(hr:r1.length<=4611686018427387000):DC old 111 [.agg [.str r1,v],.agg [.str r2,w]] eH (zI (Jh r1 l r2 m)) eH:=by
 obtain⟨a,f,c,rfl⟩:=k.shape;obtain⟨b,i,d,rfl⟩:=n.shape;have o:∀h:AH,Nat.ble h.nx OLD=true->h.df=0->DC old 167 [.str r1,.str r2] h (zI (jT r1 r2)) h:=λh h1 j=>DoesC.ov (ag0 X Z old F Y r1 r2 hr) rfl rfl j h1;have p:∀h:AH,Nat.ble h.nx OLD=true->h.df=0->DC old 168 [.aO a f c,.aO b i d] h (zI (lX l m)) h:=λh h1 j=>DoesC.ov (c124 X Z old F Y k n q r) rfl rfl j h1;unfold Jh;cases g:(jT r1 r2 !=0)
 .have e:dV (jT r1 r2) (lX l m)=lX l m:=by unfold dV;rw[aC (by simpa using g)]
  rw[e];exact ab1 X Z old F Y r1 r2 a b f c i d _ _ o p g
 .have e:dV (jT r1 r2) (lX l m)=jT r1 r2:=by unfold dV;rw[ah (by simpa using g)]
  rw[e];exact ab2 X Z old F Y r1 r2 a b f c i d _ _ o p g
end
end
section
variable{id:Nat}{y:LN}
def FD:List Int->List Int->Int
 |x::r,y::s=>if x<y then -1 else if y<x then 1 else FD r s
 |_,_=>0
def tq(x:LN):List Int:=x.rule::(↑x.kids.length:Int)::x.kids
def He(x y:LN):Int:=dV (Jh x.rel x.args y.rel y.args) (FD (tq x) (tq y))
theorem Xq:∀{l m:List Int},l.length=m.length->FD l m=0->l=m
 |[],[],_,_=>rfl
 |x::r,y::s,h,e=>by
  unfold FD at e;split at e
  .omega
  .split at e
   .omega
   .rw[Xq (by simpa using h) e,show x=y by omega]
structure CL(E:Env)(f:Int->AF)(h:AH)(X Y:List Int):Prop where
 fin:∀i:Int,decide (i<(↑X.length:Int))=false->Does prog E (f i) h (zI 0) h
 fi2:∀i:Int,decide (i<(↑X.length:Int))=true->decide (i<(↑Y.length:Int))=false->Does prog E (f i) h (zI 0) h
 lt:∀(x:Nat) u v,X[x]? =some u->Y[x]? =some v->u<v->Does prog E (f ↑x) h (zI (-1)) h
 gt:∀(x:Nat) u v,X[x]? =some u->Y[x]? =some v->v<u->Does prog E (f ↑x) h (zI 1) h
 eq:∀(x:Nat) u v,X[x]? =some u->Y[x]? =some v->u=v->DoesS prog E (f ↑x) h (f (IntKind.i64.wrap (↑x+1))) h
theorem CL.run{E:Env}{f:Int->AF}{h:AH}{X Y:List Int}(C:CL E f h X Y)(i:X.length<=4611686018427387000):∀(r x:Nat),x+r=X.length->Does prog E (f ↑x) h (zI (FD (X.drop x) (Y.drop x))) h
 |0,x,j=>by
  rw[List.drop_of_length_le (by omega)];have e:FD [] (Y.drop x)=0:=by unfold FD;rfl
  rw[e];exact C.fin x (aH (by omega))
 |r+1,x,j=>by
  have a:x<X.length:=by omega
  have b:X[x]? =some X[x]:=aI a;have d:=bn a;by_cases g:x<Y.length
  .have c:Y[x]? =some Y[x]:=aI g
   have k:=bn g;rw[d,k];unfold FD;split
   .exact C.lt x _ _ b c (by assumption)
   .split
    .exact C.gt x _ _ b c (by assumption)
    .have A:=C.eq x _ _ b c (by omega)
     rw[Ec (by omega)]at A;exact Does.of A (C.run i r (x+1) (by omega))
  .have e:FD (X.drop x) (Y.drop x)=0:=by
    rw[List.drop_of_length_le (l:=Y) (by omega),d];unfold FD;rfl
   rw[e];exact C.fi2 x (aB (by omega)) (aH (by omega))
theorem lH{old:Old}(a:Nat.ble OLD id=false){X:List Int}{g:Bool}{x:Nat}{u:Int}(b:X[x]? =some u)(h:AH)(c:h.obj id= .cells (X.map zI) 3 g false):loadT (E.wo old) h 3 id (x*1)=some (zI u):=
 mV (E:=E.wo old) (by kernel_rfl) a c (by rw[bJ,fP,b];rfl)
theorem Xi{old:Old}{k:AV}{l:List Int}(h:xQ old k l.length 1 (l.map zI)):(∃d dd,k= .aO d 0 dd∧l=[])∨(∃b o c,k= .aO (some (b,o)) l.length c∧0<l.length∧iI old b o l.length=some (l.map zI)):=by
 rcases h with⟨b,o,c,rfl,h⟩|⟨rfl,h0,_⟩
 .cases l with
  |nil=>exact .inl ⟨_,_,rfl,rfl⟩
  |cons a r=>exact .inr ⟨b,o,c,rfl,Nat.succ_pos _,by rw[bJ]at h;exact h⟩
 .have h1:=bM.1 h0
  subst h1;exact .inl ⟨_,_,rfl,rfl⟩
section
variable(U:Fe)(W:Ge)(Z:Old)(F:Fw Z)(V:Gw Z)
include U W F V
theorem agL(r1 r2:List UInt8)(u1 u2:Int)(c d:Option (Nat×Nat))(e c1 f c2:Nat)(g e1 a h:Nat)(j e2 b k:Nat)(X Y:List Int)(ca l:Option Nat):
 CL (E.wo Z) (λi=>(lM (.sl 5 0 Y.length l) (zI i) (.sl 3 0 X.length ca)))
  (AY (.cells (X.map zI) 3 true false) (qU r2 d f c2 u2 j e2 b k) (.cells (Y.map zI) 3 true false) (qU r1 c e c1 u1 g e1 a h) (adx u2 b) (adx u1 a)) X Y where
 fin i o:=agG U W Z F V r1 r2 u1 u2 c d e c1 f c2 g e1 a h j e2 b k _ _ _ _ ca l i o
 fi2 i o o':=agC U W Z F V r1 r2 u1 u2 c d e c1 f c2 g e1 a h j e2 b k _ _ _ _ ca l i o o'
 lt x u v hu hv o:=by
  have p:=(aA.1 hu).1;have q:=(aA.1 hv).1;exact agX U W Z F V r1 r2 u1 u2 c d e c1 f c2 g e1 a h j e2 b k _ _ _ _ ca l x x rfl p q u v (lH (by decide) hu) (lH (by decide) hv) (aB (by omega)) (aB (by omega)) (aB o)
 gt x u v hu hv o:=by
  have p:=(aA.1 hu).1;have q:=(aA.1 hv).1;exact agT U W Z F V r1 r2 u1 u2 c d e c1 f c2 g e1 a h j e2 b k _ _ _ _ ca l x x rfl p q u v (lH (by decide) hu) (lH (by decide) hv) (aB (by omega)) (aB (by omega)) (aH (by omega)) (aB o)
 eq x u v hu hv o:=by
  have p:=(aA.1 hu).1;have q:=(aA.1 hv).1;exact agP U W Z F V r1 r2 u1 u2 c d e c1 f c2 g e1 a h j e2 b k _ _ _ _ ca l x x rfl p q u v (lH (by decide) hu) (lH (by decide) hv) (aB (by omega)) (aB (by omega)) (aH (by omega)) (aH (by omega))
theorem agK(r1 r2:List UInt8)(u1 u2:Int)(b c:Option (Nat×Nat))(d c1 e c2:Nat)(f e1 a g:Nat)(h:Option (Nat×Nat))(j:Nat)(X Y:List Int)(ca k:Option Nat):
 CL (E.wo Z) (λi=>(lM (.sl 4 0 Y.length k) (zI i) (.sl 3 0 X.length ca)))
  (xG (.cells (X.map zI) 3 true false) (qR r2 c e c2 u2 h j) (qU r1 b d c1 u1 f e1 a g) (.cells (Y.map zI) 3 false false) (adx u1 a)) X Y where
 fin i o:=agF U W Z F V r1 r2 u1 u2 b c d c1 e c2 f e1 a g h j _ _ _ _ ca k i o
 fi2 i o o':=agB U W Z F V r1 r2 u1 u2 b c d c1 e c2 f e1 a g h j _ _ _ _ ca k i o o'
 lt x u v hu hv o:=by
  have p:=(aA.1 hu).1;have q:=(aA.1 hv).1;exact agW U W Z F V r1 r2 u1 u2 b c d c1 e c2 f e1 a g h j _ _ _ _ ca k x x rfl p q u v (lH (by decide) hu) (lH (by decide) hv) (aB (by omega)) (aB (by omega)) (aB o)
 gt x u v hu hv o:=by
  have p:=(aA.1 hu).1;have q:=(aA.1 hv).1;exact agS U W Z F V r1 r2 u1 u2 b c d c1 e c2 f e1 a g h j _ _ _ _ ca k x x rfl p q u v (lH (by decide) hu) (lH (by decide) hv) (aB (by omega)) (aB (by omega)) (aH (by omega)) (aB o)
 eq x u v hu hv o:=by
  have p:=(aA.1 hu).1;have q:=(aA.1 hv).1;exact agO U W Z F V r1 r2 u1 u2 b c d c1 e c2 f e1 a g h j _ _ _ _ ca k x x rfl p q u v (lH (by decide) hu) (lH (by decide) hv) (aB (by omega)) (aB (by omega)) (aH (by omega)) (aH (by omega))
theorem agJ(r1 r2:List UInt8)(u1 u2:Int)(b c:Option (Nat×Nat))(d c1 e c2:Nat)(k1:Option (Nat×Nat))(f:Nat)(g e2 a h:Nat)(X Y:List Int)(ca j:Option Nat):
 CL (E.wo Z) (λi=>(lM (.sl 4 0 Y.length j) (zI i) (.sl 2 0 X.length ca)))
  (xG (adx u2 a) (qU r2 c e c2 u2 g e2 a h) (qR r1 b d c1 u1 k1 f) (.cells (Y.map zI) 3 true false) (.cells (X.map zI) 3 false false)) X Y where
 fin i o:=agE U W Z F V r1 r2 u1 u2 b c d c1 e c2 k1 f g e2 a h _ _ _ _ ca j i o
 fi2 i o o':=agA U W Z F V r1 r2 u1 u2 b c d c1 e c2 k1 f g e2 a h _ _ _ _ ca j i o o'
 lt x u v hu hv o:=by
  have p:=(aA.1 hu).1;have q:=(aA.1 hv).1;exact agV U W Z F V r1 r2 u1 u2 b c d c1 e c2 k1 f g e2 a h _ _ _ _ ca j x x rfl p q u v (lH (by decide) hu) (lH (by decide) hv) (aB (by omega)) (aB (by omega)) (aB o)
 gt x u v hu hv o:=by
  have p:=(aA.1 hu).1;have q:=(aA.1 hv).1;exact agR U W Z F V r1 r2 u1 u2 b c d c1 e c2 k1 f g e2 a h _ _ _ _ ca j x x rfl p q u v (lH (by decide) hu) (lH (by decide) hv) (aB (by omega)) (aB (by omega)) (aH (by omega)) (aB o)
 eq x u v hu hv o:=by
  have p:=(aA.1 hu).1;have q:=(aA.1 hv).1;exact agN U W Z F V r1 r2 u1 u2 b c d c1 e c2 k1 f g e2 a h _ _ _ _ ca j x x rfl p q u v (lH (by decide) hu) (lH (by decide) hv) (aB (by omega)) (aB (by omega)) (aH (by omega)) (aH (by omega))
theorem agI(r1 r2:List UInt8)(u1 u2:Int)(a b:Option (Nat×Nat))(c c1 d c2:Nat)(k1:Option (Nat×Nat))(e:Nat)(f:Option (Nat×Nat))(g:Nat)(X Y:List Int)(ca h:Option Nat):
 CL (E.wo Z) (λi=>(lM (.sl 3 0 Y.length h) (zI i) (.sl 2 0 X.length ca)))
  (lD (.cells (Y.map zI) 3 false false) (qR r2 b d c2 u2 f g) (qR r1 a c c1 u1 k1 e) (.cells (X.map zI) 3 false false)) X Y where
 fin i o:=agD U W Z F V r1 r2 u1 u2 a b c c1 d c2 k1 e f g _ _ _ _ ca h i o
 fi2 i o o':=agz U W Z F V r1 r2 u1 u2 a b c c1 d c2 k1 e f g _ _ _ _ ca h i o o'
 lt x u v hu hv o:=by
  have p:=(aA.1 hu).1;have q:=(aA.1 hv).1;exact agU U W Z F V r1 r2 u1 u2 a b c c1 d c2 k1 e f g _ _ _ _ ca h x x rfl p q u v (lH (by decide) hu) (lH (by decide) hv) (aB (by omega)) (aB (by omega)) (aB o)
 gt x u v hu hv o:=by
  have p:=(aA.1 hu).1;have q:=(aA.1 hv).1;exact agQ U W Z F V r1 r2 u1 u2 a b c c1 d c2 k1 e f g _ _ _ _ ca h x x rfl p q u v (lH (by decide) hu) (lH (by decide) hv) (aB (by omega)) (aB (by omega)) (aH (by omega)) (aB o)
 eq x u v hu hv o:=by
  have p:=(aA.1 hu).1;have q:=(aA.1 hv).1;exact agM U W Z F V r1 r2 u1 u2 a b c c1 d c2 k1 e f g _ _ _ _ ca h x x rfl p q u v (lH (by decide) hu) (lH (by decide) hv) (aB (by omega)) (aB (by omega)) (aH (by omega)) (aH (by omega))
theorem c60{c d:List AV}{x:LN}(R:vg Z c x)(S:vg Z d y)(h1:x.args.length<=268435456)(T:∀v∈x.args,v.s.length<=4611686018427387000)(X:x.rel.length<=4611686018427387000)(J:x.kids.length<=134217728)(K:y.kids.length<=134217728):DC Z 60 [.agg c,.agg d] eH (zI (He x y)) eH:=by
 obtain⟨a,k,rfl,H,L⟩:=R;obtain⟨b,j,rfl,I,M⟩:=S;have C:=c73 U W Z F V (r1:=x.rel) (r2:=y.rel) H I (by omega) T X;have Y:AV.fG 0 [AV.agg [.str x.rel,a],AV.agg [.str y.rel,b]]=true:=by
  show((true&&(AV.low 0 a&&true))&&((true&&(AV.low 0 b&&true))&&true))=true;rw[pR H,pR I];rfl
 have u:∀h:AH,Nat.ble h.nx OLD=true->h.df=0->DC Z 111 [.agg [.str x.rel,a],.agg [.str y.rel,b]] h (zI (Jh x.rel x.args y.rel y.args)) h:=λh hn hd=>DoesC.ov C Y rfl hd hn;obtain⟨i,m,n,rfl⟩:=H.shape;obtain⟨l,o,p,rfl⟩:=I.shape;by_cases q:Jh x.rel x.args y.rel y.args=0
 .have e:He x y=FD (tq x) (tq y):=by unfold He dV;rw[aC q]
  rw[e];have N:(tq x).length=2+x.kids.length:=by unfold tq;simp only[fB];omega
  have O:(tq y).length=2+y.kids.length:=by unfold tq;simp only[fB];omega
  have G:=λ(fr:Int->AF) (h:AH) (C:CL (E.wo Z) fr h (tq x) (tq y))=>CL.run (E:=E.wo Z) C (by omega) (tq x).length 0 (by omega);rcases Xi L with⟨k1,f,rfl,w⟩|⟨r,e1,f,rfl,w,P⟩<;>rcases Xi M with⟨t,g,rfl,z⟩|⟨g2,e2,g,rfl,z,Q⟩
  .have A:=ahV U W Z F V x.rel y.rel x.rule y.rule i l m n o p k1 f t g _ u (rM q)
   have B:=G _ _ (agI U W Z F V x.rel y.rel x.rule y.rule i l m n o p k1 f t g (tq x) (tq y) (some 2) (some 2));rw[show(tq x)=[x.rule,0]by unfold tq;rw[w];rfl,show(tq y)=[y.rule,0]by unfold tq;rw[z];rfl]at B ⊢;exact DoesC.Zh V (by kernel_rfl) ⟨_,Does.of A B,(by decide:4<=OLD),rfl⟩ rfl rfl
  .have A:=ahW U W Z F V x.rel y.rel x.rule y.rule i l m n o p k1 f g2 e2 y.kids.length g _ z K Q _ u (rM q)
   have B:=G _ _ (agJ U W Z F V x.rel y.rel x.rule y.rule i l m n o p k1 f g2 e2 y.kids.length g (tq x) (tq y) (some 2) none);rw[O]at B;rw[show(tq x)=[x.rule,0]by unfold tq;rw[w];rfl]at B ⊢;exact DoesC.Zh V (by kernel_rfl) ⟨_,Does.of A B,(by decide:5<=OLD),rfl⟩ rfl rfl
  .have A:=ahY U W Z F V x.rel y.rel x.rule y.rule i l m n o p r e1 x.kids.length f _ w J P t g _ u (rM q)
   have B:=G _ _ (agK U W Z F V x.rel y.rel x.rule y.rule i l m n o p r e1 x.kids.length f t g (tq x) (tq y) none (some 2));rw[N]at B;rw[show(tq y)=[y.rule,0]by unfold tq;rw[z];rfl]at B ⊢;exact DoesC.Zh V (by kernel_rfl) ⟨_,Does.of A B,(by decide:5<=OLD),rfl⟩ rfl rfl
  .have A:=ahZ U W Z F V x.rel y.rel x.rule y.rule i l m n o p r e1 x.kids.length f _ w J P g2 e2 y.kids.length g _ z K Q _ u (rM q)
   have B:=G _ _ (agL U W Z F V x.rel y.rel x.rule y.rule i l m n o p r e1 x.kids.length f g2 e2 y.kids.length g (tq x) (tq y) none none);rw[N,O]at B;exact DoesC.Zh V (by kernel_rfl) ⟨_,Does.of A B,(by decide:6<=OLD),rfl⟩ rfl rfl
 .have e:He x y=Jh x.rel x.args y.rel y.args:=by unfold He dV;rw[ah q]
  rw[e];obtain⟨k1,D,f,rfl⟩:∃k1 D f,k= .aO k1 D f:=by
   rcases Xi L with⟨k1,f,h,_⟩|⟨r,e1,f,h,_⟩<;>exact⟨_,_,_,h⟩
  obtain⟨t,j2,g,rfl⟩:∃k1 D f,j= .aO k1 D f:=by
   rcases Xi M with⟨k1,f,h,_⟩|⟨r,e1,f,h,_⟩<;>exact⟨_,_,_,h⟩
  exact DoesC.Zh V (by kernel_rfl) ⟨_,cmx U W Z F V x.rel y.rel x.rule y.rule i l _ _ _ _ k1 t D f j2 g _ u (BX q),(by decide:2<=OLD),rfl⟩ rfl rfl
end
end
section
variable{id:Nat}{σ:List Nat}
theorem aas{i j:Nat}(h:i+j<=4611686018427387000):IntKind.i64.wrap ((IntKind.i64.wrap ((↑i:Int)+↑j)).tdiv 2)=(↑((i+j) / 2):Int):=by
 have h1:IntKind.i64.wrap ((↑i:Int)+↑j)=(↑(i+j):Int):=by rw[lT (by omega) (by omega)];omega
 have e:(↑(i+j):Int).tdiv 2=(↑((i+j) / 2):Int):=rfl;rw[h1,e,lT (by omega) (by omega)]
theorem xR.tk{old:Old}:∀{cs:List AV} {L:List LN},xR old cs L->∀{q:Nat} {x:LN},L[q]? =some x->∃c,takeN cs (q*4) 4=some c∧vg old c x
 |_,_,.cons (a:=a) (k:=k) (cs:=cs) (r:=r) b d h,0,x,e=>by
  cases e;exact⟨_,rfl,a,k,rfl,b,d⟩
 |_,_,.cons (a:=a) (k:=k) (cs:=cs) (r:=r) b d h,q+1,x,e=>by
  obtain⟨c,h1,f⟩:=xR.tk h (show _=some x from e);refine⟨c,?_,f⟩;rw[← h1];unfold takeN;rw[show(q+1)*4=q*4+4 by omega];simp only[List.drop_succ_cons]
theorem xR.af5{old:Old}:∀{cs:List AV} {L:List LN},xR old cs L->cs.length=L.length*4
 |_,_,.nil=>rfl
 |_,_,.cons (l:=l) _ _ h=>by
  have:=xR.af5 h;simp only[fB];omega
theorem xR.snoc{old:Old}{c:List AV}{y:LN}(b:vg old c y):∀{cs:List AV} {L:List LN},xR old cs L->xR old (cs++c) (L++[y])
 |_,_,.nil=>by
  obtain⟨a,k,rfl,h1,d⟩:=b;exact .cons h1 d .nil
 |_,_,.cons e f h=> .cons e f (xR.snoc b h)
theorem O5{x w:Nat}(h:σ[x]? =some w){old:Old}(a:Nat.ble OLD id=false)(g:Bool)(h':AH)(b:h'.obj id= .cells (nums σ) 3 g false):loadT (E.wo old) h' 3 id (x*1)=some (zI ↑w):=
 mV (E:=E.wo old) (by kernel_rfl) a b (by unfold nums;rw[bJ,fP,h];rfl)
theorem RG(σ:List Nat)(y w:Nat):setAt (nums σ) y [zI ↑w]=nums (σ.set y w):=by
 show(nums σ).set y (zI ↑w)=_;unfold nums;rw[List.map_set]
noncomputable def ptL(i j:Int):AF:=(XT i j)
noncomputable def ptH(n:Nat)(c a b:List AV):AH:=(lD (.cells c 65 false false) (AZ a) (P8 n) (rC b))
noncomputable def ptM(n:Nat)(i j:Int):AF:=(Us (zI (↑n:Int)) (zI i) (.ptr 0 0) (zI j))
noncomputable def ptG(n:Nat)(c C5 a:List AV):AH:=(adv (rC a) (.cells c 65 false false) (AZ C5) (ahf n) (.cells c 65 false false) (VW n))
section
variable(W:Fe)(Y:Ge)(Z:Old)(F:Fw Z)(X:Gw Z)
include W Y F X
theorem Kq{L:List LN}{e c:List AV}{σ:List Nat}{y:LN}{n:Nat}(D:xR Z e L)(l:L.length=n)(m:σ.length=n)(a:∀k∈σ,k<n)(N:n<=134217000)(o:vg Z c y)(f:∀x∈L,He x y≠0)
 (b:∀x∈L,x.args.length<=268435456∧(∀v∈x.args,v.s.length<=4611686018427387000)∧x.rel.length<=4611686018427387000∧x.kids.length<=134217728)(g:y.kids.length<=134217728):
 ∀(d i j:Nat),j - i<=d->i<=j->j<=n->∃k k':Nat,k<=n∧k'<=k∧DS Z (ptL i j) (ptH n c e (nums σ)) (ptL k k') (ptH n c e (nums σ))
 |d,i,j,u,h1,h2=>by
  by_cases hij:i<j
  .cases d with
   |zero=>omega
   |succ d=>
   have O:(i+j) / 2<n:=by omega
   obtain⟨w,G⟩:∃w,σ[(i+j) / 2]? =some w:=⟨_,aI (by omega)⟩;have p:=a w (bP G);obtain⟨x,q⟩:∃x,L[w]? =some x:=⟨_,aI (by omega)⟩;have r:x∈L:=bP q;obtain⟨z,P,g2⟩:=D.tk q;obtain⟨l1,l2,l3,l4⟩:=b x r;have C:=c60 W Y Z F X g2 o l1 l2 l3 l4 g;have Q:AV.fG 0 [AV.agg z,AV.agg c]=true:=by
    show(AV.fG 0 z&&(AV.fG 0 c&&true))=true;rw[g2.low,o.low];rfl
   have R:=f x r;obtain⟨S,T,U,k1,V,k3,rfl⟩:=o.shape;have B:=aas (i:=i) (j:=j) (by omega);have lo:=@Kq L e _ σ y n D l m a N o f b g d ((i+j) / 2+1) j (by omega) (by omega) h2;have hi:=@Kq L e _ σ y n D l m a N o f b g d i ((i+j) / 2) (by omega) (by omega) (by omega);by_cases t:He x y<0
   .obtain⟨k,k',H,I,J⟩:=lo
    refine⟨k,k',H,I,DoesS.trans ?_ J⟩;have A:=pt1 W Y Z F X y.rel S T U y.rule k1 V k3 n e (nums σ) i j _ w B O ↑w rfl p (O5 G (by decide) true) z (λh K=>JA (E:=E.wo Z) (by kernel_rfl) (by kernel_rfl) (by decide) K P) (He x y) (λh M u=>DoesC.ov C Q rfl u M) (aB (by omega)) (by simpa using R) (aB t);rw[B,Ec (by omega)]at A;exact A
   .obtain⟨k,k',H,I,J⟩:=hi
    refine⟨k,k',H,I,DoesS.trans ?_ J⟩;have A:=pt2 W Y Z F X y.rel S T U y.rule k1 V k3 n e (nums σ) i j _ w B O ↑w rfl p (O5 G (by decide) true) z (λh K=>JA (E:=E.wo Z) (by kernel_rfl) (by kernel_rfl) (by decide) K P) (He x y) (λh M u=>DoesC.ov C Q rfl u M) (aB (by omega)) (by simpa using R) (aH t);rw[B]at A;exact A
  .exact⟨i,j,by omega,by omega,DoesS.refl _ _⟩
end
end
section
variable{CS:List AV}{L:List LN}{n:Nat}{y:LN}{σ:List Nat}
noncomputable def aht(n:Nat)(a b:List AV):AH:=(dJ (AZ a) (P8 n) (rC b))
section
variable(W:Fe)(Y:Ge)(Z:Old)(F:Fw Z)(X:Gw Z)
include W Y F X
theorem Nl{c C5:List AV}{y:LN}{n k:Nat}(r:vg Z c y)(x:n<=134217000)(z:k<=n):
 ∀(d:Nat) (S:List Nat),k+d<=n->S.length=n+1->(∀q∈S,q<n+1)->∃b:List Nat,b.length=n+1∧(∀q∈b,q<n+1)∧DR Z (ptM n k ↑(k+d)) (ptG n c C5 (nums S)) (zI n) (ptG n c C5 (nums b))
 |0,S,B,s,p=>by
  obtain⟨f,i,j,k1,m,o,rfl⟩:=r.shape;have a:=fK (h:=ptG n [.str y.rel,.aO f i j,zI y.rule,.aO k1 m o] C5 (nums S)) (id:=7) (off:=k*1) (l:=nums S) (vs:=[zI (↑n:Int)]) (e:=3) (g:=true) rfl (by rw[kZ];show k*1+1<=_;omega) rfl;rw[bJ,RG]at a;refine⟨S.set k n,by rw[iT];exact s,λq t=>?_,?_⟩
  .rcases List.mem_or_eq_of_mem_set t with h|h
   .exact p q h
   .omega
  .exact pt5 W Y Z F X y.rel f i j y.rule k1 m o n C5 (nums S) k k (nums (S.set k n)) k rfl (by omega) (by rw[bJ];exact a) (aH (by omega))
 |d+1,S,B,s,p=>by
  have u:=r;obtain⟨f,i,j,k1,m,o,rfl⟩:=r.shape;obtain⟨w,v⟩:∃w,S[k+d]? =some w:=⟨_,aI (by omega)⟩;have C:=p w (bP v);have a:=fK (h:=ptG n [.str y.rel,.aO f i j,zI y.rule,.aO k1 m o] C5 (nums S)) (id:=7) (off:=(k+(d+1))*1) (l:=nums S) (vs:=[zI (↑w:Int)]) (e:=3) (g:=true) rfl (by rw[kZ];show(k+(d+1))*1+1<=_;omega) rfl;rw[bJ,RG]at a;have hj:IntKind.i64.wrap ((↑(k+(d+1)):Int) - 1)=(↑(k+d):Int):=by rw[lT (by omega) (by omega)];omega
  have A:=pt4 W Y Z F X y.rel f i j y.rule k1 m o n C5 (nums S) k ↑(k+(d+1)) (nums (S.set (k+(d+1)) w)) (k+d) (k+(d+1)) hj (by omega) rfl (by omega) ↑w (O5 v (by decide) true) (by rw[bJ];exact a) (aB (by omega));rw[hj]at A;obtain⟨b,D,E,G⟩:=Nl u x z d (S.set (k+(d+1)) w) (by omega) (by rw[iT];exact s) (λq t=>by
   rcases List.mem_or_eq_of_mem_set t with h|h
   .exact p q h
   .omega)
  exact⟨b,D,E,Does.of A G⟩
theorem aco{c:List AV}(u:xR Z CS L)(m:L.length=n)(o:σ.length=n)(i:∀k∈σ,k<n)(w:n<=134217000)(p:vg Z c y)(r:∀x∈L,He x y≠0)
 (j:∀x∈L,x.args.length<=268435456∧(∀v∈x.args,v.s.length<=4611686018427387000)∧x.rel.length<=4611686018427387000∧x.kids.length<=134217728)(t:y.kids.length<=134217728):
 ∃l:List Nat,l.length=n+1∧(∀q∈l,q<n+1)∧DR Z (ent (E.wo Z) 30 [.ptr 0 0,.agg c]) (aht n CS (nums σ)) (zI n) (ptG n c (CS++c) (nums l)):=by
 obtain⟨k,k',h1,M,B⟩:=Kq W Y Z F X u m o i w p r j t n 0 n (by omega) (by omega) (by omega);obtain⟨l,H,I,D⟩:=Nl W Y Z F X (C5:=CS++c) p w h1 (n - k) (σ++[n]) (by omega) (by simp;omega) (λq J=>by
  rcases bQ.1 J with h|h
  .have:=i q h;omega
  .have:=bY.1 h;omega)
 refine⟨l,H,I,?_⟩;rw[show k+(n - k)=n by omega]at D;have K:=u.af5;obtain⟨a,b,d,k1,f,g,rfl⟩:=p.shape;have A:=pt0 W Y Z F X y.rel a b d y.rule k1 f g n CS (nums σ);have z:=xC (E:=E.wo Z) (ts:=31) (tx:=31) (e:=65) (sz:=4) (h:=(xG (.cells [.str y.rel,.aO a b d,zI y.rule,.aO k1 f g] 65 false false) (AZ CS) (P8 n) (.cells [.str y.rel,.aO a b d,zI y.rule,.aO k1 f g] 65 false false) (.cells (nums σ) 3 true false))) (by kernel_rfl) (id:=1) (len:=n) (id2:=4) (off2:=0) (cc:=some 1) (vs:=CS) (cs:=[.str y.rel,.aO a b d,zI y.rule,.aO k1 f g]) rfl (by omega) (by omega) rfl rfl rfl;rw[show CS.take (n*4)=CS from eP (by omega)]at z;have G:=xC (E:=E.wo Z) (ts:=56) (tx:=56) (e:=3) (sz:=1) (h:=(Jj (.cells [.str y.rel,.aO a b d,zI y.rule,.aO k1 f g] 65 false false) .dead (.cells (CS++[.str y.rel,.aO a b d,zI y.rule,.aO k1 f g]) 65 true false) (ae5 n) (.cells [.str y.rel,.aO a b d,zI y.rule,.aO k1 f g] 65 false false) (.cells (nums σ) 3 true false) (VW n))) (by kernel_rfl) (id:=2) (len:=n) (id2:=6) (off2:=0) (cc:=some 1) (vs:=nums σ) (cs:=[zI (↑n:Int)]) rfl (by rw[kZ];omega) (by omega) rfl rfl rfl;rw[show(nums σ).take (n*1)=nums σ from eP (by rw[kZ];omega),show nums σ++[zI (↑n:Int)]=nums (σ++[n])by unfold nums;rw[oO];rfl]at G;have C:=pt3 W Y Z F X y.rel a b d y.rule k1 f g n CS (nums σ) k k' (CS++[.str y.rel,.aO a b d,zI y.rule,.aO k1 f g]) (nums (σ++[n])) z G (aH (by omega));rw[show IntKind.i64.wrap ((↑(n+1):Int) - 1)=(↑n:Int)by rw[lT (by omega) (by omega)];omega]at C;exact Does.of A (Does.of B (Does.of C D))
end
end
section
variable(Y:Fe)(Z:Ge)
include Y Z
section
variable(X:Old)(F:Fw X)(W:Gw X)
include X F W
theorem ul0(b o n k:Nat):DS X (ent (E.wo X) 11 [.aO (some (b,o)) n k]) ⟨.e,0,0⟩ (Oa (zP 0 0) (.aO (some (b,o)) n k) (zI 0)) abD:=
 qH F W [0,3,4] (Qn 17) (by kernel_rfl)
theorem uln:DR X (ent (E.wo X) 11 [.aO none 0 0]) ⟨.e,0,0⟩ (.bool true) abD:=
 prt F W (Qn 32) (by kernel_rfl)
theorem ul1(a:Nat)(b o n k:Nat)(i:Int)(c:(decide (i<(↑n:Int)))=false):DR X (Oa (.ptr a 0) (.aO (some (b,o)) n k) (zI i)) ⟨.e,0,0⟩ (.bool true) ⟨.e,0,0⟩:=
 prt F W (Qb 6 c (Qn 8)) (by kernel_rfl)
end
theorem ul2(old:Old)(F:Fw old)(FF:Gw old)(a:Nat)(b o n k:Nat)(i:Int)(x:Nat)(d:i=(↑x:Int))(f:x<n)(c:List AV)(g:∀h:AH,loadT (E.wo old) h 65 (OLD+b) (o+x*4)=some (.agg c))(j:(decide (i<(↑n:Int)))=true):AtCall prog (E.wo old) [.n 6,.v (.bool true),.n 10,.v (zP (1152921504606846976+b) (o+x*4)),.v (.agg c)] (Oa (.ptr a 0) (.aO (some (b,o)) n k) (zI i)) ⟨.e,0,0⟩ 30 [zP a 0,.agg c] ⟨.e,0,0⟩:=
 ⟨[some true=some true,some (AV.bool (decide (i<(↑n:Int))))=some (AV.bool true),some true=some true,aZ (E.wo old) 31 (nP (E.wo old) (.aO (some (b,o)) n k)) (zI i)=some (zP (1152921504606846976+b) (o+x*4)),some true=some true,loadT (E.wo old) ⟨.e,0,0⟩ 65 (1152921504606846976+b) (o+x*4)=some (.agg c)],by kernel_rfl,⟨rfl,gu (λz=>some (AV.bool z)) j,rfl,jB (e:=65) (by kernel_rfl) (by kernel_rfl) rfl d f,rfl,g _⟩⟩
theorem ul3(old:Old)(F:Fw old)(FF:Gw old)(a:Old)(d:Nat)(b o n k:Nat)(i:Int)(c:List AV)(z:Int)(w1 w2:Nat)(f:(z !=i)=false):DS old (lu prog (E.wo a) [.n 6,.v (.bool true),.n 10,.v (.ptr w1 w2),.v (.agg c)] (Oa (.ptr d 0) (.aO (some (b,o)) n k) (zI i)) ⟨.e,0,0⟩ (zI z)) ⟨.e,0,0⟩ (Oa (zP d 0) (.aO (some (b,o)) n k) (zI (IntKind.i64.wrap (i+1)))) ⟨.e,0,0⟩:=
 qH F FF [0,3,4] (Qb 6 f (Qn 10)) (by kernel_rfl)
end
section
variable{L:List LN}{N:Nat}{m:Mm}{y:LN}
def UnS(old:Old)(m:Mm)(a:Nat)(L:List LN)(N:Nat):Prop:=
 a<N∧((L=[]∧m a= .cells [.aQ,.aQ] 78 false false)∨
 (∃b c d σ,[a,b,c].Nodup∧b<N∧c<N∧m a= .cells [.sl b 0 L.length none,.sl c 0 L.length none] 78 false false∧m b= .cells d 65 true false∧xR old d L∧m c= .cells (nums σ) 3 true false∧σ.length=L.length∧∀q∈σ,q<L.length))
def Qg(L:List LN):Prop:=∀x∈L,x.args.length<=268435456∧(∀v∈x.args,v.s.length<=4611686018427387000)∧x.rel.length<=4611686018427387000∧x.kids.length<=134217728
section
variable(W:Fe)(Y:Ge)(X:∀old,Fw old)(Z:∀old,Gw old)
include W Y X Z
theorem Z5{old:Old}{d:Nat}{c:List AV}(h:UnS old m d L N)(Q:L.length<=134217000)(p:vg old c y)(J:∀x∈L,He x y≠0)(z:Qg L)(K:y.kids.length<=134217728)(hO:N+5<=OLD):
 CallM prog E old 30 [.ptr d 0,.agg c] m N (λA w R N'=>w=zI L.length∧N'=N+5∧UnS A R d (L++[y]) N'):=by
 refine CallM.of (Z old) (by obtain⟨f,g,j,k1,n,o,rfl⟩:=p.shape;kernel_rfl) ?_;obtain⟨S,⟨rfl,T⟩|⟨F,G,H,σ,B,h1,v,U,V,M,h6,h7,h8⟩⟩:=h
 .have s:=p
  have r:=p.low;obtain⟨f,g,j,k1,n,o,rfl⟩:=p.shape;obtain⟨θ,t⟩:=Pm.mk' (l:=[d]) (N:=N) (k:=5) [0,1,2,3,4,5] (by decide) rfl (by decide) (by simp) (by simp;omega) (by omega);obtain⟨t0,t1,t2,t3,t4,t5⟩:θ.to 0=d∧θ.to 1=N∧θ.to 2=N+1∧θ.to 3=N+2∧θ.to 4=N+3∧θ.to 5=N+4:=by
   have h:[θ.to 0,θ.to 1,θ.to 2,θ.to 3,θ.to 4,θ.to 5]=[d,N,N+1,N+2,N+3,N+4]:=t;simp only[dM,iM]at h;exact h
  have D:=ptz W Y old (X old) (Z old) y.rel f g j y.rule k1 n o;refine dL.uy (θ:=θ) (N':=N+5) (l:=[(d,.cells [.sl (N+2) 0 1 none,.sl (N+4) 0 1 none] 78 false false),(N+2,.cells [.str y.rel,.aO f g j,zI y.rule,.aO k1 n o] 65 true false),(N+4,.cells (nums [0]) 3 true false)])
   ⟨λe b=>?_,λe b=>?_,λe b u=>?_,λi h1 v=>?_,by omega,rfl,by omega,rfl,rfl⟩ D ⟨by kernel_rfl,by kernel_rfl,by kernel_rfl⟩ ?_ ⟨rfl,rfl,by omega,.inr ⟨N+2,N+4,[.str y.rel,.aO f g j,zI y.rule,.aO k1 n o],[0],?_,by omega,by omega,?_,?_,?_,?_,rfl,?_⟩⟩
  .have b:e∈[(0,AO.cells [.aQ,.aQ] 78 false false)]:=b
   simp only[ay,av,aU]at b;subst b;rw[t0,T];rfl
  .have b:e∈[(0,AO.cells [.aQ,.aQ] 78 false false)]:=b
   simp only[ay,av,aU]at b;subst b;rw[t0];simp
  .simp only[ay,av,aU]at b
   rcases b with rfl|rfl|rfl
   .refine⟨0,_,rfl,t0,?_⟩
    show AO.cells [.sl (θ.to 3) 0 1 none,.sl (θ.to 5) 0 1 none] 78 false false=_;rw[t3,t5]
   .exact⟨3,_,rfl,t3,rfl⟩
   .exact⟨5,_,rfl,t5,rfl⟩
  .have h1:1<=i:=h1
   have v:i<6:=v;rcases(by omega:i=1∨i=2∨i=3∨i=4∨i=5)with rfl|rfl|rfl|rfl|rfl
   .rw[t1];omega
   .rw[t2];omega
   .rw[t3];omega
   .rw[t4];omega
   .rw[t5];omega
  .rw[show(Ev.ent (E.wo old) 30 [.ptr 0 0,.agg [.str y.rel,.aO f g j,zI y.rule,.aO k1 n o]]).ren θ.to=Ev.ent (E.wo old) 30 [.ptr (θ.to 0) 0,.agg [.str y.rel,.aO f g j,zI y.rule,.aO k1 n o]]from by kernel_rfl,t0]
  .simp;omega
  .simp only[dn];rw[aC trivial];rfl
  .simp only[dn];rw[ah (by omega),aC trivial]
  .obtain⟨a,k,e,g1,g2⟩:=s
   rw[e];exact .cons g1 g2 .nil
  .simp only[dn];rw[ah (by omega),ah (by omega),aC trivial]
  .intro q O
   have:=bY.1 O;subst this;simp
 .obtain⟨I,q1,q2,D⟩:=aco W Y old (X old) (Z old) M rfl h7 h8 Q p J z K
  have s:=p;have r:=p.low;have C:=M.low;obtain⟨f,g,j,k1,n,o,rfl⟩:=p.shape;simp only[dK,ay,av,aU,not_or]at B;obtain⟨⟨d1,d2⟩,d3,_⟩:=B;obtain⟨θ,t⟩:=Pm.mk' (l:=[d,F,G]) (N:=N) (k:=5) [0,1,2,3,4,5,6,7] (by decide) rfl (by decide) (by simp;omega) (by simp;omega) (by omega);obtain⟨t0,t1,t2,t3,t4,t5,t6,P⟩:θ.to 0=d∧θ.to 1=F∧θ.to 2=G∧θ.to 3=N∧θ.to 4=N+1∧θ.to 5=N+2∧θ.to 6=N+3∧θ.to 7=N+4:=by
   have h:[θ.to 0,θ.to 1,θ.to 2,θ.to 3,θ.to 4,θ.to 5,θ.to 6,θ.to 7]=[d,F,G,N,N+1,N+2,N+3,N+4]:=t;simp only[dM,iM]at h;exact h
  have cn:AV.fG 0 (nums I)=true:=jP (uP I);have cs:AV.fG 0 (nums σ)=true:=jP (uP σ);refine dL.uy (θ:=θ) (N':=N+5) (l:=[(d,.cells [.sl (N+2) 0 (L.length+1) none,.sl (N+4) 0 (L.length+1) none] 78 false false),(F,.dead),(G,.dead),(N+2,.cells (H++[.str y.rel,.aO f g j,zI y.rule,.aO k1 n o]) 65 true false),(N+4,.cells (nums I) 3 true false)])
   ⟨λe b=>?_,λe b=>?_,λe b u=>?_,λi h1 v=>?_,by omega,rfl,by omega,rfl,rfl⟩ D ⟨by kernel_rfl,by kernel_rfl,by kernel_rfl⟩ ?_ ⟨rfl,rfl,by omega,.inr ⟨N+2,N+4,H++[.str y.rel,.aO f g j,zI y.rule,.aO k1 n o],I,?_,by omega,by omega,?_,?_,M.snoc s,?_,?_,?_⟩⟩
  .have b:e∈[(0,AO.cells [.sl 1 0 L.length none,.sl 2 0 L.length none] 78 false false),(1,.cells H 65 true false),(2,.cells (nums σ) 3 true false)]:=b
   simp only[ay,av,aU]at b;rcases b with rfl|rfl|rfl
   .rw[t0,U]
    show _=AO.cells [.sl (θ.to 1) 0 L.length none,.sl (θ.to 2) 0 L.length none] 78 false false;rw[t1,t2]
   .rw[t1,V,gW θ C]
   .rw[t2,h6,gW θ cs]
  .have b:e∈[(0,AO.cells [.sl 1 0 L.length none,.sl 2 0 L.length none] 78 false false),(1,.cells H 65 true false),(2,.cells (nums σ) 3 true false)]:=b
   simp only[ay,av,aU]at b;rcases b with rfl|rfl|rfl
   .rw[t0];simp
   .rw[t1];simp
   .rw[t2];simp
  .simp only[ay,av,aU]at b
   rcases b with rfl|rfl|rfl|rfl|rfl
   .refine⟨0,_,rfl,t0,?_⟩
    show AO.cells [.sl (θ.to 5) 0 (L.length+1) none,.sl (θ.to 7) 0 (L.length+1) none] 78 false false=_;rw[t5,P]
   .exact u.elim
   .exact u.elim
   .exact⟨5,_,rfl,t5,gW θ (pU C r) _ _ _⟩
   .exact⟨7,_,rfl,P,gW θ cn _ _ _⟩
  .have h1:3<=i:=h1
   have v:i<8:=v;rcases(by omega:i=3∨i=4∨i=5∨i=6∨i=7)with rfl|rfl|rfl|rfl|rfl
   .rw[t3];omega
   .rw[t4];omega
   .rw[t5];omega
   .rw[t6];omega
   .rw[P];omega
  .rw[show(Ev.ent (E.wo old) 30 [.ptr 0 0,.agg [.str y.rel,.aO f g j,zI y.rule,.aO k1 n o]]).ren θ.to=Ev.ent (E.wo old) 30 [.ptr (θ.to 0) 0,.agg [.str y.rel,.aO f g j,zI y.rule,.aO k1 n o]]from by kernel_rfl,t0]
  .simp;omega
  .simp only[dn];rw[aC trivial,bC];rfl
  .simp only[dn];rw[ah (by omega),ah (by omega),ah (by omega),aC trivial]
  .simp only[dn];rw[ah (by omega),ah (by omega),ah (by omega),ah (by omega),aC trivial]
  .rw[bC];exact q1
  .intro q O
   have:=q2 q O;rw[bC];exact this
end
end
section
variable{L:List LN}{v:AV}{y:LN}
theorem ND{a b:Int}{r s:List Int}(h:FD (a::r) (b::s)=0):a=b∧FD r s=0:=by
 unfold FD at h;split at h
 .omega
 .split at h
  .omega
  .exact⟨by omega,h⟩
theorem aci{x:LN}(h:He x y=0):x=y:=by
 obtain⟨h1,a⟩:=uM h;obtain⟨d,e⟩:=uM (show dV (jT x.rel y.rel) (lX x.args y.args)=0 from h1);unfold tq at a;obtain⟨b,f⟩:=ND a;obtain⟨g,c⟩:=ND f;cases x;cases y;have e1:=PX d;have e2:=TY e;simp only at e1 e2 b g c;rw[e1,e2,b,Xq (by omega) c]
section
variable(W:Fe)(Y:Ge)(X:∀old,Fw old)(Z:∀old,Gw old)
include W Y X Z
noncomputable def unF(a b o n k:Nat)(i:Int):AF:=(Oa (.ptr a 0) (.aO (some (b,o)) n k) (zI i))
theorem Wn{old:Old}{L:List LN}{t:List AV}{h b o k:Nat}(J:iI old b o (L.length*4)=some t)(K:xR old t L)(j:L.Nodup)(f:Qg L)(O:L.length<=134217000):
 ∀(r x N:Nat) (m:Mm) (a:Old),Old.le old a->x+r=L.length->UnS a m h (L.take x) N->N+5*r+5<=OLD->dL prog E a (unF h b o L.length k ↑x) m N (λ_ w _ _=>w= .bool true)
 |0,x,N,m,a,g,P,M,Q=>by
  exact dL.YC (θ:=Pm.one) (ul1 W Y a (X a) (Z a) h b o L.length k x (aH (by omega))) (λe l=>by cases l) (by omega) rfl rfl ⟨by kernel_rfl,by kernel_rfl,by kernel_rfl⟩ rfl rfl
 |r+1,x,N,m,a,g,P,M,Q=>by
  have n:x<L.length:=by omega
  obtain⟨y,u⟩:∃y,L[x]? =some y:=⟨_,aI n⟩;have B:y∈L:=bP u;have Qu:iI a b o (L.length*4)=some t:=nI g J;have D:xR a t L:=K.mono g;obtain⟨c,R,g2⟩:=D.ln Qu u;have F:(L.take x).length=x:=by rw[eG];omega
  have G:L.take (x+1)=L.take x++[y]:=by
   obtain⟨e1,e2⟩:=aA.1 u;rw[List.take_succ_eq_append_getElem e1,e2]
  have H:∀z∈L.take x,He z y≠0:=λz I h0=>by
   have e:=aci h0;subst e;rw[List.nodup_iff_pairwise_ne,List.pairwise_iff_getElem]at j;obtain⟨i,hi,e1⟩:=List.mem_take_iff_getElem.1 I;obtain⟨e2,S⟩:=aA.1 u;exact j i x (by omega) e2 (by omega) (by rw[e1,S])
  have C:=Z5 W Y X Z M (by omega) g2 H (λz I=>f z (List.mem_of_mem_take I)) (f y B).2.2.2 (by omega);have T:=g2.low;refine dL.Vs (θ:=Pm.one) (X a) (Z a) (ul2 W Y a (X a) (Z a) h b o L.length k x x rfl n c (qy (E:=E.wo a) (by kernel_rfl) (by kernel_rfl) R) (aB (by omega))) (λe l=>by cases l) (by omega) rfl rfl ⟨by kernel_rfl,by kernel_rfl,by kernel_rfl⟩ (λv=>⟨by kernel_rfl,by kernel_rfl,by kernel_rfl⟩) rfl (R1:=λp w U N'=>w=zI (L.take x).length∧N'=N+5∧UnS p U h (L.take x++[y]) N') ?_ ?_
  .rw[show AV.jM Pm.one.to [.ptr h 0,.agg c]=[.ptr h 0,.agg c]from AV.qw _]
   exact C
  .rintro d v m2 V q ⟨rfl,rfl,s⟩
   rw[F];have A:=ul3 W Y d (X d) (Z d) a h b o L.length k x c x (1152921504606846976+b) (o+x*4) (by simp);rw[Ec (by omega)]at A;rw[← G]at s;exact dL.Pn (θ:=Pm.one) A (λe l=>by cases l) (by omega) rfl rfl ⟨by kernel_rfl,by kernel_rfl,by kernel_rfl⟩ ⟨by kernel_rfl,by kernel_rfl,by kernel_rfl⟩ rfl rfl (Wn J K j f O r (x+1) (N+5) m2 d (Old.le_trans g q) (by omega) s (by omega))
theorem c11{old:Old}(h:UH old v L)(f:L.Nodup)(d:Qg L)(j:L.length<=134217000):DC old 11 [v] eH (.bool true) eH:=by
 obtain⟨cs,⟨b,o,c,rfl,k⟩|⟨rfl,_⟩,m⟩:=h
 .refine DoesC.ofM rfl rfl rfl rfl rfl rfl rfl ?_
  refine CallM.of (Z old) (by kernel_rfl) ?_;refine dL.lift (θ:=Pm.one) (N':=1) (l:=[(0,.cells [.aQ,.aQ] 78 false false)]) ⟨λe a=>(by cases a),λe a=>(by cases a),λe a n=>?_,λi h1 p=>?_,by decide,rfl,by decide,rfl,rfl⟩ (ul0 W Y old (X old) (Z old) b o L.length c) ⟨by kernel_rfl,by kernel_rfl,by kernel_rfl⟩ ⟨by kernel_rfl,by kernel_rfl,by kernel_rfl⟩ (by kernel_rfl) (by kernel_rfl) ?_ (f':=unF 0 b o L.length c 0)
  .simp only[ay,av,aU]at a
   subst a;exact⟨0,_,rfl,rfl,rfl⟩
  .exact⟨bK _,p⟩
  .refine(Wn W Y X Z k m f d j L.length 0 1 _ old (Old.le_refl _) (by omega) ⟨by decide,.inl ⟨rfl,by simp only[dn];rw[aC trivial]⟩⟩ (by unfold OLD;omega)).mono ?_
   intro g w r N' _ q;exact⟨q,λi o e=>by rw[show eH.tr.get i=none from Tr.fO i]at e;cases e⟩
 .exact DoesC.Zh (Z old) (by kernel_rfl) ⟨_,uln W Y old (X old) (Z old),(by decide:1<=OLD),rfl⟩ rfl rfl
end
end
section
variable{P:Program}{Q1:Old->AV->Prop}{args:List AV}{f:AF}{g:FuncId}{h h1:AH}{old old':Old}{v:AV}
theorem jo.yS{E:Env}{R:Old->AF->AH->Prop}(F:Fits P (E.wo old))(FF:eU P (E.wo old)){l:List UK}(A:AtCall P (E.wo old) l f h g args h1)(c:AV.fG 0 args=true)(j:h1.df=0)(m:h1.nx<=OLD)
 (C:jV P E old g args Q1)(B:∀b v,Old.le old b->Q1 b v->jo P E b (lu P (E.wo old) l f h v) h1 R):jo P E old f h R:=by
 obtain⟨obs,e,H⟩:=A;unfold lu at B;cases hp:yu P (E.wo old) l f h with
 |none=>rw[hp]at e;cases e
 |some p=>
  obtain⟨n,h0,o⟩:=p;rw[hp]at e B;simp only at e B;cases i:iZ (E.wo old) n h0 with
  |none=>rw[i]at e;cases e
  |some a=>
   rw[i]at e B;cases a with
   |call f' d g' k q=>
    simp only at e B;cases e;exact jo.of (path_ok F FF l f h hp H) (aS (qo i:h0.nx<=h1.nx) m) λ_ _=>jo.abj F FF i c j m C B
   |_=>cases e
theorem jo.sub{P:Program}{E:Env}{old:Old}{f:AF}{h h':AH}{R:Old->AF->AH->Prop}(ids:List Nat)(g:reach h.tr 100000 ids .e=h'.tr)(a:h'.nx=h.nx)(b:h'.df=h.df)(A:jo P E old f h' R):jo P E old f h R:=λK ι w fr cs k S l m=>by
 have c:∀i o,h'.tr.get i=some o->h.tr.get i=some o:=λi o e=>by
  rw[← g]at e;exact uf (t:=h.tr) 100000 ids .e (λi o e=>by rw[Tr.fO]at e;cases e) i o e
 have n:Sat K ι h' w:=⟨λi o e r=>S.objs i o (c i o e) r,λi j o d p q e1 e2=>S.inj i j o d p q (c i o e1) (c j d e2),S.lo,S.bs,S.old,S.os,S.tape,S.output,S.kV⟩;have:=A K ι w fr cs k n l (by rw[a];exact m);rw[a,b]at this;exact this
theorem JO.explode{t:T}(h:JO old v t):∃pa na ca b kc,v= .agg [.str t.rel,.aO pa na ca,zI t.rule,.aO b t.kids.length kc]:=by
 obtain⟨cs,rfl,h⟩:=h;obtain⟨a,b,kc,ks,rfl,c,d,e⟩:=h.one;obtain⟨pa,na,ca,rfl⟩:=c.shape;exact⟨pa,na,ca,b,kc,rfl⟩
theorem JO.mono'(a:Old.le old old'){t:T}(h:JO old v t):JO old' v t:=by
 obtain⟨cs,rfl,h⟩:=h;exact⟨cs,rfl,h.mono a⟩
theorem UH.mono'(a:Old.le old old'){l:List LN}(h:UH old v l):UH old' v l:=by
 obtain⟨cs,h1,b⟩:=h;exact⟨cs,xQ.mono a h1,b.mono a⟩
theorem Dw{E:Env}(e:iZ (E.wo old) f h=some (.ret v h))(e1:f.ret=true)(e2:f.ds=[])(a:f.x.deferred=false)(b:h.df=0)(c:P.inits.idxOf? f.x.fn=none):jo P E old f h (Last P E v):=jo.here ⟨⟨h,e⟩,e1,e2,a,b,c⟩
end
section
variable(Y:Fe)(Z:Ge)
include Y Z
theorem hb1(old:Old)(F:Fw old)(FF:Gw old)(a:Nat)(cs:List AV)(b:∀h:AH,loadT (E.wo old) h 27 (OLD+a) 0=some (.agg cs)):AtCall prog (E.wo old) [.n 7,.v (.agg cs)] (((XY (.ptr (OLD+a) 0)):AF)) (⟨.e,5030,0⟩) 5 [.agg cs,zP 5030 0] (abB (.cells [zI 1048576] 3 false false)):=
 ⟨[some true=some true,loadT (E.wo old) (abB (.cells [zI 1048576] 3 false false)) 27 (1152921504606846976+a) 0=some (.agg cs)],by kernel_rfl,⟨rfl,b _⟩⟩
end
section
variable(Y:Fe)(Z:Ge)
include Y Z
theorem hb2(old:Old)(F:Fw old)(FF:Gw old)(a:Old)(j:Nat)(cs:List AV)(r:List UInt8)(c:Option (Nat×Nat))(d f:Nat)(u:Int)(g:Option (Nat×Nat))(h i:Nat)(b:Int)(k:(decide (b<=0))=true):DS old ((lu prog (E.wo a) [.n 7,.v (.agg cs)] ((XY (.ptr (OLD+j) 0)):AF) (⟨.e,5030,0⟩) (kR r c d f u g h i))) ((abB (iV b))) ⟨⟨3,false,none,72⟩,zO (zN (zN (zO (zL (zI b)) .e) (.bool true) .e) (zP (1152921504606846976+j) 0) (zN (zO (zL (.bool true)) .e) (zP 5031 0) (zL (.agg cs)))) (zN (zN (zO (zL (.bool true)) .e) (zP 5030 0) .e) (.bool true) (zO .e (zL (kR r c d f u g h i)))),[.code (iQ f3 [1,1,1,1,0,1,0,1]),.code (iQ f3 [1,1,1,1,1])],[],true⟩ (ag9 (eF r c d f u g h i) (iV b)):=
 Ju F FF (obs:=[some true=some true,some (AV.bool (decide (b<=0)))=some (AV.bool true)]) [.n 7,.v (.bool true),.n 8] (by kernel_rfl) ⟨rfl,gu (λz=>some (AV.bool z)) k⟩
end
section
variable(Y:Fe)(Z:Ge)
include Y Z
theorem hb3(old:Old)(F:Fw old)(FF:Gw old)(a:Old)(j:Nat)(cs:List AV)(r:List UInt8)(c:Option (Nat×Nat))(d f:Nat)(u:Int)(g:Option (Nat×Nat))(h i:Nat)(b:Int)(k:(decide (b<=0))=false):DS old (lu prog (E.wo a) [.n 7,.v (.agg cs)] (XY (.ptr (OLD+j) 0)) ⟨.e,5030,0⟩ (kR r c d f u g h i)) (abB (iV b)) XV (ag9 (eF r c d f u g h i) (iV b)):=
 qH F FF [3,5] (Qb 7 k (Qn 4)) (by kernel_rfl)
end
section
variable(Y:Fe)(Z:Ge)
include Y Z
theorem hb4(old:Old)(F:Fw old)(FF:Gw old)(r:List UInt8)(a:Option (Nat×Nat))(b c:Nat)(u:Int)(d:Option (Nat×Nat))(e f:Nat):AtCall prog (E.wo old) [.n 2] ((XV:AF)) ((vI (eF r a b c u d e f))) 6 [kR r a b c u d e f] (vI (eF r a b c u d e f)):=
 ⟨[],by kernel_rfl,trivial⟩
end
section
variable(Y:Fe)(Z:Ge)
include Y Z
theorem ahy(old:Old)(F:Fw old)(FF:Gw old)(g:Old)(r:List UInt8)(a:Option (Nat×Nat))(b c:Nat)(u:Int)(d:Option (Nat×Nat))(e f:Nat)(h:DC old 7 [kR r a b c u d e f] eH (zI 65537) eH)(i:DC old 8 [kR r a b c u d e f] eH (zI 65537) eH):DS old ((lu prog (E.wo g) [.n 2] (XV:AF) ((vI (eF r a b c u d e f))) (.aQ))) ((vI (eF r a b c u d e f))) (ahe (kR r a b c u d e f) (kR r a b c u d e f) (kR r a b c u d e f)) (vI (eF r a b c u d e f)):=
 Ju F FF (obs:=[DC old 7 [kR r a b c u d e f] (vI (eF r a b c u d e f)) (zI 65537) (vI (eF r a b c u d e f)),DC old 8 [kR r a b c u d e f] (vI (eF r a b c u d e f)) (zI 65537) (vI (eF r a b c u d e f))]) [.n 5,.k (zI 65537) (vI (eF r a b c u d e f)),.n 6,.k (zI 65537) (vI (eF r a b c u d e f)),.n 18] (by kernel_rfl) ⟨DoesC.ov h rfl rfl rfl (by kernel_rfl),DoesC.ov i rfl rfl rfl (by kernel_rfl)⟩
end
section
variable(Y:Fe)(Z:Ge)
include Y Z
theorem hb5(old:Old)(F:Fw old)(FF:Gw old)(g:Old)(r:List UInt8)(a:Option (Nat×Nat))(b c:Nat)(u:Int)(d:Option (Nat×Nat))(e f:Nat)(h ln lc:Nat)(n:Nat)(i:DC old 7 [kR r a b c u d e f] eH (zI ↑n) eH)(j:DC old 8 [kR r a b c u d e f] eH (zI ↑n) eH)(k:(decide ((↑n:Int)>65536))=false):DS old (lu prog (E.wo g) [.n 2] XV (vI (eF r a b c u d e f)) (.aO (some (h,0)) ln lc)) (vI (eF r a b c u d e f)) (XU (zI (↑n:Int)) (.aO (some (h,0)) ln lc)) (vI (eF r a b c u d e f)):=
 qH F FF [3,5,6,7] (Qk 5 (DoesC.ov i rfl rfl rfl (by kernel_rfl):DC old 7 [kR r a b c u d e f] (vI (eF r a b c u d e f)) (zI (↑n:Int)) (vI (eF r a b c u d e f))) (Qk 6 (DoesC.ov j rfl rfl rfl (by kernel_rfl):DC old 8 [kR r a b c u d e f] (vI (eF r a b c u d e f)) (zI (↑n:Int)) (vI (eF r a b c u d e f))) (Qb 0 k (Qn 4)))) (by kernel_rfl)
end
section
variable(Y:Fe)(Z:Ge)
include Y Z
theorem hb6(old:Old)(F:Fw old)(FF:Gw old)(r:List UInt8)(a:Option (Nat×Nat))(b c:Nat)(u:Int)(d:Option (Nat×Nat))(e f:Nat)(g ln lc:Nat)(n:Nat):AtCall prog (E.wo old) [.n 6] (((XU (zI ((↑n:Int))) (.aO (some (g,0)) ln lc)):AF)) ((vI (eF r a b c u d e f))) 9 [.aO (some (g,0)) ln lc,zI (IntKind.i64.wrap ((↑ln:Int) - 1)),zI ((↑n:Int))] (vI (eF r a b c u d e f)):=
 ⟨[],by kernel_rfl,trivial⟩
end
section
variable(Y:Fe)(Z:Ge)
include Y Z
theorem hb7(old:Old)(F:Fw old)(FF:Gw old)(p:Old)(r:List UInt8)(g:Option (Nat×Nat))(h i:Nat)(u:Int)(j:Option (Nat×Nat))(l m:Nat)(o ln lc:Nat)(n:Nat)(a:Option (Nat×Nat))(b c:Nat)(d:Option (Nat×Nat))(e f:Nat)(q:DC old 10 [kR r a b c u d e f,kR r g h i u j l m] eH (.bool true) eH)(s:DC old 11 [.aO (some (o,0)) ln lc] eH (.bool true) eH)(t:(decide ((↑n:Int)>1))=false):DS old ((lu prog (E.wo p) [.n 6] ((XU (zI ((↑n:Int))) (.aO (some (o,0)) ln lc)):AF) ((vI (eF r g h i u j l m))) (.gI [kR r a b c u d e f,zI 0]))) ((vI (eF r g h i u j l m))) (ahd (zI ((↑n:Int))) (zI (IntKind.i64.wrap ((↑ln:Int) - 1))) (.gI [kR r a b c u d e f,zI 0]) (kR r a b c u d e f) (.gI [kR r a b c u d e f,zI 0]) (.aO (some (o,0)) ln lc) (zI ((↑n:Int))) (zI ((↑n:Int))) (.aO (some (o,0)) ln lc) (kR r g h i u j l m) (kR r a b c u d e f) (.aO (some (o,0)) ln lc) (.aO (some (o,0)) ln lc) (zI ((↑ln:Int)))) (Iq (eF r g h i u j l m) (eF r a b c u d e f)):=
 Ju F FF (obs:=[DC old 10 [kR r a b c u d e f,kR r g h i u j l m] (Iq (eF r g h i u j l m) (eF r a b c u d e f)) (.bool true) (Iq (eF r g h i u j l m) (eF r a b c u d e f)),some true=some true,some (AV.bool (decide ((↑n:Int)>1)))=some (AV.bool false),DC old 11 [.aO (some (o,0)) ln lc] (Iq (eF r g h i u j l m) (eF r a b c u d e f)) (.bool true) (Iq (eF r g h i u j l m) (eF r a b c u d e f))]) [.n 19,.k (.bool true) (Iq (eF r g h i u j l m) (eF r a b c u d e f)),.n 9,.v (.bool false),.n 6,.k (.bool true) (Iq (eF r g h i u j l m) (eF r a b c u d e f)),.n 3] (by kernel_rfl) ⟨DoesC.ov q rfl rfl rfl (by kernel_rfl),rfl,gu (λz=>some (AV.bool z)) t,DoesC.ov s rfl rfl rfl (by kernel_rfl)⟩
end
section
variable(Y:Fe)(Z:Ge)
include Y Z
theorem hb8(old:Old)(F:Fw old)(FF:Gw old)(p:Old)(r:List UInt8)(g:Option (Nat×Nat))(h i:Nat)(u:Int)(j:Option (Nat×Nat))(l m:Nat)(o ln lc:Nat)(n:Nat)(a:Option (Nat×Nat))(b c:Nat)(d:Option (Nat×Nat))(e f:Nat)(q:DC old 10 [kR r a b c u d e f,kR r g h i u j l m] eH (.bool true) eH)(s:DC old 11 [.aO (some (o,0)) ln lc] eH (.bool true) eH)(t:DC old 9 [.aO (some (o,0)) ln lc,zI (IntKind.i64.wrap ((↑ln:Int) - 1)),zI (IntKind.i64.wrap ((↑n:Int) - 1))] eH (.gI [Ya8,zI 151]) eH)(w:(decide ((↑n:Int)>1))=true):DS old ((lu prog (E.wo p) [.n 6] ((XU (zI ((↑n:Int))) (.aO (some (o,0)) ln lc)):AF) ((vI (eF r g h i u j l m))) (.gI [kR r a b c u d e f,zI 0]))) ((vI (eF r g h i u j l m))) (ahc (zI ((↑n:Int))) (zI ((↑n:Int))) (zI (IntKind.i64.wrap ((↑ln:Int) - 1))) (.gI [kR r a b c u d e f,zI 0]) (kR r a b c u d e f) (.aO (some (o,0)) ln lc) (.gI [kR r a b c u d e f,zI 0]) (.aO (some (o,0)) ln lc) (zI ((↑ln:Int))) (zI (IntKind.i64.wrap ((↑n:Int) - 1))) (zI ((↑n:Int))) (zI ((↑n:Int))) (.aO (some (o,0)) ln lc) (kR r g h i u j l m) (.aO (some (o,0)) ln lc) (kR r a b c u d e f) (.aO (some (o,0)) ln lc) (.aO (some (o,0)) ln lc) (zI ((↑ln:Int))) (zI (IntKind.i64.wrap ((↑ln:Int) - 1)))) (adu (eF r g h i u j l m) (eF r a b c u d e f)):=
 Ju F FF (obs:=[DC old 10 [kR r a b c u d e f,kR r g h i u j l m] (Iq (eF r g h i u j l m) (eF r a b c u d e f)) (.bool true) (Iq (eF r g h i u j l m) (eF r a b c u d e f)),some true=some true,some (AV.bool (decide ((↑n:Int)>1)))=some (AV.bool true),DC old 9 [.aO (some (o,0)) ln lc,zI (IntKind.i64.wrap ((↑ln:Int) - 1)),zI (IntKind.i64.wrap ((↑n:Int) - 1))] (Iq (eF r g h i u j l m) (eF r a b c u d e f)) (.gI [Ya8,zI 151]) (Iq (eF r g h i u j l m) (eF r a b c u d e f)),DC old 11 [.aO (some (o,0)) ln lc] (adu (eF r g h i u j l m) (eF r a b c u d e f)) (.bool true) (adu (eF r g h i u j l m) (eF r a b c u d e f))]) [.n 19,.k (.bool true) (Iq (eF r g h i u j l m) (eF r a b c u d e f)),.n 9,.v (.bool true),.n 10,.k (.gI [Ya8,zI 151]) (Iq (eF r g h i u j l m) (eF r a b c u d e f)),.n 17,.k (.bool true) (adu (eF r g h i u j l m) (eF r a b c u d e f)),.n 3] (by kernel_rfl) ⟨DoesC.ov q rfl rfl rfl (by kernel_rfl),rfl,gu (λz=>some (AV.bool z)) w,DoesC.ov t rfl rfl rfl (by kernel_rfl),DoesC.ov s rfl rfl rfl (by kernel_rfl)⟩
end
end Go.Ev
